/- The Lean functions that the program's functions are lifted to, and the plain laws about them. -/
import Derived.Test.YtdmddoljldjjeaaA2
set_option linter.unusedVariables false
set_option linter.unusedSimpArgs false
namespace Go.Proofs.Ytdmddoljldjjeaa
open Go Go.Ab
structure Value where
  Kind : Int
  Num : Int
  Str : List UInt8
  deriving DecidableEq
structure Row where
  ID : Int
  Values : List Value
  deriving DecidableEq
structure Drossref55_Result where
  Value : Value
  Origin : Int
  deriving DecidableEq
structure Drossref55_Row where
  Row : Row
  Origins : List Int
  deriving DecidableEq
structure Table where
  Name : List UInt8
  Attrs : List (List UInt8)
  Rows : List Row
  deriving DecidableEq
structure Merged where
  Table : Table
  Clusters : List (List Int)
  Origins : List (List Int)
  deriving DecidableEq
structure CellRef where
  ID : Int
  Attr : Int
  deriving DecidableEq
noncomputable def survivor_checkRows_l1 (rows_1 : List Row) : Int → Option (LS (Int) ((Unit) ⊕ (Int))) := fun t10_10 =>
  if t10_10 < (rows_1.length : Int) then
  (idx rows_1 t10_10).bind fun (x_24 : Row) =>
  (rows_1[0]?).bind fun (x_26 : Row) =>
  if ((x_24.Values.length : Int) != (x_26.Values.length : Int)) = true then
  some (.done (.inr 6))
  else
  some (.next (IntKind.i64.wrap (t10_10 + 1)))
  else
  some (.done (.inl ()))
noncomputable def survivor_checkRows (rows_1 : List Row) : Option (Int) :=
  if ((rows_1.length : Int) == 0) = true then
  some 12
  else
  (LoopF (survivor_checkRows_l1 rows_1) 0).bind (fun o => match o with
  | .inl () =>
  some 0
  | .inr r_31 =>
  some r_31)
noncomputable def slices_IndexFunc_Value_l1 (s_35 : List Value) (f_36 : Value → Option (Bool)) : Int → Option (LS (Int) ((Unit) ⊕ (Int))) := fun t8_46 =>
  if t8_46 < (s_35.length : Int) then
  (idx s_35 t8_46).bind fun (x_56 : Value) =>
  (f_36 x_56).bind fun (r_58 : Bool) =>
  if r_58 = true then
  some (.done (.inr t8_46))
  else
  some (.next (IntKind.i64.wrap (t8_46 + 1)))
  else
  some (.done (.inl ()))
noncomputable def slices_IndexFunc_Value (s_35 : List Value) (f_36 : Value → Option (Bool)) : Option (Int) :=
  (LoopF (slices_IndexFunc_Value_l1 s_35 f_36) 0).bind (fun o => match o with
  | .inl () =>
  some (-1)
  | .inr r_63 =>
  some r_63)
noncomputable def slices_ContainsFunc_Value (s_67 : List Value) (f_68 : Value → Option (Bool)) : Option (Bool) :=
  (slices_IndexFunc_Value s_67 f_68).bind fun (r_71 : Int) =>
  some (decide (r_71 ≥ 0))
noncomputable def value_Valid (v_74 : Value) : Option (Bool) :=
  if (v_74.Kind == 0) = true then
  if (v_74.Num == 0) = true then
  some (v_74.Str == [])
  else
  some false
  else
  if (v_74.Kind == 1) = true then
  some (v_74.Str == [])
  else
  if (v_74.Kind == 2) = true then
  if (v_74.Num == 0) = true then
  some (decide ((v_74.Str.length : Int) ≤ 200))
  else
  some false
  else
  if (v_74.Kind == 3) = true then
  if v_74.Num ≥ 1 then
  some (v_74.Str == [])
  else
  some false
  else
  some false
noncomputable def survivor_checkValues_1 (v_83 : Value) : Option (Bool) :=
  (value_Valid v_83).bind fun (r_84 : Bool) =>
  some (!r_84)
noncomputable def survivor_checkValues_l1 (rows_87 : List Row) : (Int × Int) → Option (LS (Int × Int) ((Unit) ⊕ (Int))) := fun (last_99, t8_100) =>
  if t8_100 < (rows_87.length : Int) then
  (idx rows_87 t8_100).bind fun (x_116 : Row) =>
  if x_116.ID ≤ last_99 then
  some (.done (.inr 1))
  else
  (slices_ContainsFunc_Value x_116.Values (fun (y_119 : Value) => survivor_checkValues_1 y_119)).bind fun (r_120 : Bool) =>
  if r_120 = true then
  some (.done (.inr 1))
  else
  some (.next (x_116.ID, (IntKind.i64.wrap (t8_100 + 1))))
  else
  some (.done (.inl ()))
noncomputable def survivor_checkValues (rows_87 : List Row) : Option (Int) :=
  (LoopF (survivor_checkValues_l1 rows_87) (0, 0)).bind (fun o => match o with
  | .inl () =>
  some 0
  | .inr r_125 =>
  some r_125)
noncomputable def survivor_validRule (rule_129 : Int) : Option (Bool) :=
  if rule_129 ≥ 1 then
  some (decide (rule_129 ≤ 5))
  else
  some false
noncomputable def survivor_count_l1 (l_132 : List Value) (v_133 : Value) : (Int × Int) → Option (LS (Int × Int) (Int)) := fun (n_141, t10_142) =>
  if t10_142 < (l_132.length : Int) then
  (idx l_132 t10_142).bind fun (x_155 : Value) =>
  if ((x_155.Kind == v_133.Kind) && ((x_155.Num == v_133.Num) && (x_155.Str == v_133.Str))) = true then
  some (.next ((IntKind.i64.wrap (n_141 + 1)), (IntKind.i64.wrap (t10_142 + 1))))
  else
  some (.next (n_141, (IntKind.i64.wrap (t10_142 + 1))))
  else
  some (.done n_141)
noncomputable def survivor_count (l_132 : List Value) (v_133 : Value) : Option (Int) :=
  (LoopF (survivor_count_l1 l_132 v_133) (0, 0)).bind (fun n_150 =>
  some n_150)
noncomputable def cmp_Or_int_l1 (vals_162 : List Int) : Int → Option (LS (Int) ((Unit) ⊕ (Int))) := fun t8_170 =>
  if t8_170 < (vals_162.length : Int) then
  (idx vals_162 t8_170).bind fun (x_182 : Int) =>
  if (x_182 != 0) = true then
  some (.done (.inr x_182))
  else
  some (.next (IntKind.i64.wrap (t8_170 + 1)))
  else
  some (.done (.inl ()))
noncomputable def cmp_Or_int (vals_162 : List Int) : Option (Int) :=
  (LoopF (cmp_Or_int_l1 vals_162) 0).bind (fun o => match o with
  | .inl () =>
  some 0
  | .inr r_187 =>
  some r_187)
noncomputable def cmp_isNaN_int (x_191 : Int) : Option (Bool) :=
  some (x_191 != x_191)
noncomputable def cmp_Compare_int (x_193 : Int) (y_194 : Int) : Option (Int) :=
  (cmp_isNaN_int x_193).bind fun (r_197 : Bool) =>
  (cmp_isNaN_int y_194).bind fun (r_201 : Bool) =>
  if r_197 = true then
  if r_201 = true then
  some 0
  else
  some (-1)
  else
  if r_201 = true then
  some 1
  else
  if x_193 < y_194 then
  some (-1)
  else
  if x_193 > y_194 then
  some 1
  else
  some 0
noncomputable def cmp_isNaN_int64 (x_209 : Int) : Option (Bool) :=
  some (x_209 != x_209)
noncomputable def cmp_Compare_int64 (x_211 : Int) (y_212 : Int) : Option (Int) :=
  (cmp_isNaN_int64 x_211).bind fun (r_215 : Bool) =>
  (cmp_isNaN_int64 y_212).bind fun (r_219 : Bool) =>
  if r_215 = true then
  if r_219 = true then
  some 0
  else
  some (-1)
  else
  if r_219 = true then
  some 1
  else
  if x_211 < y_212 then
  some (-1)
  else
  if x_211 > y_212 then
  some 1
  else
  some 0
noncomputable def bytealg_CompareString (a_227 : List UInt8) (b_228 : List UInt8) : Option (Int) :=
  some (Lib.compareBytes a_227 b_228)
noncomputable def strings_Compare (a_232 : List UInt8) (b_233 : List UInt8) : Option (Int) :=
  (bytealg_CompareString a_232 b_233).bind fun (r_234 : Int) =>
  some r_234
noncomputable def value_Compare (a_237 : Value) (b_238 : Value) : Option (Int) :=
  (cmp_Compare_int a_237.Kind b_238.Kind).bind fun (r_239 : Int) =>
  (cmp_Compare_int64 a_237.Num b_238.Num).bind fun (r_241 : Int) =>
  (strings_Compare a_237.Str b_238.Str).bind fun (r_243 : Int) =>
  (cmp_Or_int [r_239, r_241, r_243]).bind fun (r_245 : Int) =>
  some r_245
noncomputable def survivor_better (l_248 : List Value) (v_249 : Value) (best_250 : Value) (rule_251 : Int) : Option (Bool) :=
  if (rule_251 == 2) = true then
  (survivor_count l_248 v_249).bind fun (r_253 : Int) =>
  (survivor_count l_248 best_250).bind fun (r_255 : Int) =>
  some (decide (r_253 > r_255))
  else
  if (rule_251 == 3) = true then
  if (v_249.Kind == 2) = true then
  if (best_250.Kind != 2) = true then
  some true
  else
  some (decide ((v_249.Str.length : Int) > (best_250.Str.length : Int)))
  else
  some false
  else
  if (rule_251 == 4) = true then
  (value_Compare v_249 best_250).bind fun (r_261 : Int) =>
  some (decide (r_261 < 0))
  else
  if (rule_251 == 5) = true then
  (value_Compare v_249 best_250).bind fun (r_264 : Int) =>
  some (decide (r_264 > 0))
  else
  some false
noncomputable def slices_IndexFunc_Row_l1 (s_267 : List Row) (f_268 : Row → Option (Bool)) : Int → Option (LS (Int) ((Unit) ⊕ (Int))) := fun t8_278 =>
  if t8_278 < (s_267.length : Int) then
  (idx s_267 t8_278).bind fun (x_288 : Row) =>
  (f_268 x_288).bind fun (r_290 : Bool) =>
  if r_290 = true then
  some (.done (.inr t8_278))
  else
  some (.next (IntKind.i64.wrap (t8_278 + 1)))
  else
  some (.done (.inl ()))
noncomputable def slices_IndexFunc_Row (s_267 : List Row) (f_268 : Row → Option (Bool)) : Option (Int) :=
  (LoopF (slices_IndexFunc_Row_l1 s_267 f_268) 0).bind (fun o => match o with
  | .inl () =>
  some (-1)
  | .inr r_295 =>
  some r_295)
noncomputable def survivor_choose_1 (r_299 : Row) (c_300 : Int) (c_301 : Value) : Option (Bool) :=
  (idx r_299.Values c_300).bind fun (x_302 : Value) =>
  some ((x_302.Kind == c_301.Kind) && ((x_302.Num == c_301.Num) && (x_302.Str == c_301.Str)))
noncomputable def survivor_choose_l1 (rows_305 : List Row) (attr_306 : Int) : (List Value × Int) → Option (LS (List Value × Int) (List Value)) := fun (l_320, t18_321) =>
  if t18_321 < (rows_305.length : Int) then
  (idx rows_305 t18_321).bind fun (x_339 : Row) =>
  (idx x_339.Values attr_306).bind fun (x_343 : Value) =>
  if (x_343.Kind != 0) = true then
  if roomB (l_320.length + 1) 32 = true then
  some (.next ((l_320 ++ [x_343]), (IntKind.i64.wrap (t18_321 + 1))))
  else none
  else
  some (.next (l_320, (IntKind.i64.wrap (t18_321 + 1))))
  else
  some (.done l_320)
noncomputable def survivor_choose_l2 (rule_307 : Int) (l_334 : List Value) : (Value × Int) → Option (LS (Value × Int) (Value)) := fun (best_369, t49_370) =>
  if t49_370 < (((l_334.length - 1) : Nat) : Int) then
  (idx ((l_334.drop 1).take (l_334.length - 1)) t49_370).bind fun (x_388 : Value) =>
  (survivor_better l_334 x_388 best_369 rule_307).bind fun (r_391 : Bool) =>
  if r_391 = true then
  some (.next (x_388, (IntKind.i64.wrap (t49_370 + 1))))
  else
  some (.next (best_369, (IntKind.i64.wrap (t49_370 + 1))))
  else
  some (.done best_369)
noncomputable def survivor_choose (rows_305 : List Row) (attr_306 : Int) (rule_307 : Int) : Option (Value × Int) :=
  (LoopF (survivor_choose_l1 rows_305 attr_306) ([], 0)).bind (fun l_334 =>
  if (((l_334.length : Nat) : Int) == 0) = true then
  (rows_305[0]?).bind fun (x_350 : Row) =>
  some ((Value.mk 0 0 []), x_350.ID)
  else
  (l_334[0]?).bind fun (x_354 : Value) =>
  if (1 : Int) ≤ ((l_334.length : Nat) : Int) then
  (LoopF (survivor_choose_l2 rule_307 l_334) (x_354, 0)).bind (fun best_382 =>
  (slices_IndexFunc_Row rows_305 (fun (y_399 : Row) => survivor_choose_1 y_399 attr_306 best_382)).bind fun (r_400 : Int) =>
  (idx rows_305 r_400).bind fun (x_402 : Row) =>
  some (best_382, x_402.ID))
  else none)
noncomputable def survivor_Choose (rows_407 : List Row) (attr_408 : Int) (rule_409 : Int) : Option (Value × Int × Int) :=
  (survivor_checkRows rows_407).bind fun (r_412 : Int) =>
  if (r_412 != 0) = true then
  some ((Value.mk 0 0 []), 0, r_412)
  else
  if attr_408 < 0 then
  some ((Value.mk 0 0 []), 0, 6)
  else
  (rows_407[0]?).bind fun (x_418 : Row) =>
  if attr_408 ≥ (x_418.Values.length : Int) then
  some ((Value.mk 0 0 []), 0, 6)
  else
  (survivor_checkValues rows_407).bind fun (r_423 : Int) =>
  if (r_423 != 0) = true then
  some ((Value.mk 0 0 []), 0, r_423)
  else
  (survivor_validRule rule_409).bind fun (r_426 : Bool) =>
  if r_426 = true then
  (survivor_choose rows_407 attr_408 rule_409).bind fun (r_431 : Value × Int) =>
  some (r_431.1, r_431.2, 0)
  else
  some ((Value.mk 0 0 []), 0, 1)
noncomputable def slices_IndexFunc_int_l1 (s_434 : List Int) (f_435 : Int → Option (Bool)) : Int → Option (LS (Int) ((Unit) ⊕ (Int))) := fun t8_445 =>
  if t8_445 < (s_434.length : Int) then
  (idx s_434 t8_445).bind fun (x_455 : Int) =>
  (f_435 x_455).bind fun (r_457 : Bool) =>
  if r_457 = true then
  some (.done (.inr t8_445))
  else
  some (.next (IntKind.i64.wrap (t8_445 + 1)))
  else
  some (.done (.inl ()))
noncomputable def slices_IndexFunc_int (s_434 : List Int) (f_435 : Int → Option (Bool)) : Option (Int) :=
  (LoopF (slices_IndexFunc_int_l1 s_434 f_435) 0).bind (fun o => match o with
  | .inl () =>
  some (-1)
  | .inr r_462 =>
  some r_462)
noncomputable def slices_ContainsFunc_int (s_466 : List Int) (f_467 : Int → Option (Bool)) : Option (Bool) :=
  (slices_IndexFunc_int s_466 f_467).bind fun (r_470 : Int) =>
  some (decide (r_470 ≥ 0))
noncomputable def survivor_Merge_1 (r_473 : Int) : Option (Bool) :=
  (survivor_validRule r_473).bind fun (r_474 : Bool) =>
  some (!r_474)
noncomputable def survivor_Merge_l1 (rows_477 : List Row) (rules_478 : List Int) : (List Value × List Int × Int) → Option (LS (List Value × List Int × Int) (List Value × List Int)) := fun (out_509, origins_510, t46_511) =>
  if t46_511 < (rules_478.length : Int) then
  (idx rules_478 t46_511).bind fun (x_531 : Int) =>
  (survivor_choose rows_477 t46_511 x_531).bind fun (r_535 : Value × Int) =>
  if roomB (out_509.length + 1) 32 = true then
  if roomB (origins_510.length + 1) 8 = true then
  some (.next ((out_509 ++ [r_535.1]), (origins_510 ++ [r_535.2]), (IntKind.i64.wrap (t46_511 + 1))))
  else none
  else none
  else
  some (.done (out_509, origins_510))
noncomputable def survivor_Merge (rows_477 : List Row) (rules_478 : List Int) : Option (Row × List Int × Int) :=
  (survivor_checkRows rows_477).bind fun (r_481 : Int) =>
  if (r_481 != 0) = true then
  some ((Row.mk 0 []), [], r_481)
  else
  (rows_477[0]?).bind fun (x_484 : Row) =>
  if ((rules_478.length : Int) != (x_484.Values.length : Int)) = true then
  some ((Row.mk 0 []), [], 6)
  else
  (survivor_checkValues rows_477).bind fun (r_489 : Int) =>
  if (r_489 != 0) = true then
  some ((Row.mk 0 []), [], r_489)
  else
  (slices_ContainsFunc_int rules_478 (fun (y_492 : Int) => survivor_Merge_1 y_492)).bind fun (r_493 : Bool) =>
  if r_493 = true then
  some ((Row.mk 0 []), [], 1)
  else
  (LoopF (survivor_Merge_l1 rows_477 rules_478) ([], [], 0)).bind (fun (out_525, origins_526) =>
  some ((Row.mk x_484.ID out_525), origins_526, 0))
noncomputable def drossref03_IDs_l1 (a_544 : List Int) (b_545 : List Int) : Int → Option (LS (Int) ((Unit) ⊕ (Bool))) := fun i_553 =>
  if i_553 < (a_544.length : Int) then
  (idx a_544 i_553).bind fun (x_561 : Int) =>
  (idx b_545 i_553).bind fun (x_563 : Int) =>
  if (x_561 != x_563) = true then
  some (.done (.inr false))
  else
  some (.next (IntKind.i64.wrap (i_553 + 1)))
  else
  some (.done (.inl ()))
noncomputable def drossref03_IDs (a_544 : List Int) (b_545 : List Int) : Option (Bool) :=
  if ((a_544.length : Int) != (b_545.length : Int)) = true then
  some false
  else
  (LoopF (drossref03_IDs_l1 a_544 b_545) 0).bind (fun o => match o with
  | .inl () =>
  some true
  | .inr r_568 =>
  some r_568)
noncomputable def drosslaw55_example_1 (s_572 : List UInt8) : Option (Value) :=
  some (Value.mk 2 0 s_572)
noncomputable def drosslaw55_example_2 (n_574 : Int) : Option (Value) :=
  some (Value.mk 1 n_574 [])
noncomputable def drosslaw55_example : Option (List Row) :=
  (drosslaw55_example_1 [74, 111]).bind fun (r_576 : Value) =>
  (drosslaw55_example_1 [74, 111, 101]).bind fun (r_578 : Value) =>
  (drosslaw55_example_2 7).bind fun (r_580 : Value) =>
  (drosslaw55_example_1 [74, 111]).bind fun (r_582 : Value) =>
  (drosslaw55_example_2 8).bind fun (r_584 : Value) =>
  some [(Row.mk 3 [r_576, (Value.mk 0 0 [])]), (Row.mk 4 [r_578, r_580]), (Row.mk 9 [r_582, r_584])]
noncomputable def drosslaw55_awake : Option (Bool) :=
  (drosslaw55_example ).bind fun (r_591 : List Row) =>
  (survivor_Choose r_591 0 3).bind fun (r_593 : Value × Int × Int) =>
  (drosslaw55_example ).bind fun (r_599 : List Row) =>
  (survivor_Merge r_599 [2, 1]).bind fun (r_601 : Row × List Int × Int) =>
  if (r_593.2.2 == 0) = true then
  if (r_601.2.2 == 0) = true then
  if (r_593.1.Str == [74, 111, 101]) = true then
  if (r_593.2.1 == 4) = true then
  if (r_601.1.ID == 3) = true then
  (r_601.1.Values[0]?).bind fun (x_610 : Value) =>
  if (x_610.Str == [74, 111]) = true then
  (r_601.1.Values[1]?).bind fun (x_615 : Value) =>
  if (x_615.Num == 7) = true then
  (drossref03_IDs r_601.2.1 [3, 4]).bind fun (r_618 : Bool) =>
  some r_618
  else
  some false
  else
  some false
  else
  some false
  else
  some false
  else
  some false
  else
  some false
  else
  some false
noncomputable def slices_Clone_Row (l : List Row) : Option (List Row) := if roomB l.length 32 = true then some l else none
noncomputable def drossref55_rowsError_l1 (rows_621 : List Row) : Int → Option (LS (Int) ((Unit) ⊕ (Int))) := fun i_627 =>
  if i_627 < (rows_621.length : Int) then
  (idx rows_621 i_627).bind fun (x_635 : Row) =>
  (rows_621[0]?).bind fun (x_637 : Row) =>
  if ((x_635.Values.length : Int) != (x_637.Values.length : Int)) = true then
  some (.done (.inr 6))
  else
  some (.next (IntKind.i64.wrap (i_627 + 1)))
  else
  some (.done (.inl ()))
noncomputable def drossref55_rowsError (rows_621 : List Row) : Option (Int) :=
  if ((rows_621.length : Int) == 0) = true then
  some 12
  else
  (LoopF (drossref55_rowsError_l1 rows_621) 0).bind (fun o => match o with
  | .inl () =>
  some 0
  | .inr r_642 =>
  some r_642)
noncomputable def drossref01_Valid (v_646 : Value) : Option (Bool) :=
  if (v_646.Kind == 0) = true then
  if (v_646.Num == 0) = true then
  some (v_646.Str == [])
  else
  some false
  else
  if (v_646.Kind == 1) = true then
  some (v_646.Str == [])
  else
  if (v_646.Kind == 2) = true then
  if (v_646.Num == 0) = true then
  some (decide ((v_646.Str.length : Int) ≤ 200))
  else
  some false
  else
  if (v_646.Kind == 3) = true then
  if v_646.Num ≥ 1 then
  some (v_646.Str == [])
  else
  some false
  else
  some false
noncomputable def drossref01_Valids_l1 (l_655 : List Value) : Int → Option (LS (Int) ((Unit) ⊕ (Bool))) := fun i_662 =>
  if i_662 < (l_655.length : Int) then
  (idx l_655 i_662).bind fun (x_670 : Value) =>
  (drossref01_Valid x_670).bind fun (r_672 : Bool) =>
  if r_672 = true then
  some (.next (IntKind.i64.wrap (i_662 + 1)))
  else
  some (.done (.inr false))
  else
  some (.done (.inl ()))
noncomputable def drossref01_Valids (l_655 : List Value) : Option (Bool) :=
  (LoopF (drossref01_Valids_l1 l_655) 0).bind (fun o => match o with
  | .inl () =>
  some true
  | .inr r_677 =>
  some r_677)
noncomputable def drossref55_valid_l1 (rows_681 : List Row) : (Int × Int) → Option (LS (Int × Int) ((Unit) ⊕ (Bool))) := fun (before_689, i_690) =>
  if i_690 < (rows_681.length : Int) then
  (idx rows_681 i_690).bind fun (x_699 : Row) =>
  if x_699.ID ≤ before_689 then
  some (.done (.inr false))
  else
  (drossref01_Valids x_699.Values).bind fun (r_702 : Bool) =>
  if r_702 = true then
  some (.next (x_699.ID, (IntKind.i64.wrap (i_690 + 1))))
  else
  some (.done (.inr false))
  else
  some (.done (.inl ()))
noncomputable def drossref55_valid (rows_681 : List Row) : Option (Bool) :=
  (LoopF (drossref55_valid_l1 rows_681) (0, 0)).bind (fun o => match o with
  | .inl () =>
  some true
  | .inr r_707 =>
  some r_707)
noncomputable def drossref01_sign (a_711 : Int) (b_712 : Int) : Option (Int) :=
  if a_711 < b_712 then
  some (-1)
  else
  if a_711 > b_712 then
  some 1
  else
  some 0
noncomputable def drossref01_strings_l1 (a_716 : List UInt8) (b_717 : List UInt8) : Int → Option (LS (Int) ((Unit) ⊕ (Int))) := fun i_731 =>
  if i_731 < (a_716.length : Int) then
  if i_731 < (b_717.length : Int) then
  (idx a_716 i_731).bind fun (c_751 : UInt8) =>
  (idx b_717 i_731).bind fun (c_753 : UInt8) =>
  if (((c_751.toNat : Nat) : Int) != ((c_753.toNat : Nat) : Int)) = true then
  (drossref01_sign (IntKind.i64.wrap ((c_751.toNat : Nat) : Int)) (IntKind.i64.wrap ((c_753.toNat : Nat) : Int))).bind fun (r_756 : Int) =>
  some (.done (.inr r_756))
  else
  some (.next (IntKind.i64.wrap (i_731 + 1)))
  else
  some (.done (.inl ()))
  else
  some (.done (.inl ()))
noncomputable def drossref01_strings (a_716 : List UInt8) (b_717 : List UInt8) : Option (Int) :=
  (LoopF (drossref01_strings_l1 a_716 b_717) 0).bind (fun o => match o with
  | .inl () =>
  (drossref01_sign (a_716.length : Int) (b_717.length : Int)).bind fun (r_760 : Int) =>
  some r_760
  | .inr r_762 =>
  some r_762)
noncomputable def drossref01_Compare (a_766 : Value) (b_767 : Value) : Option (Int) :=
  (drossref01_sign a_766.Kind b_767.Kind).bind fun (r_768 : Int) =>
  if (r_768 != 0) = true then
  some r_768
  else
  (drossref01_sign a_766.Num b_767.Num).bind fun (r_771 : Int) =>
  if (r_771 != 0) = true then
  some r_771
  else
  (drossref01_strings a_766.Str b_767.Str).bind fun (r_774 : Int) =>
  some r_774
noncomputable def drossref55_times_l1 (rows_777 : List Row) (attr_778 : Int) (v_779 : Value) : (Int × Int) → Option (LS (Int × Int) (Int)) := fun (n_788, i_789) =>
  if i_789 < (rows_777.length : Int) then
  (idx rows_777 i_789).bind fun (x_800 : Row) =>
  (idx x_800.Values attr_778).bind fun (x_802 : Value) =>
  (drossref01_Compare x_802 v_779).bind fun (r_804 : Int) =>
  if (r_804 == 0) = true then
  some (.next ((IntKind.i64.wrap (n_788 + 1)), (IntKind.i64.wrap (i_789 + 1))))
  else
  some (.next (n_788, (IntKind.i64.wrap (i_789 + 1))))
  else
  some (.done n_788)
noncomputable def drossref55_times (rows_777 : List Row) (attr_778 : Int) (v_779 : Value) : Option (Int) :=
  (LoopF (drossref55_times_l1 rows_777 attr_778 v_779) (0, 0)).bind (fun n_798 =>
  some n_798)
noncomputable def drossref55_better (rows_811 : List Row) (attr_812 : Int) (rule_813 : Int) (v_814 : Value) (old_815 : Value) : Option (Bool) :=
  if (rule_813 == 2) = true then
  (drossref55_times rows_811 attr_812 v_814).bind fun (r_817 : Int) =>
  (drossref55_times rows_811 attr_812 old_815).bind fun (r_819 : Int) =>
  some (decide (r_817 > r_819))
  else
  if (rule_813 == 3) = true then
  if (v_814.Kind == 2) = true then
  if (old_815.Kind != 2) = true then
  some true
  else
  some (decide ((v_814.Str.length : Int) > (old_815.Str.length : Int)))
  else
  some false
  else
  (drossref01_Compare v_814 old_815).bind fun (r_826 : Int) =>
  if (rule_813 == 4) = true then
  if r_826 < 0 then
  some true
  else
  if (rule_813 == 5) = true then
  some (decide (r_826 > 0))
  else
  some false
  else
  if (rule_813 == 5) = true then
  some (decide (r_826 > 0))
  else
  some false
noncomputable def drossref55_Pick_l1 (rows_833 : List Row) (attr_834 : Int) (rule_835 : Int) : (Drossref55_Result × Int) → Option (LS (Drossref55_Result × Int) (Drossref55_Result)) := fun (out_852, i_853) =>
  if i_853 < (rows_833.length : Int) then
  (idx rows_833 i_853).bind fun (x_882 : Row) =>
  (idx x_882.Values attr_834).bind fun (x_884 : Value) =>
  (show Option (Bool) from
  if (x_884.Kind != 0) = true then
  if (out_852.Origin == 0) = true then
  some true
  else
  (drossref55_better rows_833 attr_834 rule_835 x_884 out_852.Value).bind fun (r_895 : Bool) =>
  some r_895
  else
  some false).bind (fun t40_890 =>
  if t40_890 = true then
  some (.next ((Drossref55_Result.mk x_884 x_882.ID), (IntKind.i64.wrap (i_853 + 1))))
  else
  some (.next (out_852, (IntKind.i64.wrap (i_853 + 1)))))
  else
  some (.done out_852)
noncomputable def drossref55_Pick (rows_833 : List Row) (attr_834 : Int) (rule_835 : Int) : Option (Drossref55_Result) :=
  (LoopF (drossref55_Pick_l1 rows_833 attr_834 rule_835) ((Drossref55_Result.mk (Value.mk 0 0 []) 0), 0)).bind (fun out_876 =>
  if (out_876.Origin == 0) = true then
  (rows_833[0]?).bind fun (x_902 : Row) =>
  some (Drossref55_Result.mk out_876.Value x_902.ID)
  else
  some out_876)
noncomputable def drossref55_Choose (rows_906 : List Row) (attr_907 : Int) (rule_908 : Int) : Option (Drossref55_Result × Int) :=
  (drossref55_rowsError rows_906).bind fun (r_911 : Int) =>
  if (r_911 != 0) = true then
  some ((Drossref55_Result.mk (Value.mk 0 0 []) 0), r_911)
  else
  if attr_907 < 0 then
  some ((Drossref55_Result.mk (Value.mk 0 0 []) 0), 6)
  else
  (rows_906[0]?).bind fun (x_917 : Row) =>
  if attr_907 ≥ (x_917.Values.length : Int) then
  some ((Drossref55_Result.mk (Value.mk 0 0 []) 0), 6)
  else
  (drossref55_valid rows_906).bind fun (r_920 : Bool) =>
  if r_920 = true then
  if rule_908 < 1 then
  some ((Drossref55_Result.mk (Value.mk 0 0 []) 0), 1)
  else
  if rule_908 > 5 then
  some ((Drossref55_Result.mk (Value.mk 0 0 []) 0), 1)
  else
  (drossref55_Pick rows_906 attr_907 rule_908).bind fun (r_925 : Drossref55_Result) =>
  some (r_925, 0)
  else
  some ((Drossref55_Result.mk (Value.mk 0 0 []) 0), 1)
noncomputable def drosslaw55_SurvivorChoose (rows_928 : List Row) (attr_929 : Int) (rule_930 : Int) : Option (Bool) :=
  (show Option (Bool) from
  (drosslaw55_awake ).bind fun (r_937 : Bool) =>
  if r_937 = true then
  some (decide ((rows_928.length : Int) > 8))
  else
  some true).bind (fun t18_934 =>
  if t18_934 = true then
  (drosslaw55_awake ).bind fun (r_941 : Bool) =>
  some r_941
  else
  (slices_Clone_Row rows_928).bind fun (r_947 : List Row) =>
  (survivor_Choose r_947 attr_929 rule_930).bind fun (r_949 : Value × Int × Int) =>
  (drossref55_Choose rows_928 attr_929 rule_930).bind fun (r_953 : Drossref55_Result × Int) =>
  if (r_949.2.2 == r_953.2) = true then
  if ((r_949.1.Kind == r_953.1.Value.Kind) && ((r_949.1.Num == r_953.1.Value.Num) && (r_949.1.Str == r_953.1.Value.Str))) = true then
  some (r_949.2.1 == r_953.1.Origin)
  else
  some false
  else
  some false)
noncomputable def slices_Clone_int (l : List Int) : Option (List Int) := if roomB l.length 8 = true then some l else none
noncomputable def drossref55_Rules_l1 (l_959 : List Int) : Int → Option (LS (Int) ((Unit) ⊕ (Bool))) := fun i_965 =>
  if i_965 < (l_959.length : Int) then
  (idx l_959 i_965).bind fun (x_972 : Int) =>
  if x_972 < 1 then
  some (.done (.inr false))
  else
  if x_972 > 5 then
  some (.done (.inr false))
  else
  some (.next (IntKind.i64.wrap (i_965 + 1)))
  else
  some (.done (.inl ()))
noncomputable def drossref55_Rules (l_959 : List Int) : Option (Bool) :=
  (LoopF (drossref55_Rules_l1 l_959) 0).bind (fun o => match o with
  | .inl () =>
  some true
  | .inr r_978 =>
  some r_978)
noncomputable def drossref55_merge_l1 (rows_982 : List Row) (rules_983 : List Int) : (List Value × List Int × Int) → Option (LS (List Value × List Int × Int) (List Value × List Int)) := fun (out_1000, out_1001, i_1002) =>
  if i_1002 < (rules_983.length : Int) then
  (idx rules_983 i_1002).bind fun (x_1022 : Int) =>
  (drossref55_Pick rows_982 i_1002 x_1022).bind fun (r_1024 : Drossref55_Result) =>
  if roomB (out_1000.length + 1) 32 = true then
  if roomB (out_1001.length + 1) 8 = true then
  some (.next ((out_1000 ++ [r_1024.Value]), (out_1001 ++ [r_1024.Origin]), (IntKind.i64.wrap (i_1002 + 1))))
  else none
  else none
  else
  some (.done (out_1000, out_1001))
noncomputable def drossref55_merge (rows_982 : List Row) (rules_983 : List Int) : Option (Drossref55_Row) :=
  (rows_982[0]?).bind fun (x_986 : Row) =>
  (LoopF (drossref55_merge_l1 rows_982 rules_983) ([], [], 0)).bind (fun (out_1015, out_1016) =>
  some (Drossref55_Row.mk (Row.mk x_986.ID out_1015) out_1016))
noncomputable def drossref55_Merge (rows_1033 : List Row) (rules_1034 : List Int) : Option (Drossref55_Row × Int) :=
  (drossref55_rowsError rows_1033).bind fun (r_1037 : Int) =>
  if (r_1037 != 0) = true then
  some ((Drossref55_Row.mk (Row.mk 0 []) []), r_1037)
  else
  (rows_1033[0]?).bind fun (x_1040 : Row) =>
  if ((rules_1034.length : Int) != (x_1040.Values.length : Int)) = true then
  some ((Drossref55_Row.mk (Row.mk 0 []) []), 6)
  else
  (drossref55_valid rows_1033).bind fun (r_1043 : Bool) =>
  if r_1043 = true then
  (drossref55_Rules rules_1034).bind fun (r_1046 : Bool) =>
  if r_1046 = true then
  (drossref55_merge rows_1033 rules_1034).bind fun (r_1049 : Drossref55_Row) =>
  some (r_1049, 0)
  else
  some ((Drossref55_Row.mk (Row.mk 0 []) []), 1)
  else
  some ((Drossref55_Row.mk (Row.mk 0 []) []), 1)
noncomputable def drossref01_Lists_l1 (a_1052 : List Value) (b_1053 : List Value) : Int → Option (LS (Int) ((Unit) ⊕ (Int))) := fun i_1063 =>
  if i_1063 < (a_1052.length : Int) then
  if i_1063 < (b_1053.length : Int) then
  (idx a_1052 i_1063).bind fun (x_1075 : Value) =>
  (idx b_1053 i_1063).bind fun (x_1077 : Value) =>
  (drossref01_Compare x_1075 x_1077).bind fun (r_1079 : Int) =>
  if (r_1079 != 0) = true then
  some (.done (.inr r_1079))
  else
  some (.next (IntKind.i64.wrap (i_1063 + 1)))
  else
  some (.done (.inl ()))
  else
  some (.done (.inl ()))
noncomputable def drossref01_Lists (a_1052 : List Value) (b_1053 : List Value) : Option (Int) :=
  (LoopF (drossref01_Lists_l1 a_1052 b_1053) 0).bind (fun o => match o with
  | .inl () =>
  (drossref01_sign (a_1052.length : Int) (b_1053.length : Int)).bind fun (r_1084 : Int) =>
  some r_1084
  | .inr r_1086 =>
  some r_1086)
noncomputable def drossref01_Same (a_1090 : List Value) (b_1091 : List Value) : Option (Bool) :=
  (drossref01_Lists a_1090 b_1091).bind fun (r_1092 : Int) =>
  some (r_1092 == 0)
noncomputable def drossref03_EqualRows (a_1095 : Row) (b_1096 : Row) : Option (Bool) :=
  if (a_1095.ID == b_1096.ID) = true then
  (drossref01_Same a_1095.Values b_1096.Values).bind fun (r_1098 : Bool) =>
  some r_1098
  else
  some false
noncomputable def drosslaw55_SurvivorMerge (rows_1101 : List Row) (rules_1102 : List Int) : Option (Bool) :=
  (show Option (Bool) from
  (drosslaw55_awake ).bind fun (r_1110 : Bool) =>
  if r_1110 = true then
  if (rows_1101.length : Int) > 8 then
  some true
  else
  some (decide ((rules_1102.length : Int) > 20))
  else
  some true).bind (fun t21_1107 =>
  if t21_1107 = true then
  (drosslaw55_awake ).bind fun (r_1115 : Bool) =>
  some r_1115
  else
  (slices_Clone_Row rows_1101).bind fun (r_1123 : List Row) =>
  (slices_Clone_int rules_1102).bind fun (r_1125 : List Int) =>
  (survivor_Merge r_1123 r_1125).bind fun (r_1127 : Row × List Int × Int) =>
  (drossref55_Merge rows_1101 rules_1102).bind fun (r_1131 : Drossref55_Row × Int) =>
  if (r_1127.2.2 == r_1131.2) = true then
  (drossref03_EqualRows r_1127.1 r_1131.1.Row).bind fun (r_1134 : Bool) =>
  if r_1134 = true then
  (drossref03_IDs r_1127.2.1 r_1131.1.Origins).bind fun (r_1137 : Bool) =>
  some r_1137
  else
  some false
  else
  some false)
noncomputable def drosslaw55_few (t_1141 : Table) : Option (Bool) :=
  if (t_1141.Rows.length : Int) ≤ 8 then
  some (decide ((t_1141.Attrs.length : Int) ≤ 20))
  else
  some false
noncomputable def drosslaw55_brief (m_1144 : Merged) : Option (Bool) :=
  (drosslaw55_few m_1144.Table).bind fun (r_1145 : Bool) =>
  if r_1145 = true then
  if (m_1144.Clusters.length : Int) ≤ 10 then
  some (decide ((m_1144.Origins.length : Int) ≤ 10))
  else
  some false
  else
  some false
noncomputable def table_isName_l1 (s_1150 : List UInt8) : Int → Option (LS (Int) ((Unit) ⊕ (Bool))) := fun t19_1177 =>
  if t19_1177 < (s_1150.length : Int) then
  (idx s_1150 t19_1177).bind fun (c_1208 : UInt8) =>
  (show Option (Bool) from
  if ((c_1208.toNat : Nat) : Int) ≥ 97 then
  if ((c_1208.toNat : Nat) : Int) ≤ 122 then
  some true
  else
  if ((c_1208.toNat : Nat) : Int) ≥ 65 then
  if ((c_1208.toNat : Nat) : Int) ≤ 90 then
  some true
  else
  some (((c_1208.toNat : Nat) : Int) == 95)
  else
  some (((c_1208.toNat : Nat) : Int) == 95)
  else
  if ((c_1208.toNat : Nat) : Int) ≥ 65 then
  if ((c_1208.toNat : Nat) : Int) ≤ 90 then
  some true
  else
  some (((c_1208.toNat : Nat) : Int) == 95)
  else
  some (((c_1208.toNat : Nat) : Int) == 95)).bind (fun letter_1216 =>
  if letter_1216 = true then
  some (.next (IntKind.i64.wrap (t19_1177 + 1)))
  else
  if (t19_1177 == 0) = true then
  some (.done (.inr false))
  else
  if ((c_1208.toNat : Nat) : Int) < 48 then
  some (.done (.inr false))
  else
  if ((c_1208.toNat : Nat) : Int) > 57 then
  some (.done (.inr false))
  else
  some (.next (IntKind.i64.wrap (t19_1177 + 1))))
  else
  some (.done (.inl ()))
noncomputable def table_isName (s_1150 : List UInt8) : Option (Bool) :=
  if (s_1150 == []) = true then
  some false
  else
  if (s_1150.length : Int) > 24 then
  some false
  else
  if (s_1150 == [110, 117, 108, 108]) = true then
  some false
  else
  (LoopF (table_isName_l1 s_1150) 0).bind (fun o => match o with
  | .inl () =>
  some true
  | .inr r_1232 =>
  some r_1232)
noncomputable def slices_Index_string_l1 (s_1236 : List (List UInt8)) (v_1237 : List UInt8) : Int → Option (LS (Int) ((Unit) ⊕ (Int))) := fun t8_1243 =>
  if t8_1243 < (s_1236.length : Int) then
  (idx s_1236 t8_1243).bind fun (x_1251 : List UInt8) =>
  if (v_1237 == x_1251) = true then
  some (.done (.inr t8_1243))
  else
  some (.next (IntKind.i64.wrap (t8_1243 + 1)))
  else
  some (.done (.inl ()))
noncomputable def slices_Index_string (s_1236 : List (List UInt8)) (v_1237 : List UInt8) : Option (Int) :=
  (LoopF (slices_Index_string_l1 s_1236 v_1237) 0).bind (fun o => match o with
  | .inl () =>
  some (-1)
  | .inr r_1256 =>
  some r_1256)
noncomputable def slices_Contains_string (s_1260 : List (List UInt8)) (v_1261 : List UInt8) : Option (Bool) :=
  (slices_Index_string s_1260 v_1261).bind fun (r_1262 : Int) =>
  some (decide (r_1262 ≥ 0))
noncomputable def table_validValues_1 (v_1265 : Value) : Option (Bool) :=
  (value_Valid v_1265).bind fun (r_1266 : Bool) =>
  some (!r_1266)
noncomputable def table_validValues (l_1269 : List Value) : Option (Bool) :=
  (slices_ContainsFunc_Value l_1269 (fun (y_1270 : Value) => table_validValues_1 y_1270)).bind fun (r_1271 : Bool) =>
  some (!r_1271)
noncomputable def table_Valid_l1 (t_1274 : Table) : Int → Option (LS (Int) ((Unit) ⊕ (Int))) := fun t25_1294 =>
  if t25_1294 < (t_1274.Attrs.length : Int) then
  (idx t_1274.Attrs t25_1294).bind fun (x_1315 : List UInt8) =>
  (table_isName x_1315).bind fun (r_1317 : Bool) =>
  if r_1317 = true then
  if (0 : Int) ≤ t25_1294 then
  if t25_1294 ≤ (t_1274.Attrs.length : Int) then
  (slices_Contains_string (t_1274.Attrs.take (t25_1294.toNat)) x_1315).bind fun (r_1324 : Bool) =>
  if r_1324 = true then
  some (.done (.inr 1))
  else
  some (.next (IntKind.i64.wrap (t25_1294 + 1)))
  else none
  else none
  else
  some (.done (.inr 1))
  else
  some (.done (.inl ()))
noncomputable def table_Valid_l2 (t_1274 : Table) : (Int × Int) → Option (LS (Int × Int) ((Unit) ⊕ (Int))) := fun (last_1340, t45_1341) =>
  if t45_1341 < (t_1274.Rows.length : Int) then
  (idx t_1274.Rows t45_1341).bind fun (x_1357 : Row) =>
  if x_1357.ID ≤ last_1340 then
  some (.done (.inr 1))
  else
  if ((x_1357.Values.length : Int) != (t_1274.Attrs.length : Int)) = true then
  some (.done (.inr 6))
  else
  (table_validValues x_1357.Values).bind fun (r_1361 : Bool) =>
  if r_1361 = true then
  some (.next (x_1357.ID, (IntKind.i64.wrap (t45_1341 + 1))))
  else
  some (.done (.inr 1))
  else
  some (.done (.inl ()))
noncomputable def table_Valid (t_1274 : Table) : Option (Int) :=
  (table_isName t_1274.Name).bind fun (r_1275 : Bool) =>
  if r_1275 = true then
  if (t_1274.Attrs.length : Int) > 16 then
  some 3
  else
  if (t_1274.Rows.length : Int) > 1000 then
  some 3
  else
  (LoopF (table_Valid_l1 t_1274) 0).bind (fun o => match o with
  | .inl () =>
  (LoopF (table_Valid_l2 t_1274) (0, 0)).bind (fun o => match o with
  | .inl () =>
  some 0
  | .inr r_1366 =>
  some r_1366)
  | .inr r_1369 =>
  some r_1369)
  else
  some 1
noncomputable def survivor_ascending_l1 (l_1373 : List Int) : Int → Option (LS (Int) ((Unit) ⊕ (Bool))) := fun i_1380 =>
  if i_1380 < (l_1373.length : Int) then
  (idx l_1373 i_1380).bind fun (x_1388 : Int) =>
  (idx l_1373 (IntKind.i64.wrap (i_1380 - 1))).bind fun (x_1390 : Int) =>
  if x_1388 ≤ x_1390 then
  some (.done (.inr false))
  else
  some (.next (IntKind.i64.wrap (i_1380 + 1)))
  else
  some (.done (.inl ()))
noncomputable def survivor_ascending (l_1373 : List Int) : Option (Bool) :=
  (LoopF (survivor_ascending_l1 l_1373) 1).bind (fun o => match o with
  | .inl () =>
  some (decide ((l_1373.length : Int) > 0))
  | .inr r_1395 =>
  some r_1395)
noncomputable def survivor_disjoint_l3 (x_1483 : List Int) : ((List (Int × Bool)) × Int) → Option (LS ((List (Int × Bool)) × Int) (((List (Int × Bool))) ⊕ ((List (Int × Bool)) × Bool))) := fun (seen_1495, t21_1496) =>
  if t21_1496 < (x_1483.length : Int) then
  (idx x_1483 t21_1496).bind fun (x_1509 : Int) =>
  if ((mget seen_1495 x_1509).getD false) = true then
  some (.done (.inr ([], false)))
  else
  some (.next ((mset seen_1495 x_1509 true), (IntKind.i64.wrap (t21_1496 + 1))))
  else
  some (.done (.inl seen_1495))
noncomputable def survivor_disjoint_l4 (clusters_1399 : List (List Int)) : ((List (Int × Bool)) × Int) → Option (LS ((List (Int × Bool)) × Int) (((List (Int × Bool))) ⊕ ((List (Int × Bool)) × Bool))) := fun (seen_1438, t12_1439) =>
  if t12_1439 < (clusters_1399.length : Int) then
  (idx clusters_1399 t12_1439).bind fun (x_1483 : List Int) =>
  (survivor_ascending x_1483).bind fun (r_1485 : Bool) =>
  if r_1485 = true then
  (LoopF (survivor_disjoint_l3 x_1483) (seen_1438, 0)).bind (fun o => match o with
  | .inl seen_1504 =>
  some (.next (seen_1504, (IntKind.i64.wrap (t12_1439 + 1))))
  | .inr r_1514 =>
  some (.done (.inr r_1514)))
  else
  some (.done (.inr ([], false)))
  else
  some (.done (.inl seen_1438))
noncomputable def survivor_disjoint (clusters_1399 : List (List Int)) : Option ((List (Int × Bool)) × Bool) :=
  (LoopF (survivor_disjoint_l4 clusters_1399) ([], 0)).bind (fun o => match o with
  | .inl seen_1478 =>
  some (seen_1478, true)
  | .inr r_1519 =>
  some r_1519)
noncomputable def slices_IndexFunc_int64_l1 (s_1523 : List Int) (f_1524 : Int → Option (Bool)) : Int → Option (LS (Int) ((Unit) ⊕ (Int))) := fun t8_1534 =>
  if t8_1534 < (s_1523.length : Int) then
  (idx s_1523 t8_1534).bind fun (x_1544 : Int) =>
  (f_1524 x_1544).bind fun (r_1546 : Bool) =>
  if r_1546 = true then
  some (.done (.inr t8_1534))
  else
  some (.next (IntKind.i64.wrap (t8_1534 + 1)))
  else
  some (.done (.inl ()))
noncomputable def slices_IndexFunc_int64 (s_1523 : List Int) (f_1524 : Int → Option (Bool)) : Option (Int) :=
  (LoopF (slices_IndexFunc_int64_l1 s_1523 f_1524) 0).bind (fun o => match o with
  | .inl () =>
  some (-1)
  | .inr r_1551 =>
  some r_1551)
noncomputable def slices_ContainsFunc_int64 (s_1555 : List Int) (f_1556 : Int → Option (Bool)) : Option (Bool) :=
  (slices_IndexFunc_int64 s_1555 f_1556).bind fun (r_1559 : Int) =>
  some (decide (r_1559 ≥ 0))
noncomputable def slices_Index_int64_l1 (s_1562 : List Int) (v_1563 : Int) : Int → Option (LS (Int) ((Unit) ⊕ (Int))) := fun t8_1569 =>
  if t8_1569 < (s_1562.length : Int) then
  (idx s_1562 t8_1569).bind fun (x_1577 : Int) =>
  if (v_1563 == x_1577) = true then
  some (.done (.inr t8_1569))
  else
  some (.next (IntKind.i64.wrap (t8_1569 + 1)))
  else
  some (.done (.inl ()))
noncomputable def slices_Index_int64 (s_1562 : List Int) (v_1563 : Int) : Option (Int) :=
  (LoopF (slices_Index_int64_l1 s_1562 v_1563) 0).bind (fun o => match o with
  | .inl () =>
  some (-1)
  | .inr r_1582 =>
  some r_1582)
noncomputable def slices_Contains_int64 (s_1586 : List Int) (v_1587 : Int) : Option (Bool) :=
  (slices_Index_int64 s_1586 v_1587).bind fun (r_1588 : Int) =>
  some (decide (r_1588 ≥ 0))
noncomputable def survivor_wellFormed_1 (id_1591 : Int) (c_1592 : Merged) (c_1593 : Int) : Option (Bool) :=
  (idx c_1592.Clusters c_1593).bind fun (x_1594 : List Int) =>
  (slices_Contains_int64 x_1594 id_1591).bind fun (r_1596 : Bool) =>
  some (!r_1596)
noncomputable def survivor_wellFormed_l1 (m_1599 : Merged) : Int → Option (LS (Int) ((Unit) ⊕ (Bool))) := fun t43_1628 =>
  if t43_1628 < (m_1599.Table.Rows.length : Int) then
  (idx m_1599.Table.Rows t43_1628).bind fun (x_1653 : Row) =>
  (idx m_1599.Clusters t43_1628).bind fun (x_1655 : List Int) =>
  (x_1655[0]?).bind fun (x_1657 : Int) =>
  if (x_1653.ID != x_1657) = true then
  some (.done (.inr false))
  else
  (idx m_1599.Origins t43_1628).bind fun (x_1662 : List Int) =>
  if ((x_1662.length : Int) != (m_1599.Table.Attrs.length : Int)) = true then
  some (.done (.inr false))
  else
  (slices_ContainsFunc_int64 x_1662 (fun (y_1665 : Int) => survivor_wellFormed_1 y_1665 m_1599 t43_1628)).bind fun (r_1666 : Bool) =>
  if r_1666 = true then
  some (.done (.inr false))
  else
  some (.next (IntKind.i64.wrap (t43_1628 + 1)))
  else
  some (.done (.inl ()))
noncomputable def survivor_wellFormed (m_1599 : Merged) : Option (Bool) :=
  (table_Valid m_1599.Table).bind fun (r_1600 : Int) =>
  if (r_1600 != 0) = true then
  some false
  else
  if ((m_1599.Clusters.length : Int) != (m_1599.Table.Rows.length : Int)) = true then
  some false
  else
  if ((m_1599.Origins.length : Int) != (m_1599.Table.Rows.length : Int)) = true then
  some false
  else
  (survivor_disjoint m_1599.Clusters).bind fun (r_1605 : (List (Int × Bool)) × Bool) =>
  if r_1605.2 = true then
  (LoopF (survivor_wellFormed_l1 m_1599) 0).bind (fun o => match o with
  | .inl () =>
  some true
  | .inr r_1671 =>
  some r_1671)
  else
  some false
noncomputable def table_Find_1 (r_1675 : Row) (c_1676 : Int) : Option (Bool) :=
  some (r_1675.ID == c_1676)
noncomputable def table_Find (t_1678 : Table) (id_1679 : Int) : Option (Int × Bool) :=
  (slices_IndexFunc_Row t_1678.Rows (fun (y_1683 : Row) => table_Find_1 y_1683 id_1679)).bind fun (r_1684 : Int) =>
  some ((if 0 > r_1684 then 0 else r_1684), (decide (r_1684 ≥ 0)))
noncomputable def survivor_Source (m_1687 : Merged) (c_1688 : CellRef) : Option (CellRef × Int) :=
  (survivor_wellFormed m_1687).bind fun (r_1689 : Bool) =>
  if r_1689 = true then
  (table_Find m_1687.Table c_1688.ID).bind fun (r_1694 : Int × Bool) =>
  if r_1694.2 = true then
  if c_1688.Attr < 0 then
  some ((CellRef.mk 0 0), 6)
  else
  if c_1688.Attr ≥ (m_1687.Table.Attrs.length : Int) then
  some ((CellRef.mk 0 0), 6)
  else
  (idx m_1687.Origins r_1694.1).bind fun (x_1702 : List Int) =>
  (idx x_1702 c_1688.Attr).bind fun (x_1704 : Int) =>
  some ((CellRef.mk x_1704 c_1688.Attr), 0)
  else
  some ((CellRef.mk 0 0), 4)
  else
  some ((CellRef.mk 0 0), 1)
noncomputable def drossref03_letter (c_1707 : Int) : Option (Bool) :=
  if c_1707 ≥ 97 then
  if c_1707 ≤ 122 then
  some true
  else
  if c_1707 ≥ 65 then
  if c_1707 ≤ 90 then
  some true
  else
  some (c_1707 == 95)
  else
  some (c_1707 == 95)
  else
  if c_1707 ≥ 65 then
  if c_1707 ≤ 90 then
  some true
  else
  some (c_1707 == 95)
  else
  some (c_1707 == 95)
noncomputable def drossref03_Name_l1 (s_1715 : List UInt8) : Int → Option (LS (Int) ((Unit) ⊕ (Bool))) := fun i_1734 =>
  if i_1734 < (s_1715.length : Int) then
  (idx s_1715 i_1734).bind fun (c_1744 : UInt8) =>
  (drossref03_letter ((c_1744.toNat : Nat) : Int)).bind fun (r_1746 : Bool) =>
  if r_1746 = true then
  some (.next (IntKind.i64.wrap (i_1734 + 1)))
  else
  if ((c_1744.toNat : Nat) : Int) < 48 then
  some (.done (.inr false))
  else
  if ((c_1744.toNat : Nat) : Int) > 57 then
  some (.done (.inr false))
  else
  some (.next (IntKind.i64.wrap (i_1734 + 1)))
  else
  some (.done (.inl ()))
noncomputable def drossref03_Name (s_1715 : List UInt8) : Option (Bool) :=
  if ((s_1715.length : Int) == 0) = true then
  some false
  else
  if (s_1715.length : Int) > 24 then
  some false
  else
  (s_1715[0]?).bind fun (c_1720 : UInt8) =>
  (drossref03_letter ((c_1720.toNat : Nat) : Int)).bind fun (r_1722 : Bool) =>
  if r_1722 = true then
  if (s_1715 == [110, 117, 108, 108]) = true then
  some false
  else
  (LoopF (drossref03_Name_l1 s_1715) 0).bind (fun o => match o with
  | .inl () =>
  some true
  | .inr r_1753 =>
  some r_1753)
  else
  some false
noncomputable def drossref03_Attr_l1 (l_1757 : List (List UInt8)) (name_1758 : List UInt8) : Int → Option (LS (Int) ((Unit) ⊕ (Int))) := fun i_1763 =>
  if i_1763 < (l_1757.length : Int) then
  (idx l_1757 i_1763).bind fun (x_1769 : List UInt8) =>
  if (x_1769 == name_1758) = true then
  some (.done (.inr i_1763))
  else
  some (.next (IntKind.i64.wrap (i_1763 + 1)))
  else
  some (.done (.inl ()))
noncomputable def drossref03_Attr (l_1757 : List (List UInt8)) (name_1758 : List UInt8) : Option (Int) :=
  (LoopF (drossref03_Attr_l1 l_1757 name_1758) 0).bind (fun o => match o with
  | .inl () =>
  some (-1)
  | .inr r_1774 =>
  some r_1774)
noncomputable def drossref03_Names_l1 (l_1778 : List (List UInt8)) : Int → Option (LS (Int) ((Unit) ⊕ (Bool))) := fun i_1790 =>
  if i_1790 < (l_1778.length : Int) then
  (idx l_1778 i_1790).bind fun (x_1805 : List UInt8) =>
  (drossref03_Name x_1805).bind fun (r_1807 : Bool) =>
  if r_1807 = true then
  if (0 : Int) ≤ i_1790 then
  if i_1790 ≤ (l_1778.length : Int) then
  (drossref03_Attr (l_1778.take (i_1790.toNat)) x_1805).bind fun (r_1814 : Int) =>
  if r_1814 ≥ 0 then
  some (.done (.inr false))
  else
  some (.next (IntKind.i64.wrap (i_1790 + 1)))
  else none
  else none
  else
  some (.done (.inr false))
  else
  some (.done (.inl ()))
noncomputable def drossref03_Names (l_1778 : List (List UInt8)) : Option (Bool) :=
  (LoopF (drossref03_Names_l1 l_1778) 0).bind (fun o => match o with
  | .inl () =>
  some true
  | .inr r_1819 =>
  some r_1819)
noncomputable def drossref03_Valid_l1 (t_1823 : Table) : (Int × Int) → Option (LS (Int × Int) ((Unit) ⊕ (Int))) := fun (before_1842, i_1843) =>
  if i_1843 < (t_1823.Rows.length : Int) then
  (idx t_1823.Rows i_1843).bind fun (x_1857 : Row) =>
  if x_1857.ID ≤ before_1842 then
  some (.done (.inr 1))
  else
  if ((x_1857.Values.length : Int) != (t_1823.Attrs.length : Int)) = true then
  some (.done (.inr 6))
  else
  (drossref01_Valids x_1857.Values).bind fun (r_1861 : Bool) =>
  if r_1861 = true then
  some (.next (x_1857.ID, (IntKind.i64.wrap (i_1843 + 1))))
  else
  some (.done (.inr 1))
  else
  some (.done (.inl ()))
noncomputable def drossref03_Valid (t_1823 : Table) : Option (Int) :=
  (drossref03_Name t_1823.Name).bind fun (r_1824 : Bool) =>
  if r_1824 = true then
  if (t_1823.Attrs.length : Int) > 16 then
  some 3
  else
  if (t_1823.Rows.length : Int) > 1000 then
  some 3
  else
  (drossref03_Names t_1823.Attrs).bind fun (r_1829 : Bool) =>
  if r_1829 = true then
  (LoopF (drossref03_Valid_l1 t_1823) (0, 0)).bind (fun o => match o with
  | .inl () =>
  some 0
  | .inr r_1866 =>
  some r_1866)
  else
  some 1
  else
  some 1
noncomputable def drossref03_Has_l1 (l_1870 : List Int) (id_1871 : Int) : Int → Option (LS (Int) ((Unit) ⊕ (Bool))) := fun i_1876 =>
  if i_1876 < (l_1870.length : Int) then
  (idx l_1870 i_1876).bind fun (x_1882 : Int) =>
  if (x_1882 == id_1871) = true then
  some (.done (.inr true))
  else
  some (.next (IntKind.i64.wrap (i_1876 + 1)))
  else
  some (.done (.inl ()))
noncomputable def drossref03_Has (l_1870 : List Int) (id_1871 : Int) : Option (Bool) :=
  (LoopF (drossref03_Has_l1 l_1870 id_1871) 0).bind (fun o => match o with
  | .inl () =>
  some false
  | .inr r_1887 =>
  some r_1887)
noncomputable def drossref55_Cluster_l1 (l_1891 : List Int) : Int → Option (LS (Int) ((Unit) ⊕ (Bool))) := fun i_1898 =>
  if i_1898 < (l_1891.length : Int) then
  (idx l_1891 i_1898).bind fun (x_1906 : Int) =>
  (idx l_1891 (IntKind.i64.wrap (i_1898 - 1))).bind fun (x_1908 : Int) =>
  if x_1906 ≤ x_1908 then
  some (.done (.inr false))
  else
  some (.next (IntKind.i64.wrap (i_1898 + 1)))
  else
  some (.done (.inl ()))
noncomputable def drossref55_Cluster (l_1891 : List Int) : Option (Bool) :=
  (LoopF (drossref55_Cluster_l1 l_1891) 1).bind (fun o => match o with
  | .inl () =>
  some (decide ((l_1891.length : Int) > 0))
  | .inr r_1913 =>
  some r_1913)
noncomputable def drossref55_once_l3 (l_1917 : List (List Int)) (all_1955 : List Int) (i_1956 : Int) : Int → Option (LS (Int) ((Unit) ⊕ (Bool))) := fun k_2008 =>
  (idx l_1917 i_1956).bind fun (x_2017 : List Int) =>
  if k_2008 < (x_2017.length : Int) then
  (idx x_2017 k_2008).bind fun (x_2020 : Int) =>
  (drossref03_Has all_1955 x_2020).bind fun (r_2022 : Bool) =>
  if r_2022 = true then
  some (.done (.inr false))
  else
  some (.next (IntKind.i64.wrap (k_2008 + 1)))
  else
  some (.done (.inl ()))
noncomputable def drossref55_once_l4 (l_1917 : List (List Int)) : (List Int × Int) → Option (LS (List Int × Int) ((Unit) ⊕ (Bool))) := fun (all_1955, i_1956) =>
  if i_1956 < (l_1917.length : Int) then
  (idx l_1917 i_1956).bind fun (x_1995 : List Int) =>
  (drossref55_Cluster x_1995).bind fun (r_1997 : Bool) =>
  if r_1997 = true then
  (LoopF (drossref55_once_l3 l_1917 all_1955 i_1956) 0).bind (fun o => match o with
  | .inl () =>
  if roomB (all_1955.length + x_1995.length) 8 = true then
  some (.next ((all_1955 ++ x_1995), (IntKind.i64.wrap (i_1956 + 1))))
  else none
  | .inr r_2028 =>
  some (.done (.inr r_2028)))
  else
  some (.done (.inr false))
  else
  some (.done (.inl ()))
noncomputable def drossref55_once (l_1917 : List (List Int)) : Option (Bool) :=
  (LoopF (drossref55_once_l4 l_1917) ([], 0)).bind (fun o => match o with
  | .inl () =>
  some true
  | .inr r_2033 =>
  some r_2033)
noncomputable def drossref55_WellFormed_l3 (m_2037 : Merged) (i_2095 : Int) : Int → Option (LS (Int) ((Unit) ⊕ (Bool))) := fun k_2168 =>
  (idx m_2037.Origins i_2095).bind fun (x_2179 : List Int) =>
  if k_2168 < (x_2179.length : Int) then
  (idx m_2037.Clusters i_2095).bind fun (x_2182 : List Int) =>
  (idx x_2179 k_2168).bind fun (x_2184 : Int) =>
  (drossref03_Has x_2182 x_2184).bind fun (r_2186 : Bool) =>
  if r_2186 = true then
  some (.next (IntKind.i64.wrap (k_2168 + 1)))
  else
  some (.done (.inr false))
  else
  some (.done (.inl ()))
noncomputable def drossref55_WellFormed_l4 (m_2037 : Merged) : Int → Option (LS (Int) ((Unit) ⊕ (Bool))) := fun i_2095 =>
  if i_2095 < (m_2037.Clusters.length : Int) then
  (idx m_2037.Table.Rows i_2095).bind fun (x_2146 : Row) =>
  (idx m_2037.Clusters i_2095).bind fun (x_2148 : List Int) =>
  (x_2148[0]?).bind fun (x_2150 : Int) =>
  if (x_2146.ID != x_2150) = true then
  some (.done (.inr false))
  else
  (idx m_2037.Origins i_2095).bind fun (x_2155 : List Int) =>
  if ((x_2155.length : Int) != (m_2037.Table.Attrs.length : Int)) = true then
  some (.done (.inr false))
  else
  (LoopF (drossref55_WellFormed_l3 m_2037 i_2095) 0).bind (fun o => match o with
  | .inl () =>
  some (.next (IntKind.i64.wrap (i_2095 + 1)))
  | .inr r_2191 =>
  some (.done (.inr r_2191)))
  else
  some (.done (.inl ()))
noncomputable def drossref55_WellFormed (m_2037 : Merged) : Option (Bool) :=
  (drossref03_Valid m_2037.Table).bind fun (r_2038 : Int) =>
  if (r_2038 != 0) = true then
  some false
  else
  if ((m_2037.Clusters.length : Int) != (m_2037.Table.Rows.length : Int)) = true then
  some false
  else
  if ((m_2037.Origins.length : Int) != (m_2037.Table.Rows.length : Int)) = true then
  some false
  else
  (drossref55_once m_2037.Clusters).bind fun (r_2043 : Bool) =>
  if r_2043 = true then
  (LoopF (drossref55_WellFormed_l4 m_2037) 0).bind (fun o => match o with
  | .inl () =>
  some true
  | .inr r_2196 =>
  some r_2196)
  else
  some false
noncomputable def drossref03_Find_l1 (t_2200 : Table) (id_2201 : Int) : Int → Option (LS (Int) ((Unit) ⊕ (Int × Bool))) := fun i_2206 =>
  if i_2206 < (t_2200.Rows.length : Int) then
  (idx t_2200.Rows i_2206).bind fun (x_2212 : Row) =>
  if (x_2212.ID == id_2201) = true then
  some (.done (.inr (i_2206, true)))
  else
  some (.next (IntKind.i64.wrap (i_2206 + 1)))
  else
  some (.done (.inl ()))
noncomputable def drossref03_Find (t_2200 : Table) (id_2201 : Int) : Option (Int × Bool) :=
  (LoopF (drossref03_Find_l1 t_2200 id_2201) 0).bind (fun o => match o with
  | .inl () =>
  some (0, false)
  | .inr r_2217 =>
  some r_2217)
noncomputable def drossref55_Source (m_2221 : Merged) (c_2222 : CellRef) : Option (CellRef × Int) :=
  (drossref55_WellFormed m_2221).bind fun (r_2223 : Bool) =>
  if r_2223 = true then
  (drossref03_Find m_2221.Table c_2222.ID).bind fun (r_2228 : Int × Bool) =>
  if r_2228.2 = true then
  if c_2222.Attr < 0 then
  some ((CellRef.mk 0 0), 6)
  else
  if c_2222.Attr ≥ (m_2221.Table.Attrs.length : Int) then
  some ((CellRef.mk 0 0), 6)
  else
  (idx m_2221.Origins r_2228.1).bind fun (x_2233 : List Int) =>
  (idx x_2233 c_2222.Attr).bind fun (x_2235 : Int) =>
  some ((CellRef.mk x_2235 c_2222.Attr), 0)
  else
  some ((CellRef.mk 0 0), 4)
  else
  some ((CellRef.mk 0 0), 1)
noncomputable def drosslaw55_SurvivorSource (m_2238 : Merged) (c_2239 : CellRef) : Option (Bool) :=
  (show Option (Bool) from
  (drosslaw55_awake ).bind fun (r_2248 : Bool) =>
  if r_2248 = true then
  (drosslaw55_brief m_2238).bind fun (r_2251 : Bool) =>
  some (!r_2251)
  else
  some true).bind (fun t15_2245 =>
  if t15_2245 = true then
  (drosslaw55_awake ).bind fun (r_2254 : Bool) =>
  some r_2254
  else
  (survivor_Source m_2238 c_2239).bind fun (r_2258 : CellRef × Int) =>
  (drossref55_Source m_2238 c_2239).bind fun (r_2262 : CellRef × Int) =>
  if ((r_2258.1.ID == r_2262.1.ID) && (r_2258.1.Attr == r_2262.1.Attr)) = true then
  some (r_2258.2 == r_2262.2)
  else
  some false)
noncomputable def slices_Equal_string_l1 (s1_2267 : List (List UInt8)) (s2_2268 : List (List UInt8)) : Int → Option (LS (Int) ((Unit) ⊕ (Bool))) := fun t13_2277 =>
  if t13_2277 < (s1_2267.length : Int) then
  (idx s1_2267 t13_2277).bind fun (x_2287 : List UInt8) =>
  (idx s2_2268 t13_2277).bind fun (x_2289 : List UInt8) =>
  if (x_2287 == x_2289) = true then
  some (.next (IntKind.i64.wrap (t13_2277 + 1)))
  else
  some (.done (.inr false))
  else
  some (.done (.inl ()))
noncomputable def slices_Equal_string (s1_2267 : List (List UInt8)) (s2_2268 : List (List UInt8)) : Option (Bool) :=
  if ((s1_2267.length : Int) != (s2_2268.length : Int)) = true then
  some false
  else
  (LoopF (slices_Equal_string_l1 s1_2267 s2_2268) 0).bind (fun o => match o with
  | .inl () =>
  some true
  | .inr r_2294 =>
  some r_2294)
noncomputable def slices_ContainsFunc_Row (s_2298 : List Row) (f_2299 : Row → Option (Bool)) : Option (Bool) :=
  (slices_IndexFunc_Row s_2298 f_2299).bind fun (r_2302 : Int) =>
  some (decide (r_2302 ≥ 0))
noncomputable def survivor_divides_1 (r_2305 : Row) (c_2306 : List (Int × Bool)) : Option (Bool) :=
  some (!((mget c_2306 r_2305.ID).getD false))
noncomputable def survivor_divides (t_2308 : Table) (clusters_2309 : List (List Int)) : Option (Bool) :=
  (survivor_disjoint clusters_2309).bind fun (r_2312 : (List (Int × Bool)) × Bool) =>
  if r_2312.2 = true then
  if ((r_2312.1.length : Int) != (t_2308.Rows.length : Int)) = true then
  some false
  else
  (slices_ContainsFunc_Row t_2308.Rows (fun (y_2316 : Row) => survivor_divides_1 y_2316 r_2312.1)).bind fun (r_2317 : Bool) =>
  some (!r_2317)
  else
  some false
noncomputable def survivor_merges_l3 (t_2320 : Table) (m_2321 : Merged) (t42_2413 : Int) (x_2499 : Row) : Int → Option (LS (Int) ((Unit) ⊕ (Bool))) := fun t50_2524 =>
  if t50_2524 < (x_2499.Values.length : Int) then
  (idx x_2499.Values t50_2524).bind fun (x_2552 : Value) =>
  (idx m_2321.Origins t42_2413).bind fun (x_2560 : List Int) =>
  (idx x_2560 t50_2524).bind fun (x_2562 : Int) =>
  (table_Find t_2320 x_2562).bind fun (r_2564 : Int × Bool) =>
  (idx t_2320.Rows r_2564.1).bind fun (x_2566 : Row) =>
  (idx x_2566.Values t50_2524).bind fun (x_2568 : Value) =>
  if ((x_2568.Kind == x_2552.Kind) && ((x_2568.Num == x_2552.Num) && (x_2568.Str == x_2552.Str))) = true then
  some (.next (IntKind.i64.wrap (t50_2524 + 1)))
  else
  some (.done (.inr false))
  else
  some (.done (.inl ()))
noncomputable def survivor_merges_l4 (t_2320 : Table) (m_2321 : Merged) : Int → Option (LS (Int) ((Unit) ⊕ (Bool))) := fun t42_2413 =>
  if t42_2413 < (m_2321.Table.Rows.length : Int) then
  (idx m_2321.Table.Rows t42_2413).bind fun (x_2499 : Row) =>
  (LoopF (survivor_merges_l3 t_2320 m_2321 t42_2413 x_2499) 0).bind (fun o => match o with
  | .inl () =>
  some (.next (IntKind.i64.wrap (t42_2413 + 1)))
  | .inr r_2573 =>
  some (.done (.inr r_2573)))
  else
  some (.done (.inl ()))
noncomputable def survivor_merges (t_2320 : Table) (m_2321 : Merged) : Option (Bool) :=
  (survivor_wellFormed m_2321).bind fun (r_2322 : Bool) =>
  if r_2322 = true then
  if (t_2320.Name == m_2321.Table.Name) = true then
  (slices_Equal_string t_2320.Attrs m_2321.Table.Attrs).bind fun (r_2326 : Bool) =>
  if r_2326 = true then
  (survivor_divides t_2320 m_2321.Clusters).bind fun (r_2329 : Bool) =>
  if r_2329 = true then
  (LoopF (survivor_merges_l4 t_2320 m_2321) 0).bind (fun o => match o with
  | .inl () =>
  some true
  | .inr r_2578 =>
  some r_2578)
  else
  some false
  else
  some false
  else
  some false
  else
  some false
noncomputable def survivor_Lost_l3 (t30_2617 : Int) (x_2647 : List Int) : ((List (Int × Int)) × Int) → Option (LS ((List (Int × Int)) × Int) ((List (Int × Int)))) := fun (at_2653, t37_2654) =>
  if t37_2654 < (x_2647.length : Int) then
  (idx x_2647 t37_2654).bind fun (x_2662 : Int) =>
  some (.next ((mset at_2653 x_2662 t30_2617), (IntKind.i64.wrap (t37_2654 + 1))))
  else
  some (.done at_2653)
noncomputable def survivor_Lost_l4 (m_2583 : Merged) : ((List (Int × Int)) × Int) → Option (LS ((List (Int × Int)) × Int) ((List (Int × Int)))) := fun (at_2616, t30_2617) =>
  if t30_2617 < (m_2583.Clusters.length : Int) then
  (idx m_2583.Clusters t30_2617).bind fun (x_2647 : List Int) =>
  (LoopF (survivor_Lost_l3 t30_2617 x_2647) (at_2616, 0)).bind (fun at_2659 =>
  some (.next (at_2659, (IntKind.i64.wrap (t30_2617 + 1)))))
  else
  some (.done at_2616)
noncomputable def survivor_Lost_l7 (m_2583 : Merged) (at_2642 : List (Int × Int)) (x_2880 : Row) : (List CellRef × Int) → Option (LS (List CellRef × Int) (List CellRef)) := fun (out_2912, t56_2913) =>
  if t56_2913 < (x_2880.Values.length : Int) then
  (idx x_2880.Values t56_2913).bind fun (x_2949 : Value) =>
  (show Option (Bool) from
  if (x_2949.Kind != 0) = true then
  (idx m_2583.Table.Rows ((mget at_2642 x_2880.ID).getD 0)).bind fun (x_2966 : Row) =>
  (idx x_2966.Values t56_2913).bind fun (x_2970 : Value) =>
  some (!((x_2949.Kind == x_2970.Kind) && ((x_2949.Num == x_2970.Num) && (x_2949.Str == x_2970.Str))))
  else
  some false).bind (fun t80_2960 =>
  if t80_2960 = true then
  if roomB (out_2912.length + 1) 16 = true then
  some (.next ((out_2912 ++ [(CellRef.mk x_2880.ID t56_2913)]), (IntKind.i64.wrap (t56_2913 + 1))))
  else none
  else
  some (.next (out_2912, (IntKind.i64.wrap (t56_2913 + 1)))))
  else
  some (.done out_2912)
noncomputable def survivor_Lost_l8 (t_2582 : Table) (m_2583 : Merged) (at_2642 : List (Int × Int)) : (List CellRef × Int) → Option (LS (List CellRef × Int) (List CellRef)) := fun (out_2771, t49_2772) =>
  if t49_2772 < (t_2582.Rows.length : Int) then
  (idx t_2582.Rows t49_2772).bind fun (x_2880 : Row) =>
  (LoopF (survivor_Lost_l7 m_2583 at_2642 x_2880) (out_2771, 0)).bind (fun out_2944 =>
  some (.next (out_2944, (IntKind.i64.wrap (t49_2772 + 1)))))
  else
  some (.done out_2771)
noncomputable def survivor_Lost (t_2582 : Table) (m_2583 : Merged) : Option (List CellRef × Int) :=
  (table_Valid t_2582).bind fun (r_2586 : Int) =>
  if (r_2586 != 0) = true then
  some ([], r_2586)
  else
  (survivor_merges t_2582 m_2583).bind fun (r_2589 : Bool) =>
  if r_2589 = true then
  (LoopF (survivor_Lost_l4 m_2583) ([], 0)).bind (fun at_2642 =>
  (LoopF (survivor_Lost_l8 t_2582 m_2583 at_2642) ([], 0)).bind (fun out_2875 =>
  some (out_2875, 0)))
  else
  some ([], 1)
noncomputable def drossref03_Strings_l1 (a_2983 : List (List UInt8)) (b_2984 : List (List UInt8)) : Int → Option (LS (Int) ((Unit) ⊕ (Bool))) := fun i_2992 =>
  if i_2992 < (a_2983.length : Int) then
  (idx a_2983 i_2992).bind fun (x_3000 : List UInt8) =>
  (idx b_2984 i_2992).bind fun (x_3002 : List UInt8) =>
  if (x_3000 == x_3002) = true then
  some (.next (IntKind.i64.wrap (i_2992 + 1)))
  else
  some (.done (.inr false))
  else
  some (.done (.inl ()))
noncomputable def drossref03_Strings (a_2983 : List (List UInt8)) (b_2984 : List (List UInt8)) : Option (Bool) :=
  if ((a_2983.length : Int) != (b_2984.length : Int)) = true then
  some false
  else
  (LoopF (drossref03_Strings_l1 a_2983 b_2984) 0).bind (fun o => match o with
  | .inl () =>
  some true
  | .inr r_3007 =>
  some r_3007)
noncomputable def drossref55_Of_l3 (t_3011 : Table) (l_3012 : List (List Int)) (i_3052 : Int) : Int → Option (LS (Int) ((Unit) ⊕ (Bool))) := fun k_3102 =>
  (idx l_3012 i_3052).bind fun (x_3111 : List Int) =>
  if k_3102 < (x_3111.length : Int) then
  (idx x_3111 k_3102).bind fun (x_3114 : Int) =>
  (drossref03_Find t_3011 x_3114).bind fun (r_3116 : Int × Bool) =>
  if r_3116.2 = true then
  some (.next (IntKind.i64.wrap (k_3102 + 1)))
  else
  some (.done (.inr false))
  else
  some (.done (.inl ()))
noncomputable def drossref55_Of_l4 (t_3011 : Table) (l_3012 : List (List Int)) : (Int × Int) → Option (LS (Int × Int) ((Int) ⊕ (Bool))) := fun (n_3051, i_3052) =>
  if i_3052 < (l_3012.length : Int) then
  (idx l_3012 i_3052).bind fun (x_3092 : List Int) =>
  (LoopF (drossref55_Of_l3 t_3011 l_3012 i_3052) 0).bind (fun o => match o with
  | .inl () =>
  some (.next ((IntKind.i64.wrap (n_3051 + (x_3092.length : Int))), (IntKind.i64.wrap (i_3052 + 1))))
  | .inr r_3121 =>
  some (.done (.inr r_3121)))
  else
  some (.done (.inl n_3051))
noncomputable def drossref55_Of (t_3011 : Table) (l_3012 : List (List Int)) : Option (Bool) :=
  (drossref55_once l_3012).bind fun (r_3013 : Bool) =>
  if r_3013 = true then
  (LoopF (drossref55_Of_l4 t_3011 l_3012) (0, 0)).bind (fun o => match o with
  | .inl n_3088 =>
  some (n_3088 == (t_3011.Rows.length : Int))
  | .inr r_3126 =>
  some r_3126)
  else
  some false
noncomputable def drossref55_Merging_l3 (t_3130 : Table) (m_3131 : Merged) (i_3215 : Int) : Int → Option (LS (Int) ((Unit) ⊕ (Bool))) := fun k_3312 =>
  (idx m_3131.Origins i_3215).bind fun (x_3335 : List Int) =>
  if k_3312 < (x_3335.length : Int) then
  (idx x_3335 k_3312).bind fun (x_3342 : Int) =>
  (drossref03_Find t_3130 x_3342).bind fun (r_3344 : Int × Bool) =>
  (idx t_3130.Rows r_3344.1).bind fun (x_3346 : Row) =>
  (idx x_3346.Values k_3312).bind fun (x_3348 : Value) =>
  (idx m_3131.Table.Rows i_3215).bind fun (x_3350 : Row) =>
  (idx x_3350.Values k_3312).bind fun (x_3352 : Value) =>
  (drossref01_Compare x_3348 x_3352).bind fun (r_3354 : Int) =>
  if (r_3354 != 0) = true then
  some (.done (.inr false))
  else
  some (.next (IntKind.i64.wrap (k_3312 + 1)))
  else
  some (.done (.inl ()))
noncomputable def drossref55_Merging_l4 (t_3130 : Table) (m_3131 : Merged) : Int → Option (LS (Int) ((Unit) ⊕ (Bool))) := fun i_3215 =>
  if i_3215 < (m_3131.Origins.length : Int) then
  (LoopF (drossref55_Merging_l3 t_3130 m_3131 i_3215) 0).bind (fun o => match o with
  | .inl () =>
  some (.next (IntKind.i64.wrap (i_3215 + 1)))
  | .inr r_3359 =>
  some (.done (.inr r_3359)))
  else
  some (.done (.inl ()))
noncomputable def drossref55_Merging (t_3130 : Table) (m_3131 : Merged) : Option (Bool) :=
  (drossref55_WellFormed m_3131).bind fun (r_3132 : Bool) =>
  if r_3132 = true then
  if (m_3131.Table.Name == t_3130.Name) = true then
  (drossref03_Strings m_3131.Table.Attrs t_3130.Attrs).bind fun (r_3136 : Bool) =>
  if r_3136 = true then
  (drossref55_Of t_3130 m_3131.Clusters).bind fun (r_3139 : Bool) =>
  if r_3139 = true then
  (LoopF (drossref55_Merging_l4 t_3130 m_3131) 0).bind (fun o => match o with
  | .inl () =>
  some true
  | .inr r_3364 =>
  some r_3364)
  else
  some false
  else
  some false
  else
  some false
  else
  some false
noncomputable def drossref55_Lost_l11 (t_3368 : Table) (m_3369 : Merged) (i_3761 : Int) (c_4272 : Int) : (List CellRef × Int) → Option (LS (List CellRef × Int) (List CellRef)) := fun (out_4444, k_4445) =>
  if k_4445 < (t_3368.Attrs.length : Int) then
  (idx t_3368.Rows i_3761).bind fun (x_4489 : Row) =>
  (idx x_4489.Values k_4445).bind fun (x_4491 : Value) =>
  (show Option (Bool) from
  if (x_4491.Kind != 0) = true then
  (idx m_3369.Table.Rows c_4272).bind fun (x_4510 : Row) =>
  (idx x_4510.Values k_4445).bind fun (x_4514 : Value) =>
  (drossref01_Compare x_4491 x_4514).bind fun (r_4516 : Int) =>
  some (r_4516 != 0)
  else
  some false).bind (fun t81_4504 =>
  if t81_4504 = true then
  if roomB (out_4444.length + 1) 16 = true then
  some (.next ((out_4444 ++ [(CellRef.mk x_4489.ID k_4445)]), (IntKind.i64.wrap (k_4445 + 1))))
  else none
  else
  some (.next (out_4444, (IntKind.i64.wrap (k_4445 + 1)))))
  else
  some (.done out_4444)
noncomputable def drossref55_Lost_l12 (t_3368 : Table) (m_3369 : Merged) (i_3761 : Int) : (List CellRef × Int) → Option (LS (List CellRef × Int) (List CellRef)) := fun (out_4271, c_4272) =>
  if c_4272 < (m_3369.Clusters.length : Int) then
  (idx m_3369.Clusters c_4272).bind fun (x_4400 : List Int) =>
  (idx t_3368.Rows i_3761).bind fun (x_4402 : Row) =>
  (drossref03_Has x_4400 x_4402.ID).bind fun (r_4404 : Bool) =>
  if r_4404 = true then
  (LoopF (drossref55_Lost_l11 t_3368 m_3369 i_3761 c_4272) (out_4271, 0)).bind (fun out_4483 =>
  some (.next (out_4483, (IntKind.i64.wrap (c_4272 + 1)))))
  else
  some (.next (out_4271, (IntKind.i64.wrap (c_4272 + 1))))
  else
  some (.done out_4271)
noncomputable def drossref55_Lost_l13 (t_3368 : Table) (m_3369 : Merged) : (List CellRef × Int) → Option (LS (List CellRef × Int) (List CellRef)) := fun (out_3760, i_3761) =>
  if i_3761 < (t_3368.Rows.length : Int) then
  (LoopF (drossref55_Lost_l12 t_3368 m_3369 i_3761) (out_3760, 0)).bind (fun out_4398 =>
  some (.next (out_4398, (IntKind.i64.wrap (i_3761 + 1)))))
  else
  some (.done out_3760)
noncomputable def drossref55_Lost (t_3368 : Table) (m_3369 : Merged) : Option (List CellRef × Int) :=
  (drossref03_Valid t_3368).bind fun (r_3372 : Int) =>
  if (r_3372 != 0) = true then
  some ([], r_3372)
  else
  (drossref55_Merging t_3368 m_3369).bind fun (r_3375 : Bool) =>
  if r_3375 = true then
  (LoopF (drossref55_Lost_l13 t_3368 m_3369) ([], 0)).bind (fun out_4144 =>
  some (out_4144, 0))
  else
  some ([], 1)
noncomputable def drossref55_Cells_l1 (a_4531 : List CellRef) (b_4532 : List CellRef) : Int → Option (LS (Int) ((Unit) ⊕ (Bool))) := fun i_4540 =>
  if i_4540 < (a_4531.length : Int) then
  (idx a_4531 i_4540).bind fun (x_4548 : CellRef) =>
  (idx b_4532 i_4540).bind fun (x_4550 : CellRef) =>
  if ((x_4548.ID == x_4550.ID) && (x_4548.Attr == x_4550.Attr)) = true then
  some (.next (IntKind.i64.wrap (i_4540 + 1)))
  else
  some (.done (.inr false))
  else
  some (.done (.inl ()))
noncomputable def drossref55_Cells (a_4531 : List CellRef) (b_4532 : List CellRef) : Option (Bool) :=
  if ((a_4531.length : Int) != (b_4532.length : Int)) = true then
  some false
  else
  (LoopF (drossref55_Cells_l1 a_4531 b_4532) 0).bind (fun o => match o with
  | .inl () =>
  some true
  | .inr r_4555 =>
  some r_4555)
noncomputable def drosslaw55_SurvivorLost (t_4559 : Table) (m_4560 : Merged) : Option (Bool) :=
  (show Option (Bool) from
  (drosslaw55_awake ).bind fun (r_4572 : Bool) =>
  if r_4572 = true then
  (drosslaw55_few t_4559).bind fun (r_4575 : Bool) =>
  if r_4575 = true then
  (drosslaw55_brief m_4560).bind fun (r_4578 : Bool) =>
  some (!r_4578)
  else
  some true
  else
  some true).bind (fun t20_4569 =>
  if t20_4569 = true then
  (drosslaw55_awake ).bind fun (r_4581 : Bool) =>
  some r_4581
  else
  (survivor_Lost t_4559 m_4560).bind fun (r_4585 : List CellRef × Int) =>
  (drossref55_Lost t_4559 m_4560).bind fun (r_4589 : List CellRef × Int) =>
  if (r_4585.2 == r_4589.2) = true then
  (drossref55_Cells r_4585.1 r_4589.1).bind fun (r_4592 : Bool) =>
  some r_4592
  else
  some false)
end Go.Proofs.Ytdmddoljldjjeaa
/- Loops over lists, in plain Lean. -/
set_option linter.unusedVariables false
set_option linter.unusedSimpArgs false
namespace Go.Ab
open Go

/-- a loop over a list: f says how to go on or how it ends -/
def foldR {α β τ : Type} (f : β → α → β ⊕ τ) (fin : β → τ) : List α → β → τ
  | [], b => fin b
  | x :: r, b => match f b x with
    | .inl b' => foldR f fin r b'
    | .inr t => t

theorem LoopF_foldR {α β σ τ : Type} (l : List α) (S : β → Int → σ) (B : σ → Option (LS σ τ)) (f : β → α → β ⊕ τ) (fin : β → τ) (I : Nat → β → Prop)
    (hs : ∀ (k : Nat) b x, l[k]? = some x → I k b → (∀ b', f b x = .inl b' → B (S b k) = some (.next (S b' (k + 1 : Nat))) ∧ I (k + 1) b') ∧ (∀ t, f b x = .inr t → B (S b k) = some (.done t)))
    (he : ∀ b, I l.length b → B (S b l.length) = some (.done (fin b))) :
    ∀ (r : List α) (k : Nat) (b : β), l.drop k = r → k ≤ l.length → I k b → LoopF B (S b k) = some (foldR f fin r b) := by
  intro r
  induction r with
  | nil =>
    intro k b hd hk hI
    have : k = l.length := by
      have := congrArg List.length hd
      simp at this; omega
    subst this
    exact Loop_done (he b hI)
  | cons x r ih =>
    intro k b hd hk hI
    have hx : l[k]? = some x := by
      have := congrArg (·[0]?) hd
      simpa [List.getElem?_drop] using this
    have hlt : k < l.length := (List.getElem?_eq_some_iff.1 hx).1
    have hd' : l.drop (k + 1) = r := by
      rw [← List.drop_drop, hd]; rfl
    obtain ⟨h1, h2⟩ := hs k b x hx hI
    cases hf : f b x with
    | inl b' =>
      obtain ⟨h3, h4⟩ := h1 b' hf
      rw [Loop_next h3, ih (k + 1) b' hd' hlt h4]
      simp [foldR, hf]
    | inr t =>
      rw [Loop_done (h2 t hf)]
      simp [foldR, hf]

theorem LoopF_list {α β σ τ : Type} (l : List α) (S : β → Int → σ) (B : σ → Option (LS σ τ)) (f : β → α → β ⊕ τ) (fin : β → τ) (I : Nat → β → Prop) {b0 : β} {s0 : σ} (h0 : s0 = S b0 0) (hI : I 0 b0)
    (hs : ∀ (k : Nat) b x, l[k]? = some x → k < l.length → I k b → (∀ b', f b x = .inl b' → B (S b k) = some (.next (S b' (k + 1 : Nat))) ∧ I (k + 1) b') ∧ (∀ t, f b x = .inr t → B (S b k) = some (.done t)))
    (he : ∀ b, I l.length b → B (S b l.length) = some (.done (fin b))) : LoopF B s0 = some (foldR f fin l b0) := by
  subst h0
  exact LoopF_foldR l S B f fin I (fun k b x hx => hs k b x hx (lt_of_get hx)) he l 0 b0 rfl (Nat.zero_le _) hI

theorem wrap_succ {k n : Nat} (h : k < n) (hn : n ≤ 4611686018427387904) : IntKind.i64.wrap ((k : Int) + 1) = ((k + 1 : Nat) : Int) := by
  rw [wrap_i64 (by omega) (by omega)]; omega
theorem wrap_nat {k : Nat} (h : k < 4611686018427387904) : IntKind.i64.wrap ((k : Int) + 1) = ((k + 1 : Nat) : Int) := by
  rw [wrap_i64 (by omega) (by omega)]; omega
theorem wrap_u8 (c : UInt8) : IntKind.i64.wrap ((c.toNat : Nat) : Int) = ((c.toNat : Nat) : Int) := by
  have := c.toNat_lt
  exact wrap_i64 (by omega) (by omega)
theorem room_le {n b : Nat} (h : n ≤ 1073741824) (hb : b ≤ 65536) : roomB n b = true := by
  unfold roomB
  have : n * b ≤ 1073741824 * 65536 := Nat.mul_le_mul h hb
  simp only [decide_eq_true_eq]
  omega
theorem idx_get {α : Type} {l : List α} {k : Nat} {x : α} (h : l[k]? = some x) : idx l (k : Int) = some x := by rw [idx_nat, h]
theorem lt_true {α : Type} {l : List α} {k : Nat} {x : α} (h : l[k]? = some x) : ((k : Int) < (l.length : Int)) := by have := lt_of_get h; omega

/-! ### kinds of loops -/
theorem foldR_all {α : Type} (p : α → Bool) : ∀ l : List α, foldR (fun (_ : Unit) x => if p x then Sum.inl () else Sum.inr (Sum.inr false)) (fun _ => (Sum.inl () : Unit ⊕ Bool)) l () = if l.all p then .inl () else .inr false
  | [] => rfl
  | x :: r => by
    simp only [foldR, List.all_cons]
    rcases Bool.eq_false_or_eq_true (p x) with h | h <;> simp [h, foldR_all p r]
theorem foldl_of {α β : Type} (g : β → α → β) : ∀ (l : List α) (b : β), foldR (fun b x => (Sum.inl (g b x) : β ⊕ β)) id l b = l.foldl g b
  | [], _ => rfl
  | x :: r, b => by simp only [foldR, List.foldl_cons]; exact foldl_of g r _
theorem foldl_of' {α β τ : Type} (g : β → α → β) (fin : β → τ) : ∀ (l : List α) (b : β), foldR (fun b x => (Sum.inl (g b x) : β ⊕ τ)) fin l b = fin (l.foldl g b)
  | [], _ => rfl
  | x :: r, b => by simp only [foldR, List.foldl_cons]; exact foldl_of' g fin r _
end Go.Ab
namespace Go.Ab
open Go
theorem LoopF_all {α ρ : Type} (l : List α) (B : Int → Option (LS Int (Unit ⊕ ρ))) (p : α → Bool) (bad : ρ)
    (h1 : ∀ (k : Nat) x, l[k]? = some x → k < l.length → p x = true → B k = some (.next (k + 1 : Nat))) (h2 : ∀ (k : Nat) x, l[k]? = some x → p x = false → B k = some (.done (.inr bad))) (h3 : B l.length = some (.done (.inl ()))) :
    LoopF B 0 = some (if l.all p then .inl () else .inr bad) := by
  have h := LoopF_list l (fun (_ : Unit) i => i) B (fun (_ : Unit) x => if p x then Sum.inl () else Sum.inr (Sum.inr bad)) (fun _ => Sum.inl ()) (fun _ _ => True) (b0 := ()) (s0 := 0) rfl trivial
    (fun k b x hx hk _ => by
      constructor
      · intro b' hf
        refine ⟨?_, trivial⟩
        rcases Bool.eq_false_or_eq_true (p x) with hp | hp
        · exact h1 k x hx hk hp
        · simp [hp] at hf
      · intro t hf
        rcases Bool.eq_false_or_eq_true (p x) with hp | hp
        · simp [hp] at hf
        · simp [hp] at hf; subst hf; exact h2 k x hx hp)
    (fun b _ => h3)
  rw [h]
  congr 1
  clear h h1 h2 h3
  induction l with
  | nil => rfl
  | cons x r ih => rcases Bool.eq_false_or_eq_true (p x) with hp | hp <;> simp [foldR, hp, ih]
theorem LoopF_find {α : Type} (l : List α) (B : Int → Option (LS Int (Unit ⊕ Int))) (p : α → Bool)
    (h1 : ∀ (k : Nat) x, l[k]? = some x → k < l.length → p x = false → B k = some (.next (k + 1 : Nat))) (h2 : ∀ (k : Nat) x, l[k]? = some x → p x = true → B k = some (.done (.inr k))) (h3 : B l.length = some (.done (.inl ()))) :
    LoopF B 0 = some (match l.findIdx? p with | some i => .inr (i : Int) | none => .inl ()) := by
  have key : ∀ (r : List α) (k : Nat), l.drop k = r → k ≤ l.length → LoopF B (k : Int) = some (match r.findIdx? p with | some i => .inr ((k + i : Nat) : Int) | none => .inl ()) := by
    intro r
    induction r with
    | nil =>
      intro k hd hk
      have : k = l.length := by
        have := congrArg List.length hd
        simp at this; omega
      subst this
      exact Loop_done h3
    | cons x r ih =>
      intro k hd hk
      have hx : l[k]? = some x := by
        have := congrArg (·[0]?) hd
        simpa [List.getElem?_drop] using this
      have hd' : l.drop (k + 1) = r := by rw [← List.drop_drop, hd]; rfl
      rcases Bool.eq_false_or_eq_true (p x) with hp | hp
      · rw [Loop_done (h2 k x hx hp)]
        simp [List.findIdx?_cons, hp]
      · rw [Loop_next (h1 k x hx (lt_of_get hx) hp), ih (k + 1) hd' (lt_of_get hx)]
        simp only [List.findIdx?_cons, hp]
        cases r.findIdx? p with
        | none => rfl
        | some i => simp; omega
  have := key l 0 (by simp) (Nat.zero_le _)
  simpa using this
/-- a loop that goes to the end of a list -/
theorem LoopF_foldl {α β σ τ : Type} (l : List α) (S : β → Int → σ) (B : σ → Option (LS σ τ)) (g : β → α → β) (fin : β → τ) (I : Nat → β → Prop) {b0 : β} {s0 : σ} (h0 : s0 = S b0 0) (hI : I 0 b0)
    (hs : ∀ (k : Nat) b x, l[k]? = some x → k < l.length → I k b → B (S b k) = some (.next (S (g b x) (k + 1 : Nat))) ∧ I (k + 1) (g b x))
    (he : ∀ b, I l.length b → B (S b l.length) = some (.done (fin b))) : LoopF B s0 = some (fin (l.foldl g b0)) := by
  rw [LoopF_list l S B (fun b x => Sum.inl (g b x)) fin I h0 hI (fun k b x hx hk hi => ⟨fun b' hb => by cases hb; exact hs k b x hx hk hi, fun t ht => by cases ht⟩) he, foldl_of']
/-- what holds after a loop that goes to the end -/
theorem foldl_inv {α β : Type} (g : β → α → β) (I : Nat → β → Prop) (l : List α) : ∀ (r : List α) (k : Nat) (b : β), l.drop k = r → I k b → (∀ k b x, l[k]? = some x → I k b → I (k + 1) (g b x)) → k ≤ l.length → I l.length (r.foldl g b) := by
  intro r
  induction r with
  | nil =>
    intro k b hd hI _ hk
    have : k = l.length := by
      have := congrArg List.length hd
      simp at this; omega
    subst this; exact hI
  | cons x r ih =>
    intro k b hd hI hs hk
    have hx : l[k]? = some x := by
      have := congrArg (·[0]?) hd
      simpa [List.getElem?_drop] using this
    exact ih (k + 1) _ (by rw [← List.drop_drop, hd]; rfl) (hs k b x hx hI) hs (lt_of_get hx)
end Go.Ab
namespace Go.Ab
open Go
/-! ### what is known of the arguments -/
def okI (k : IntKind) (n : Int) : Prop := (Lit.int k n).wf = true
def okS (s : List UInt8) : Prop := s.length ≤ 1048576
def okL {α : Type} (ok : α → Prop) (l : List α) : Prop := l.length ≤ 1048576 ∧ ∀ x ∈ l, ok x
end Go.Ab
namespace Go.Ab
open Go
/-- all elements, with their places -/
def allFrom {α : Type} (p : Nat → α → Bool) : Nat → List α → Bool
  | _, [] => true
  | k, x :: r => p k x && allFrom p (k + 1) r
theorem LoopF_allk {α ρ : Type} (l : List α) (B : Int → Option (LS Int (Unit ⊕ ρ))) (p : Nat → α → Bool) (bad : ρ)
    (h1 : ∀ (k : Nat) x, l[k]? = some x → k < l.length → p k x = true → B k = some (.next (k + 1 : Nat))) (h2 : ∀ (k : Nat) x, l[k]? = some x → p k x = false → B k = some (.done (.inr bad))) (h3 : B l.length = some (.done (.inl ()))) :
    ∀ (r : List α) (k : Nat), l.drop k = r → k ≤ l.length → LoopF B (k : Int) = some (if allFrom p k r then .inl () else .inr bad) := by
  intro r
  induction r with
  | nil =>
    intro k hd hk
    have : k = l.length := by
      have := congrArg List.length hd
      simp at this; omega
    subst this
    exact Loop_done h3
  | cons x r ih =>
    intro k hd hk
    have hx : l[k]? = some x := by
      have := congrArg (·[0]?) hd
      simpa [List.getElem?_drop] using this
    have hd' : l.drop (k + 1) = r := by rw [← List.drop_drop, hd]; rfl
    rcases Bool.eq_false_or_eq_true (p k x) with hp | hp
    · rw [Loop_next (h1 k x hx (lt_of_get hx) hp), ih (k + 1) hd' (lt_of_get hx)]
      simp [allFrom, hp]
    · rw [Loop_done (h2 k x hx hp)]
      simp [allFrom, hp]
theorem allFrom_all {α : Type} (q : α → Bool) : ∀ (l : List α) (k : Nat), allFrom (fun _ x => q x) k l = l.all q
  | [], _ => rfl
  | x :: r, k => by simp [allFrom, allFrom_all q r]
theorem allFrom_congr {α : Type} {p q : Nat → α → Bool} : ∀ (l : List α) (k : Nat), (∀ j x, k ≤ j → x ∈ l → p j x = q j x) → allFrom p k l = allFrom q k l
  | [], _, _ => rfl
  | x :: r, k, h => by
    simp only [allFrom]
    rw [h k x (Nat.le_refl _) (by simp), allFrom_congr r (k + 1) (fun j y hj hy => h j y (by omega) (by simp [hy]))]
theorem room8 {n : Nat} (h : n ≤ 17592186044416) : roomB n 8 = true := by
  unfold roomB
  simp only [decide_eq_true_eq]
  omega
end Go.Ab
set_option linter.unusedVariables false
namespace Go.Proofs.Ytdmddoljldjjeaa
open Go Go.Ab
def okValue (x : Value) : Prop := (okI .i64) x.Kind ∧ (okI .i64) x.Num ∧ okS x.Str
def okRow (x : Row) : Prop := (okI .i64) x.ID ∧ (okL okValue) x.Values
def okDrossref55_Result (x : Drossref55_Result) : Prop := okValue x.Value ∧ (okI .i64) x.Origin
def okDrossref55_Row (x : Drossref55_Row) : Prop := okRow x.Row ∧ (okL (okI .i64)) x.Origins
def okTable (x : Table) : Prop := okS x.Name ∧ (okL okS) x.Attrs ∧ (okL okRow) x.Rows
def okMerged (x : Merged) : Prop := okTable x.Table ∧ (okL (okL (okI .i64))) x.Clusters ∧ (okL (okL (okI .i64))) x.Origins
def okCellRef (x : CellRef) : Prop := (okI .i64) x.ID ∧ (okI .i64) x.Attr
end Go.Proofs.Ytdmddoljldjjeaa
/- The values of the program and of the reference: valid ones, their order. -/
set_option linter.unusedVariables false
set_option linter.unusedSimpArgs false
namespace Go.Proofs.Ytdmddoljldjjeaa
open Go Go.Ab

def valid (v : Value) : Bool := decide ((v.Kind = 0 ∧ v.Num = 0 ∧ v.Str = []) ∨ (v.Kind = 1 ∧ v.Str = []) ∨ (v.Kind = 2 ∧ v.Num = 0 ∧ v.Str.length ≤ 200) ∨ (v.Kind = 3 ∧ 1 ≤ v.Num ∧ v.Str = []))
theorem value_Valid_eq (v : Value) : value_Valid v = some (valid v) := by
  simp only [value_Valid, valid]
  repeat' split
  all_goals simp_all
  all_goals (try omega)
  all_goals (try (rw [Bool.eq_iff_iff]; simp <;> omega))
theorem ref_Valid_eq (v : Value) : drossref01_Valid v = some (valid v) := by
  simp only [drossref01_Valid, valid]
  repeat' split
  all_goals simp_all
  all_goals (try omega)
  all_goals (try (rw [Bool.eq_iff_iff]; simp <;> omega))

theorem ref_Valids_eq (l : List Value) (hl : l.length ≤ 1073741824) : drossref01_Valids l = some (l.all valid) := by
  have h := LoopF_list l (fun (_ : Unit) i => i) (drossref01_Valids_l1 l) (fun (_ : Unit) x => if valid x then Sum.inl () else Sum.inr (Sum.inr false)) (fun _ => Sum.inl ()) (fun _ _ => True) (b0 := ()) (s0 := 0) rfl trivial
    (fun k b x hx hk _ => by
      constructor
      · intro b' hf
        refine ⟨?_, trivial⟩
        have hv : valid x = true := by
          by_cases hc : valid x = true
          · exact hc
          · simp [hc] at hf
        simp [drossref01_Valids_l1, lt_true hx, idx_get hx, ref_Valid_eq, hv, wrap_succ hk (by omega)]
      · intro t hf
        have hv : valid x = false := by
          by_cases hc : valid x = true
          · simp [hc] at hf
          · simpa using hc
        simp [hv] at hf
        subst hf
        simp [drossref01_Valids_l1, lt_true hx, idx_get hx, ref_Valid_eq, hv])
    (fun b _ => by simp [drossref01_Valids_l1])
  simp only [drossref01_Valids]
  rw [h, foldR_all]
  cases h2 : l.all valid <;> simp [h2]

def sgn (a b : Int) : Int := if a < b then -1 else if b < a then 1 else 0
theorem ref_sign_eq (a b : Int) : drossref01_sign a b = some (sgn a b) := by
  simp only [drossref01_sign, sgn]
  split <;> (try split) <;> simp_all
theorem cmp_int_eq (a b : Int) : cmp_Compare_int a b = some (sgn a b) := by
  simp only [cmp_Compare_int, cmp_isNaN_int, sgn]
  simp
  split <;> (try split) <;> simp_all
theorem cmp_int64_eq (a b : Int) : cmp_Compare_int64 a b = some (sgn a b) := by
  simp only [cmp_Compare_int64, cmp_isNaN_int64, sgn]
  simp
  split <;> (try split) <;> simp_all

def strc : List UInt8 → List UInt8 → Int
  | [], [] => 0
  | [], _ :: _ => -1
  | _ :: _, [] => 1
  | a :: x, b :: y => if a = b then strc x y else sgn a.toNat b.toNat
theorem compareBytes_eq : ∀ a b : List UInt8, Lib.compareBytes a b = strc a b
  | [], [] => rfl
  | [], _ :: _ => rfl
  | _ :: _, [] => rfl
  | x :: a, y :: b => by
    simp only [Lib.compareBytes, strc, sgn, compareBytes_eq a b, UInt8.lt_iff_toNat_lt, ← UInt8.toNat_inj]
    split <;> split <;> (try split) <;> (try split) <;> omega
theorem strings_Compare_eq (a b : List UInt8) : strings_Compare a b = some (strc a b) := by
  simp [strings_Compare, bytealg_CompareString, compareBytes_eq]
theorem sgn_ne {a b : Int} (h : a ≠ b) : sgn a b ≠ 0 := by
  unfold sgn; split <;> (try split) <;> omega
theorem sgn_self (a : Int) : sgn a a = 0 := by unfold sgn; simp

/-- what the reference's loop finds in two strings -/
theorem strings_loop (a b : List UInt8) (ha : a.length ≤ 1073741824) : ∀ (r : List UInt8) (k : Nat), a.drop k = r → k ≤ a.length → k ≤ b.length → 
    (∃ o, LoopF (drossref01_strings_l1 a b) (k : Int) = some o ∧ (match o with | .inl () => sgn (r.length) ((b.drop k).length) = strc r (b.drop k) | .inr z => z = strc r (b.drop k))) := by
  intro r
  induction r with
  | nil =>
    intro k hd hk hkb
    have hk' : k = a.length := by
      have := congrArg List.length hd
      simp at this; omega
    subst hk'
    refine ⟨.inl (), Loop_done (by simp [drossref01_strings_l1]), ?_⟩
    cases hb : b.drop a.length with
    | nil => rfl
    | cons y s => simp [strc, sgn]
  | cons x r ih =>
    intro k hd hk hkb
    have hx : a[k]? = some x := by
      have := congrArg (·[0]?) hd
      simpa [List.getElem?_drop] using this
    have hd' : a.drop (k + 1) = r := by rw [← List.drop_drop, hd]; rfl
    have hlt := lt_of_get hx
    cases hb : b.drop k with
    | nil =>
      have hkb' : k = b.length := by
        have := congrArg List.length hb
        simp at this; omega
      subst hkb'
      refine ⟨.inl (), Loop_done (by simp [drossref01_strings_l1]), ?_⟩
      simp [strc, sgn]; omega
    | cons y s =>
      have hy : b[k]? = some y := by
        have := congrArg (·[0]?) hb
        simpa [List.getElem?_drop] using this
      have hb' : b.drop (k + 1) = s := by rw [← List.drop_drop, hb]; rfl
      by_cases hxy : x = y
      · subst hxy
        have h1 : drossref01_strings_l1 a b (k : Int) = some (.next ((k + 1 : Nat) : Int)) := by
          simp [drossref01_strings_l1, lt_true hx, lt_true hy, idx_get hx, idx_get hy, wrap_succ hlt (by omega)]
        obtain ⟨o, h2, h3⟩ := ih (k + 1) hd' hlt (lt_of_get hy)
        refine ⟨o, by rw [Loop_next h1]; exact h2, ?_⟩
        rw [hb'] at h3
        cases o with
        | inl u =>
          simp only at h3 ⊢
          rw [strc, if_pos rfl, ← h3]
          simp only [List.length_cons, sgn]
          split <;> split <;> (try split) <;> (try split) <;> omega
        | inr z =>
          simp only at h3 ⊢
          rw [strc, if_pos rfl, ← h3]
      · have hne : (((x.toNat : Nat) : Int) != ((y.toNat : Nat) : Int)) = true := by
          simp only [bne_iff_ne, ne_eq, Int.natCast_inj, UInt8.toNat_inj]
          exact hxy
        refine ⟨.inr (sgn x.toNat y.toNat), Loop_done ?_, ?_⟩
        · simp only [drossref01_strings_l1, if_pos (lt_true hx), if_pos (lt_true hy), idx_get hx, idx_get hy, Option.bind_some, if_pos hne, wrap_u8, ref_sign_eq]
        · simp only [strc, if_neg hxy]
theorem ref_strings_eq (a b : List UInt8) (ha : a.length ≤ 1073741824) : drossref01_strings a b = some (strc a b) := by
  obtain ⟨o, h1, h2⟩ := strings_loop a b ha a 0 (by simp) (Nat.zero_le _) (Nat.zero_le _)
  simp only [drossref01_strings]
  have h1' : LoopF (drossref01_strings_l1 a b) 0 = some o := h1
  rw [h1']
  cases o with
  | inl u =>
    simp only [List.drop_zero] at h2
    simp [ref_sign_eq, h2]
  | inr z =>
    simp only [List.drop_zero] at h2
    simp [h2]

def vcmp (a b : Value) : Int := if sgn a.Kind b.Kind ≠ 0 then sgn a.Kind b.Kind else if sgn a.Num b.Num ≠ 0 then sgn a.Num b.Num else strc a.Str b.Str
theorem ref_Compare_eq (a b : Value) (ha : a.Str.length ≤ 1073741824) : drossref01_Compare a b = some (vcmp a b) := by
  simp only [drossref01_Compare, ref_sign_eq, ref_strings_eq _ _ ha, vcmp, Option.bind_some]
  split <;> (try split) <;> (try split) <;> simp_all
theorem Or3_eq (a b c : Int) : cmp_Or_int [a, b, c] = some (if a ≠ 0 then a else if b ≠ 0 then b else c) := by
  simp only [cmp_Or_int]
  have w0 : IntKind.i64.wrap 1 = 1 := by decide
  have w1 : IntKind.i64.wrap 2 = 2 := by decide
  have w2 : IntKind.i64.wrap 3 = 3 := by decide
  by_cases h1 : a = 0
  · by_cases h2 : b = 0
    · by_cases h3 : c = 0
      · rw [Loop_next (s' := 1) (by simp [cmp_Or_int_l1, idx, h1, w0]), Loop_next (s' := 2) (by simp [cmp_Or_int_l1, idx, h2, w1]), Loop_next (s' := 3) (by simp [cmp_Or_int_l1, idx, h3, w2]), Loop_done (t := .inl ()) (by simp [cmp_Or_int_l1])]
        simp [h1, h2, h3]
      · rw [Loop_next (s' := 1) (by simp [cmp_Or_int_l1, idx, h1, w0]), Loop_next (s' := 2) (by simp [cmp_Or_int_l1, idx, h2, w1]), Loop_done (t := .inr c) (by simp [cmp_Or_int_l1, idx, h3])]
        simp [h1, h2]
    · rw [Loop_next (s' := 1) (by simp [cmp_Or_int_l1, idx, h1, w0]), Loop_done (t := .inr b) (by simp [cmp_Or_int_l1, idx, h2])]
      simp [h1, h2]
  · rw [Loop_done (t := .inr a) (by simp [cmp_Or_int_l1, idx, h1])]
    simp [h1]
theorem value_Compare_eq (a b : Value) : value_Compare a b = some (vcmp a b) := by
  simp only [value_Compare, cmp_int_eq, cmp_int64_eq, strings_Compare_eq, Option.bind_some, Or3_eq, vcmp]

theorem strc_eq : ∀ a b : List UInt8, strc a b = 0 ↔ a = b
  | [], [] => by simp [strc]
  | [], _ :: _ => by simp [strc]
  | _ :: _, [] => by simp [strc]
  | x :: a, y :: b => by
    simp only [strc]
    by_cases h : x = y
    · subst h; simp [strc_eq a b]
    · have : sgn x.toNat y.toNat ≠ 0 := sgn_ne (by simpa [Int.natCast_inj, UInt8.toNat_inj] using h)
      simp [h, this]
theorem sgn_zero (a b : Int) : sgn a b = 0 ↔ a = b := by
  unfold sgn; split <;> (try split) <;> omega
theorem vcmp_eq (a b : Value) : vcmp a b = 0 ↔ a = b := by
  unfold vcmp
  cases a; cases b
  simp only [Value.mk.injEq]
  split
  · rename_i h; simp only [ne_eq, sgn_zero] at h; simp [sgn_zero, h]
  · rename_i h; simp only [ne_eq, sgn_zero, Decidable.not_not] at h
    split
    · rename_i h2; simp only [ne_eq, sgn_zero] at h2; simp [sgn_zero, h2]
    · rename_i h2; simp only [ne_eq, sgn_zero, Decidable.not_not] at h2
      simp [strc_eq, h, h2]
def veq (a b : Value) : Bool := (a.Kind == b.Kind) && ((a.Num == b.Num) && (a.Str == b.Str))
theorem veq_iff (a b : Value) : veq a b = true ↔ a = b := by
  cases a; cases b; simp [veq]
theorem veq_eq (a b : Value) : veq a b = decide (a = b) := by
  rw [Bool.eq_iff_iff, veq_iff]; simp
end Go.Proofs.Ytdmddoljldjjeaa
/- The rows of the merging. -/
set_option linter.unusedVariables false
set_option linter.unusedSimpArgs false
namespace Go.Proofs.Ytdmddoljldjjeaa
open Go Go.Ab

def rowsErr : List Row → Int
  | [] => 12
  | r :: l => if (r :: l).all (fun x => x.Values.length == r.Values.length) then 0 else 6
theorem checkRows_eq (rows : List Row) (hl : rows.length ≤ 1073741824) : survivor_checkRows rows = some (rowsErr rows) := by
  cases rows with
  | nil => rfl
  | cons r l =>
    have h := LoopF_all (r :: l) (survivor_checkRows_l1 (r :: l)) (fun x => x.Values.length == r.Values.length) 6
      (fun k x hx hk hp => by
        have hp' : ¬ (((x.Values.length : Int) != (r.Values.length : Int)) = true) := by simp at hp ⊢; omega
        simp only [survivor_checkRows_l1, if_pos (lt_true hx), idx_get hx, Option.bind_some, List.getElem?_cons_zero, if_neg hp', wrap_succ hk (by omega)])
      (fun k x hx hp => by
        have hp' : (((x.Values.length : Int) != (r.Values.length : Int)) = true) := by simp at hp ⊢; omega
        simp only [survivor_checkRows_l1, if_pos (lt_true hx), idx_get hx, Option.bind_some, List.getElem?_cons_zero, if_pos hp'])
      (by simp [survivor_checkRows_l1])
    have hn : ¬ ((((r :: l).length : Int) == 0) = true) := by simp; omega
    simp only [survivor_checkRows, if_neg hn, h, Option.bind_some, rowsErr]
    cases ((r :: l).all fun x => x.Values.length == r.Values.length) <;> rfl
theorem rowsError_eq (rows : List Row) (hl : rows.length ≤ 1073741824) : drossref55_rowsError rows = some (rowsErr rows) := by
  cases rows with
  | nil => rfl
  | cons r l =>
    have h := LoopF_all (r :: l) (drossref55_rowsError_l1 (r :: l)) (fun x => x.Values.length == r.Values.length) 6
      (fun k x hx hk hp => by
        have hp' : ¬ (((x.Values.length : Int) != (r.Values.length : Int)) = true) := by simp at hp ⊢; omega
        simp only [drossref55_rowsError_l1, if_pos (lt_true hx), idx_get hx, Option.bind_some, List.getElem?_cons_zero, if_neg hp', wrap_succ hk (by omega)])
      (fun k x hx hp => by
        have hp' : (((x.Values.length : Int) != (r.Values.length : Int)) = true) := by simp at hp ⊢; omega
        simp only [drossref55_rowsError_l1, if_pos (lt_true hx), idx_get hx, Option.bind_some, List.getElem?_cons_zero, if_pos hp'])
      (by simp [drossref55_rowsError_l1])
    have hn : ¬ ((((r :: l).length : Int) == 0) = true) := by simp; omega
    simp only [drossref55_rowsError, if_neg hn, h, Option.bind_some, rowsErr]
    cases ((r :: l).all fun x => x.Values.length == r.Values.length) <;> rfl

theorem IndexFunc_Value_eq (l : List Value) (f : Value → Option Bool) (p : Value → Bool) (hf : ∀ x ∈ l, f x = some (p x)) (hl : l.length ≤ 1073741824) : slices_IndexFunc_Value l f = some (match l.findIdx? p with | some i => (i : Int) | none => -1) := by
  have h := LoopF_find l (slices_IndexFunc_Value_l1 l f) p
    (fun k x hx hk hp => by simp [slices_IndexFunc_Value_l1, lt_true hx, idx_get hx, hf x (List.mem_of_getElem? hx), hp, wrap_succ hk (by omega)])
    (fun k x hx hp => by simp [slices_IndexFunc_Value_l1, lt_true hx, idx_get hx, hf x (List.mem_of_getElem? hx), hp])
    (by simp [slices_IndexFunc_Value_l1])
  simp only [slices_IndexFunc_Value, h, Option.bind_some]
  cases l.findIdx? p <;> rfl
theorem IndexFunc_Row_eq (l : List Row) (f : Row → Option Bool) (p : Row → Bool) (hf : ∀ x ∈ l, f x = some (p x)) (hl : l.length ≤ 1073741824) : slices_IndexFunc_Row l f = some (match l.findIdx? p with | some i => (i : Int) | none => -1) := by
  have h := LoopF_find l (slices_IndexFunc_Row_l1 l f) p
    (fun k x hx hk hp => by simp [slices_IndexFunc_Row_l1, lt_true hx, idx_get hx, hf x (List.mem_of_getElem? hx), hp, wrap_succ hk (by omega)])
    (fun k x hx hp => by simp [slices_IndexFunc_Row_l1, lt_true hx, idx_get hx, hf x (List.mem_of_getElem? hx), hp])
    (by simp [slices_IndexFunc_Row_l1])
  simp only [slices_IndexFunc_Row, h, Option.bind_some]
  cases l.findIdx? p <;> rfl
theorem findIdx_any {α : Type} (p : α → Bool) (l : List α) : decide ((match l.findIdx? p with | some i => ((i : Nat) : Int) | none => -1) ≥ 0) = l.any p := by
  cases h : l.findIdx? p with
  | none =>
    rw [List.findIdx?_eq_none_iff] at h
    have : l.any p = false := by rw [List.any_eq_false]; intro x hx; simp [h x hx]
    rw [this]; rfl
  | some i =>
    have : l.any p = true := by
      rw [List.findIdx?_eq_some_iff_getElem] at h
      obtain ⟨hi, hp, _⟩ := h
      rw [List.any_eq_true]
      exact ⟨_, List.getElem_mem hi, hp⟩
    rw [this]; simp
theorem ContainsFunc_Value_eq (l : List Value) (f : Value → Option Bool) (p : Value → Bool) (hf : ∀ x ∈ l, f x = some (p x)) (hl : l.length ≤ 1073741824) : slices_ContainsFunc_Value l f = some (l.any p) := by
  simp only [slices_ContainsFunc_Value, IndexFunc_Value_eq l f p hf hl, Option.bind_some, findIdx_any]

/-- the IDs ascend from a number on, and all values are valid -/
def okRows : Int → List Row → Bool
  | _, [] => true
  | a, r :: l => decide (a < r.ID) && r.Values.all valid && okRows r.ID l
theorem foldR_ok {ρ : Type} (bad : ρ) : ∀ (l : List Row) (a : Int), foldR (fun (a : Int) (r : Row) => if decide (a < r.ID) && r.Values.all valid then Sum.inl r.ID else Sum.inr (Sum.inr bad)) (fun _ => (Sum.inl () : Unit ⊕ ρ)) l a = if okRows a l then .inl () else .inr bad
  | [], _ => rfl
  | r :: l, a => by
    simp only [foldR, okRows]
    rcases Bool.eq_false_or_eq_true (decide (a < r.ID) && r.Values.all valid) with h | h
    · simp only [h, if_true, Bool.true_and]; exact foldR_ok bad l r.ID
    · simp [h]
theorem checkValues_eq (rows : List Row) (hl : rows.length ≤ 1073741824) (hv : ∀ r ∈ rows, r.Values.length ≤ 1073741824) : survivor_checkValues rows = some (if okRows 0 rows then 0 else 1) := by
  have h := LoopF_list rows (fun (a : Int) i => (a, i)) (survivor_checkValues_l1 rows) (fun (a : Int) (r : Row) => if decide (a < r.ID) && r.Values.all valid then Sum.inl r.ID else Sum.inr (Sum.inr 1)) (fun _ => Sum.inl ()) (fun _ _ => True) (b0 := 0) (s0 := (0, 0)) rfl trivial
    (fun k a x hx hk _ => by
      have hc : slices_ContainsFunc_Value x.Values (fun y => survivor_checkValues_1 y) = some (x.Values.any fun v => !valid v) :=
        ContainsFunc_Value_eq _ _ _ (fun y _ => by simp [survivor_checkValues_1, value_Valid_eq]) (hv x (List.mem_of_getElem? hx))
      have ha : (x.Values.any fun v => !valid v) = !x.Values.all valid := by simp [List.all_eq_not_any_not]
      rw [ha] at hc
      have hB : survivor_checkValues_l1 rows (a, (k : Int)) = if decide (a < x.ID) && x.Values.all valid then some (.next (x.ID, ((k + 1 : Nat) : Int))) else some (.done (.inr 1)) := by
        simp only [survivor_checkValues_l1, if_pos (lt_true hx), idx_get hx, Option.bind_some, hc, wrap_succ hk (by omega)]
        by_cases h1 : a < x.ID
        · have : ¬ x.ID ≤ a := by omega
          simp only [if_neg this, h1, decide_true, Bool.true_and]
          cases x.Values.all valid <;> simp
        · have : x.ID ≤ a := by omega
          simp [this, h1]
      constructor
      · intro b' hf
        refine ⟨?_, trivial⟩
        split at hf
        · cases hf; rw [hB]; simp_all
        · cases hf
      · intro t hf
        split at hf
        · cases hf
        · cases hf; rw [hB]; simp_all)
    (fun b _ => by simp [survivor_checkValues_l1])
  simp only [survivor_checkValues, h, foldR_ok, Option.bind_some]
  cases okRows 0 rows <;> rfl
theorem ref_valid_eq (rows : List Row) (hl : rows.length ≤ 1073741824) (hv : ∀ r ∈ rows, r.Values.length ≤ 1073741824) : drossref55_valid rows = some (okRows 0 rows) := by
  have h := LoopF_list rows (fun (a : Int) i => (a, i)) (drossref55_valid_l1 rows) (fun (a : Int) (r : Row) => if decide (a < r.ID) && r.Values.all valid then Sum.inl r.ID else Sum.inr (Sum.inr false)) (fun _ => Sum.inl ()) (fun _ _ => True) (b0 := 0) (s0 := (0, 0)) rfl trivial
    (fun k a x hx hk _ => by
      have hc := ref_Valids_eq x.Values (hv x (List.mem_of_getElem? hx))
      have hB : drossref55_valid_l1 rows (a, (k : Int)) = if decide (a < x.ID) && x.Values.all valid then some (.next (x.ID, ((k + 1 : Nat) : Int))) else some (.done (.inr false)) := by
        simp only [drossref55_valid_l1, if_pos (lt_true hx), idx_get hx, Option.bind_some, hc, wrap_succ hk (by omega)]
        by_cases h1 : a < x.ID
        · have : ¬ x.ID ≤ a := by omega
          simp only [if_neg this, h1, decide_true, Bool.true_and]
        · have : x.ID ≤ a := by omega
          simp [this, h1]
      constructor
      · intro b' hf
        refine ⟨?_, trivial⟩
        split at hf
        · cases hf; rw [hB]; simp_all
        · cases hf
      · intro t hf
        split at hf
        · cases hf
        · cases hf; rw [hB]; simp_all)
    (fun b _ => by simp [drossref55_valid_l1])
  simp only [drossref55_valid, h, foldR_ok, Option.bind_some]
  cases okRows 0 rows <;> rfl
end Go.Proofs.Ytdmddoljldjjeaa
/- The choice of a value. -/
set_option linter.unusedVariables false
set_option linter.unusedSimpArgs false
namespace Go.Proofs.Ytdmddoljldjjeaa
open Go Go.Ab

/-! ### the order of values -/
theorem sgn_lt (a b : Int) : sgn a b < 0 ↔ a < b := by unfold sgn; split <;> (try split) <;> omega
theorem sgn_gt (a b : Int) : 0 < sgn a b ↔ b < a := by unfold sgn; split <;> (try split) <;> omega
theorem sgn_neg (a b : Int) : sgn b a = - sgn a b := by unfold sgn; split <;> (try split) <;> (try split) <;> omega
theorem strc_neg : ∀ a b : List UInt8, strc b a = - strc a b
  | [], [] => rfl
  | [], _ :: _ => rfl
  | _ :: _, [] => rfl
  | x :: a, y :: b => by
    simp only [strc]
    by_cases h : x = y
    · subst h; simp [strc_neg a b]
    · have h' : ¬ y = x := fun e => h e.symm
      simp only [if_neg h, if_neg h']; exact sgn_neg _ _
theorem strc_trans : ∀ a b c : List UInt8, strc a b < 0 → strc b c < 0 → strc a c < 0
  | [], [], _, h, _ => by simp [strc] at h
  | [], _ :: _, [], _, h => by simp [strc] at h
  | [], _ :: _, _ :: _, _, _ => by simp [strc]
  | _ :: _, [], _, h, _ => by simp [strc] at h
  | _ :: _, _ :: _, [], _, h => by simp [strc] at h
  | x :: a, y :: b, z :: c, h1, h2 => by
    simp only [strc] at h1 h2 ⊢
    have ix : ∀ p q : UInt8, p = q ↔ (p.toNat : Int) = q.toNat := fun p q => by rw [Int.natCast_inj, UInt8.toNat_inj]
    by_cases hxy : x = y
    · subst hxy
      by_cases hxz : x = z
      · subst hxz
        simp only [if_pos] at h1 h2 ⊢
        exact strc_trans a b c h1 h2
      · simp only [if_neg hxz] at h2 ⊢
        exact h2
    · simp only [if_neg hxy, sgn_lt] at h1
      by_cases hyz : y = z
      · subst hyz
        simp only [if_neg hxy, sgn_lt]; exact h1
      · simp only [if_neg hyz, sgn_lt] at h2
        have hxz : ¬ x = z := by rw [ix]; omega
        simp only [if_neg hxz, sgn_lt]; omega
theorem vcmp_lt (a b : Value) : vcmp a b < 0 ↔ a.Kind < b.Kind ∨ (a.Kind = b.Kind ∧ (a.Num < b.Num ∨ (a.Num = b.Num ∧ strc a.Str b.Str < 0))) := by
  unfold vcmp
  split
  · rename_i h; rw [ne_eq, sgn_zero] at h; rw [sgn_lt]; omega
  · rename_i h; rw [ne_eq, sgn_zero, Decidable.not_not] at h
    split
    · rename_i h2; rw [ne_eq, sgn_zero] at h2; rw [sgn_lt]; omega
    · rename_i h2; rw [ne_eq, sgn_zero, Decidable.not_not] at h2
      constructor
      · intro h3; exact .inr ⟨h, .inr ⟨h2, h3⟩⟩
      · rintro (h3 | ⟨_, h3 | ⟨_, h3⟩⟩)
        · omega
        · omega
        · exact h3
theorem vcmp_trans (a b c : Value) (h1 : vcmp a b < 0) (h2 : vcmp b c < 0) : vcmp a c < 0 := by
  rw [vcmp_lt] at *
  rcases h1 with h1 | ⟨h1, h1' | ⟨h1', h1''⟩⟩ <;> rcases h2 with h2 | ⟨h2, h2' | ⟨h2', h2''⟩⟩ <;> try omega
  exact .inr ⟨by omega, .inr ⟨by omega, strc_trans _ _ _ h1'' h2''⟩⟩
theorem vcmp_neg (a b : Value) : vcmp b a = - vcmp a b := by
  unfold vcmp
  rw [sgn_neg a.Kind, sgn_neg a.Num, strc_neg a.Str]
  split <;> (try split) <;> (try split) <;> (try split) <;> omega
theorem vcmp_self (a : Value) : vcmp a a = 0 := (vcmp_eq a a).2 rfl

/-! ### which value is preferred -/
def betterB (cnt : Value → Int) (rule : Int) (v b : Value) : Bool :=
  if rule = 2 then decide (cnt v > cnt b) else if rule = 3 then decide (v.Kind = 2) && (decide (b.Kind ≠ 2) || decide ((v.Str.length : Int) > b.Str.length))
  else if rule = 4 then decide (vcmp v b < 0) else if rule = 5 then decide (vcmp v b > 0) else false
theorem better_irr (cnt : Value → Int) (rule : Int) (v : Value) : betterB cnt rule v v = false := by
  unfold betterB
  repeat' split
  all_goals simp [vcmp_self]
theorem better_trans (cnt : Value → Int) (rule : Int) (y v b : Value) (h1 : betterB cnt rule y v = true) (h2 : betterB cnt rule v b = true) : betterB cnt rule y b = true := by
  unfold betterB at *
  split at h1
  · rename_i hr; simp only [hr, if_true, decide_eq_true_eq] at *; omega
  · rename_i hr
    simp only [if_neg hr] at h2 ⊢
    split at h1
    · rename_i hr; simp only [hr, if_true, decide_eq_true_eq, Bool.and_eq_true, Bool.or_eq_true] at *
      obtain ⟨a1, a2⟩ := h1
      obtain ⟨b1, b2⟩ := h2
      refine ⟨a1, ?_⟩
      rcases b2 with b2 | b2
      · exact .inl b2
      · rcases a2 with a2 | a2
        · exact absurd b1 a2
        · exact .inr (by omega)
    · rename_i hr
      simp only [if_neg hr] at h2 ⊢
      split at h1
      · rename_i hr; simp only [hr, if_true, decide_eq_true_eq] at *; exact vcmp_trans _ _ _ h1 h2
      · rename_i hr
        simp only [if_neg hr] at h2 ⊢
        split at h1
        · rename_i hr; simp only [hr, if_true, decide_eq_true_eq] at *
          rw [vcmp_neg b] at *
          have e1 : vcmp b v < 0 := by have := vcmp_neg v b; omega
          have e2 : vcmp v y < 0 := by have := vcmp_neg y v; omega
          have := vcmp_trans _ _ _ e1 e2
          have := vcmp_neg b y
          omega
        · cases h1

theorem count_eq (l : List Value) (v : Value) (hl : l.length ≤ 1073741824) : survivor_count l v = some ((l.countP (veq · v) : Nat) : Int) := by
  have h := LoopF_foldl l (fun (n : Nat) i => ((n : Int), i)) (survivor_count_l1 l v) (fun n x => n + if veq x v then 1 else 0) (fun n => (n : Int)) (fun k n => n ≤ k) (b0 := 0) (s0 := (0, 0)) rfl (Nat.le_refl _)
    (fun k n x hx hk hI => by
      have e1 : IntKind.i64.wrap ((n : Int) + 1) = ((n + 1 : Nat) : Int) := wrap_nat (by omega)
      refine ⟨?_, by split <;> omega⟩
      rcases Bool.eq_false_or_eq_true (veq x v) with hv | hv
      · have hv' := hv
        unfold veq at hv'
        simp only [survivor_count_l1, if_pos (lt_true hx), idx_get hx, Option.bind_some, hv', if_true, e1, wrap_succ hk (by omega), hv]
      · have hv' := hv
        unfold veq at hv'
        simp only [survivor_count_l1, if_pos (lt_true hx), idx_get hx, Option.bind_some, hv', Bool.false_eq_true, if_false, e1, wrap_succ hk (by omega), hv, Nat.add_zero])
    (fun n _ => by simp [survivor_count_l1])
  simp only [survivor_count, h, Option.bind_some]
  congr 2
  have : ∀ (r : List Value) (n : Nat), r.foldl (fun n x => n + if veq x v then 1 else 0) n = n + r.countP (veq · v) := by
    intro r
    induction r with
    | nil => intro n; rfl
    | cons x r ih => intro n; rw [List.foldl_cons, ih, List.countP_cons]; omega
  rw [this]; simp

theorem better_eq (l : List Value) (v b : Value) (rule : Int) (hl : l.length ≤ 1073741824) : survivor_better l v b rule = some (betterB (fun x => ((l.countP (veq · x) : Nat) : Int)) rule v b) := by
  simp only [survivor_better, count_eq _ _ hl, value_Compare_eq, Option.bind_some, betterB]
  by_cases h2 : rule = 2
  · simp [h2]
  · by_cases h3 : rule = 3
    · simp only [h3]
      by_cases hk : v.Kind = 2 <;> by_cases hb : b.Kind = 2 <;> simp [hk, hb]
    · by_cases h4 : rule = 4
      · simp [h4]
      · by_cases h5 : rule = 5
        · simp [h5]
        · simp [h2, h3, h4, h5]

def cellV (r : Row) (a : Nat) : Value := r.Values.getD a ⟨0, 0, []⟩
theorem cellV_eq {r : Row} {a : Nat} {y : Value} (h : r.Values[a]? = some y) : cellV r a = y := by simp [cellV, h]
def Has (rows : List Row) (a : Nat) : Prop := ∀ r ∈ rows, r.Values[a]? = some (cellV r a)
def Short (rows : List Row) : Prop := ∀ r ∈ rows, ∀ v ∈ r.Values, v.Str.length ≤ 1073741824

theorem times_eq (rows : List Row) (a : Nat) (v : Value) (hl : rows.length ≤ 1073741824) (ha : Has rows a) (hs : Short rows) : drossref55_times rows a v = some (((rows.map (cellV · a)).countP (veq · v) : Nat) : Int) := by
  have h := LoopF_foldl rows (fun (n : Nat) i => ((n : Int), i)) (drossref55_times_l1 rows a v) (fun n x => n + if veq (cellV x a) v then 1 else 0) (fun n => (n : Int)) (fun k n => n ≤ k) (b0 := 0) (s0 := (0, 0)) rfl (Nat.le_refl _)
    (fun k n x hx hk hI => by
      have e1 : IntKind.i64.wrap ((n : Int) + 1) = ((n + 1 : Nat) : Int) := wrap_nat (by omega)
      refine ⟨?_, by split <;> omega⟩
      have hm := List.mem_of_getElem? hx
      have hc := ha x hm
      have hsh := hs x hm _ (List.mem_of_getElem? hc)
      simp only [drossref55_times_l1, if_pos (lt_true hx), idx_get hx, idx_get hc, Option.bind_some, ref_Compare_eq _ _ hsh, wrap_succ hk (by omega), e1]
      by_cases hv : cellV x a = v
      · have e2 : veq (cellV x a) v = true := (veq_iff _ _).2 hv
        have e3 : (vcmp (cellV x a) v == 0) = true := by simp [vcmp_eq, hv]
        simp only [e2, e3, if_true]
      · have e2 : veq (cellV x a) v = false := by rw [Bool.eq_false_iff]; exact fun h => hv ((veq_iff _ _).1 h)
        have e3 : ¬ (vcmp (cellV x a) v == 0) = true := by simp [vcmp_eq, hv]
        simp only [e2, if_neg e3, Bool.false_eq_true, if_false, Nat.add_zero])
    (fun n _ => by simp [drossref55_times_l1])
  simp only [drossref55_times, h, Option.bind_some]
  congr 2
  have : ∀ (r : List Row) (n : Nat), r.foldl (fun n x => n + if veq (cellV x a) v then 1 else 0) n = n + (r.map (cellV · a)).countP (veq · v) := by
    intro r
    induction r with
    | nil => intro n; rfl
    | cons x r ih => intro n; rw [List.foldl_cons, ih, List.map_cons, List.countP_cons]; omega
  rw [this]; simp

theorem ref_better_eq (rows : List Row) (a : Nat) (rule : Int) (v b : Value) (hl : rows.length ≤ 1073741824) (ha : Has rows a) (hs : Short rows) (hv : v.Str.length ≤ 1073741824) :
    drossref55_better rows a rule v b = some (betterB (fun x => (((rows.map (cellV · a)).countP (veq · x) : Nat) : Int)) rule v b) := by
  simp only [drossref55_better, times_eq _ _ _ hl ha hs, ref_Compare_eq _ _ hv, Option.bind_some, betterB]
  by_cases h2 : rule = 2
  · simp [h2]
  · by_cases h3 : rule = 3
    · simp only [h3]
      by_cases hk : v.Kind = 2 <;> by_cases hb : b.Kind = 2 <;> simp [hk, hb]
    · by_cases h4 : rule = 4
      · simp only [h4]
        by_cases hc : vcmp v b < 0 <;> simp [hc]
      · by_cases h5 : rule = 5
        · simp [h5]
        · simp [h2, h3, h4, h5]
end Go.Proofs.Ytdmddoljldjjeaa
/- Choose is the reference's Choose. -/
set_option linter.unusedVariables false
set_option linter.unusedSimpArgs false
namespace Go.Proofs.Ytdmddoljldjjeaa
open Go Go.Ab

/-- the greatest element that comes first, with the place where it was found -/
def pickF {β : Type} (B : Value → Value → Bool) (o : Value × β) (x : Value × β) : Value × β := if B x.1 o.1 then x else o
theorem pickF_first {β : Type} (B : Value → Value → Bool) (irr : ∀ v, B v v = false) (tr : ∀ y v b, B y v = true → B v b = true → B y b = true) : ∀ (r P : List (Value × β)) (o : Value × β),
    P.find? (fun p => p.1 == o.1) = some o → (∀ p ∈ P, B p.1 o.1 = false) → (P ++ r).find? (fun p => p.1 == (r.foldl (pickF B) o).1) = some (r.foldl (pickF B) o)
  | [], P, o, h1, _ => by simpa using h1
  | x :: r, P, o, h1, h2 => by
    have e : P ++ x :: r = (P ++ [x]) ++ r := by simp
    rw [e, List.foldl_cons]
    refine pickF_first B irr tr r (P ++ [x]) _ ?_ ?_
    · unfold pickF
      split
      · rename_i hb
        rw [List.find?_append]
        have : P.find? (fun p => p.1 == x.1) = none := by
          rw [List.find?_eq_none]
          intro p hp
          intro he
          have he' : p.1 = x.1 := by simpa using he
          have := h2 p hp
          rw [he', hb] at this; cases this
        rw [this]
        simp
      · rw [List.find?_append, h1]; rfl
    · intro p hp
      unfold pickF
      rcases List.mem_append.1 hp with hp | hp
      · split
        · rename_i hb
          rw [Bool.eq_false_iff]
          intro hy
          have := tr _ _ _ hy hb
          rw [h2 p hp] at this; cases this
        · exact h2 p hp
      · simp only [List.mem_singleton] at hp
        subst hp
        split
        · exact irr _
        · rename_i hb; simpa using hb
theorem foldl_fst {β : Type} (B : Value → Value → Bool) : ∀ (r : List (Value × β)) (o : Value × β), (r.foldl (pickF B) o).1 = (r.map (·.1)).foldl (fun b v => if B v b then v else b) o.1
  | [], _ => rfl
  | x :: r, o => by
    rw [List.foldl_cons, foldl_fst B r, List.map_cons, List.foldl_cons]
    congr 1
    unfold pickF; split <;> rfl

def nn (rows : List Row) (a : Nat) : List Row := rows.filter fun r => (cellV r a).Kind != 0
theorem nn_map (rows : List Row) (a : Nat) : (nn rows a).map (cellV · a) = (rows.map (cellV · a)).filter (fun v => v.Kind != 0) := by
  unfold nn
  rw [List.filter_map]; rfl

/-- the outcome of both -/
def chosen (rows : List Row) (a : Nat) (rule : Int) : Value × Int :=
  match nn rows a with
  | [] => (⟨0, 0, []⟩, (rows[0]?.map (·.ID)).getD 0)
  | r :: l => (l.map fun x => (cellV x a, x.ID)).foldl (pickF (betterB (fun x => (((rows.map (cellV · a)).countP (veq · x) : Nat) : Int)) rule)) (cellV r a, r.ID)

theorem findIdx_find {α : Type} (p : α → Bool) (l : List α) {x : α} (h : l.find? p = some x) : ∃ i, l.findIdx? p = some i ∧ l[i]? = some x := by
  induction l with
  | nil => cases h
  | cons y r ih =>
    rw [List.find?_cons] at h
    rw [List.findIdx?_cons]
    split at h
    · rename_i hp; cases h; exact ⟨0, by simp [hp], rfl⟩
    · rename_i hp
      obtain ⟨i, h1, h2⟩ := ih h
      exact ⟨i + 1, by simp [hp, h1], by simpa using h2⟩

theorem count_nn (vals : List Value) (x : Value) (hx : x.Kind ≠ 0) : (vals.filter (fun v => v.Kind != 0)).countP (veq · x) = vals.countP (veq · x) := by
  rw [List.countP_filter]
  apply List.countP_congr
  intro v _
  by_cases hv : veq v x = true
  · have := (veq_iff _ _).1 hv
    subst this
    simp [hv, hx]
  · simp [hv]
theorem betterB_congr {c d : Value → Int} {rule : Int} {v b : Value} (h1 : c v = d v) (h2 : c b = d b) : betterB c rule v b = betterB d rule v b := by
  unfold betterB; rw [h1, h2]

theorem choose_eq (rows : List Row) (a : Nat) (rule : Int) (hne : rows ≠ []) (hl : rows.length ≤ 1073741824) (ha : Has rows a) : survivor_choose rows a rule = some (chosen rows a rule) := by
  obtain ⟨r0, rs, rfl⟩ : ∃ r l, rows = r :: l := by cases rows with | nil => exact absurd rfl hne | cons r l => exact ⟨r, l, rfl⟩
  generalize hrows : r0 :: rs = rows at *
  have h0 : rows[0]? = some r0 := by rw [← hrows]; rfl
  -- the first loop
  have h := LoopF_foldl rows (fun (l : List Value) i => (l, i)) (survivor_choose_l1 rows a) (fun l x => l ++ if (cellV x a).Kind != 0 then [cellV x a] else []) id (fun k l => l.length ≤ k) (b0 := []) (s0 := ([], 0)) rfl (Nat.le_refl _)
    (fun k l x hx hk hI => by
      have hc := ha x (List.mem_of_getElem? hx)
      simp only [survivor_choose_l1, if_pos (lt_true hx), idx_get hx, idx_get hc, Option.bind_some, wrap_succ hk (by omega)]
      by_cases hz : ((cellV x a).Kind != 0) = true
      · have hr : roomB (l.length + 1) 32 = true := room_le (by omega) (by omega)
        simp only [hz, hr, if_true]
        exact ⟨trivial, by simp; omega⟩
      · simp only [hz, if_false, Bool.false_eq_true, List.append_nil]
        exact ⟨trivial, by omega⟩)
    (fun l _ => by simp [survivor_choose_l1])
  have hf : ∀ (r : List Row) (l : List Value), r.foldl (fun l x => l ++ if (cellV x a).Kind != 0 then [cellV x a] else []) l = l ++ (r.map (cellV · a)).filter (fun v => v.Kind != 0) := by
    intro r
    induction r with
    | nil => intro l; simp
    | cons x r ih =>
      intro l
      rw [List.foldl_cons, ih, List.map_cons, List.filter_cons]
      split <;> simp
  rw [hf] at h
  simp only [id, List.nil_append] at h
  rw [← nn_map] at h
  simp only [survivor_choose, h, Option.bind_some]
  have hnl : (nn rows a).length ≤ rows.length := List.length_filter_le _ _
  unfold chosen
  cases hn : nn rows a with
  | nil => simp [h0]
  | cons r l =>
    have hk0 : ∀ x ∈ nn rows a, (cellV x a).Kind ≠ 0 := by
      intro x hx
      have := (List.mem_filter.1 hx).2
      simpa using this
    rw [hn] at hk0 hnl
    have hz : ¬ ((((((r :: l).map (cellV · a)).length : Nat) : Int) == 0) = true) := by simp; omega
    have h1 : (1 : Int) ≤ ((((r :: l).map (cellV · a)).length : Nat) : Int) := by simp; omega
    rw [if_neg hz]
    simp only [List.map_cons, List.getElem?_cons_zero, Option.bind_some]
    rw [List.map_cons] at h1
    rw [if_pos h1]
    -- the second loop
    have ht : ((cellV r a :: l.map (cellV · a)).drop 1).take ((cellV r a :: l.map (cellV · a)).length - 1) = l.map (cellV · a) := by
      rw [List.drop_succ_cons, List.drop_zero, List.take_of_length_le]; simp
    have hB : ∀ v b, v ∈ (cellV r a :: l.map (cellV · a)) → b ∈ (cellV r a :: l.map (cellV · a)) →
        survivor_better (cellV r a :: l.map (cellV · a)) v b rule = some (betterB (fun x => (((rows.map (cellV · a)).countP (veq · x) : Nat) : Int)) rule v b) := by
      intro v b hv hb
      rw [better_eq _ _ _ _ (by simp at hnl ⊢; omega)]
      have key : ∀ x, x ∈ (cellV r a :: l.map (cellV · a)) → ((cellV r a :: l.map (cellV · a)).countP (veq · x)) = (rows.map (cellV · a)).countP (veq · x) := by
        intro x hx
        rw [← List.map_cons (f := (cellV · a)), ← hn, nn_map]
        refine count_nn _ _ ?_
        rw [← List.map_cons (f := (cellV · a)), List.mem_map] at hx
        obtain ⟨y, hy, rfl⟩ := hx
        exact hk0 y hy
      congr 1
      exact betterB_congr (by rw [key v hv]) (by rw [key b hb])
    have h2 := LoopF_foldl (l.map (cellV · a)) (fun (b : Value) i => (b, i)) (survivor_choose_l2 rule (cellV r a :: l.map (cellV · a))) (fun b v => if betterB (fun x => (((rows.map (cellV · a)).countP (veq · x) : Nat) : Int)) rule v b then v else b) id
      (fun k b => b ∈ (cellV r a :: l.map (cellV · a))) (b0 := cellV r a) (s0 := (cellV r a, 0)) rfl (by simp)
      (fun k b x hx hk hI => by
        have hm : x ∈ (cellV r a :: l.map (cellV · a)) := List.mem_cons_of_mem _ (List.mem_of_getElem? hx)
        have hlt : (k : Int) < (((cellV r a :: l.map (cellV · a)).length - 1 : Nat) : Int) := by simp at hk ⊢; omega
        simp only [survivor_choose_l2, if_pos hlt, ht, idx_get hx, Option.bind_some, hB x b hm hI, wrap_succ hk (by simp at hnl ⊢; omega)]
        split
        · exact ⟨rfl, hm⟩
        · exact ⟨rfl, hI⟩)
      (fun b _ => by simp [survivor_choose_l2])
    simp only [id] at h2
    rw [h2, Option.bind_some]
    -- the place
    have hfst := foldl_fst (betterB (fun x => (((rows.map (cellV · a)).countP (veq · x) : Nat) : Int)) rule) (l.map fun x => (cellV x a, x.ID)) (cellV r a, r.ID)
    have hff := pickF_first (betterB (fun x => (((rows.map (cellV · a)).countP (veq · x) : Nat) : Int)) rule) (better_irr _ _) (better_trans _ _) (l.map fun x => (cellV x a, x.ID)) [(cellV r a, r.ID)] (cellV r a, r.ID) (by simp) (by simp [better_irr])
    generalize hR : (l.map fun x => (cellV x a, x.ID)).foldl (pickF (betterB (fun x => (((rows.map (cellV · a)).countP (veq · x) : Nat) : Int)) rule)) (cellV r a, r.ID) = R at *
    have e1 : (l.map fun x => (cellV x a, x.ID)).map (·.1) = l.map (cellV · a) := by rw [List.map_map]; rfl
    rw [e1] at hfst
    rw [← hfst]
    have hff' : ((nn rows a).map fun x => (cellV x a, x.ID)).find? (fun p => p.1 == R.1) = some R := by rw [hn, List.map_cons]; exact hff
    rw [List.find?_map] at hff'
    obtain ⟨x, hx1, hx2⟩ := Option.map_eq_some_iff.1 hff'
    have hx3 : rows.find? (fun y => veq (cellV y a) R.1) = some x := by
      unfold nn at hx1
      rw [List.find?_filter] at hx1
      rw [← hx1]
      congr 1
      funext y
      simp only [Function.comp]
      rw [veq_eq]
      by_cases hy : cellV y a = R.1
      · have hk : R.1.Kind ≠ 0 := by
          have hxm := List.mem_of_find?_eq_some hx1
          have := List.find?_some hx1
          simp at this
          rw [← this.2]; exact this.1
        simp [hy, hk]
      · simp [hy]
    obtain ⟨i, hi1, hi2⟩ := findIdx_find _ _ hx3
    have hIF := IndexFunc_Row_eq rows (fun y => survivor_choose_1 y a R.1) (fun y => veq (cellV y a) R.1) (fun y hy => by simp only [survivor_choose_1, idx_get (ha y hy), Option.bind_some]; rfl) hl
    rw [hIF, hi1]
    simp only [Option.bind_some, idx_get hi2]
    rw [← hx2]
end Go.Proofs.Ytdmddoljldjjeaa
/- Choose is the reference's Choose, second part. -/
set_option linter.unusedVariables false
set_option linter.unusedSimpArgs false
namespace Go.Proofs.Ytdmddoljldjjeaa
open Go Go.Ab

def stepP (B : Value → Value → Bool) (a : Nat) (o : Drossref55_Result) (r : Row) : Drossref55_Result :=
  if (cellV r a).Kind != 0 && (o.Origin == 0 || B (cellV r a) o.Value) then ⟨cellV r a, r.ID⟩ else o
theorem stepP_nn (B : Value → Value → Bool) (a : Nat) : ∀ (rows : List Row) (o : Drossref55_Result), rows.foldl (stepP B a) o = (nn rows a).foldl (stepP B a) o
  | [], _ => rfl
  | r :: l, o => by
    unfold nn
    rw [List.foldl_cons, List.filter_cons]
    by_cases h : ((cellV r a).Kind != 0) = true
    · rw [if_pos h, List.foldl_cons]; exact stepP_nn B a l _
    · rw [if_neg h]
      have : stepP B a o r = o := by unfold stepP; simp [h]
      rw [this]; exact stepP_nn B a l o
theorem stepP_pick (B : Value → Value → Bool) (a : Nat) : ∀ (l : List Row) (o : Drossref55_Result), o.Origin ≠ 0 → (∀ r ∈ l, (cellV r a).Kind ≠ 0 ∧ r.ID ≠ 0) →
    l.foldl (stepP B a) o = ⟨((l.map fun x => (cellV x a, x.ID)).foldl (pickF B) (o.Value, o.Origin)).1, ((l.map fun x => (cellV x a, x.ID)).foldl (pickF B) (o.Value, o.Origin)).2⟩ ∧ (l.foldl (stepP B a) o).Origin ≠ 0
  | [], o, h, _ => ⟨rfl, h⟩
  | r :: l, o, h, hr => by
    have h1 := (hr r (by simp)).1
    have h2 := (hr r (by simp)).2
    rw [List.foldl_cons, List.map_cons, List.foldl_cons]
    have hs : stepP B a o r = ⟨(pickF B (o.Value, o.Origin) (cellV r a, r.ID)).1, (pickF B (o.Value, o.Origin) (cellV r a, r.ID)).2⟩ := by
      unfold stepP pickF
      by_cases hb : B (cellV r a) o.Value = true
      · simp [hb, h1]
      · simp [hb, h]
    rw [hs]
    exact stepP_pick B a l _ (by unfold pickF; split <;> simp [h, h2]) (fun x hx => hr x (by simp [hx]))

theorem Pick_eq (rows : List Row) (a : Nat) (rule : Int) (hne : rows ≠ []) (hl : rows.length ≤ 1073741824) (ha : Has rows a) (hs : Short rows) (hid : ∀ r ∈ rows, r.ID ≠ 0) :
    drossref55_Pick rows a rule = some ⟨(chosen rows a rule).1, (chosen rows a rule).2⟩ := by
  generalize hB : betterB (fun x => (((rows.map (cellV · a)).countP (veq · x) : Nat) : Int)) rule = B
  have h := LoopF_foldl rows (fun (o : Drossref55_Result) i => (o, i)) (drossref55_Pick_l1 rows a rule) (stepP B a) id (fun _ _ => True) (b0 := ⟨⟨0, 0, []⟩, 0⟩) (s0 := (⟨⟨0, 0, []⟩, 0⟩, 0)) rfl trivial
    (fun k o x hx hk _ => by
      have hm := List.mem_of_getElem? hx
      have hc := ha x hm
      have hsh := hs x hm _ (List.mem_of_getElem? hc)
      refine ⟨?_, trivial⟩
      simp only [drossref55_Pick_l1, if_pos (lt_true hx), idx_get hx, idx_get hc, Option.bind_some, wrap_succ hk (by omega), ref_better_eq rows a rule _ _ hl ha hs hsh, hB, stepP]
      by_cases h1 : ((cellV x a).Kind != 0) = true
      · by_cases h2 : (o.Origin == 0) = true
        · simp [h1, h2]
        · by_cases h3 : B (cellV x a) o.Value = true
          · simp [h1, h2, h3]
          · simp [h1, h2, h3]
      · simp [h1])
    (fun o _ => by simp [drossref55_Pick_l1])
  simp only [drossref55_Pick, h, id, Option.bind_some]
  rw [stepP_nn]
  obtain ⟨r0, rs, hrows⟩ : ∃ r l, rows = r :: l := by cases rows with | nil => exact absurd rfl hne | cons r l => exact ⟨r, l, rfl⟩
  have h0 : rows[0]? = some r0 := by rw [hrows]; rfl
  unfold chosen
  rw [hB]
  cases hn : nn rows a with
  | nil => simp [h0]
  | cons r l =>
    have hk0 : ∀ x ∈ nn rows a, (cellV x a).Kind ≠ 0 ∧ x.ID ≠ 0 := by
      intro x hx
      have := List.mem_filter.1 hx
      exact ⟨by simpa using this.2, hid x this.1⟩
    rw [hn] at hk0
    have hr := hk0 r (by simp)
    rw [List.foldl_cons]
    have hs1 : stepP B a ⟨⟨0, 0, []⟩, 0⟩ r = ⟨cellV r a, r.ID⟩ := by unfold stepP; simp [hr.1]
    rw [hs1]
    obtain ⟨e1, e2⟩ := stepP_pick B a l ⟨cellV r a, r.ID⟩ hr.2 (fun x hx => hk0 x (by simp [hx]))
    have e3 : ¬ (((l.foldl (stepP B a) ⟨cellV r a, r.ID⟩).Origin == 0) = true) := by simpa using e2
    rw [if_neg e3, e1]

theorem okRows_pos : ∀ (l : List Row) (a : Int), 0 ≤ a → okRows a l = true → ∀ r ∈ l, r.ID ≠ 0
  | [], _, _, _, r, hr => by cases hr
  | x :: l, a, ha, h, r, hr => by
    simp only [okRows, Bool.and_eq_true, decide_eq_true_eq] at h
    rcases List.mem_cons.1 hr with e | e
    · subst e; omega
    · exact okRows_pos l x.ID (by omega) h.2 r e
theorem rowsErr_zero {rows : List Row} (h : rowsErr rows = 0) : rows ≠ [] ∧ ∀ r0, rows[0]? = some r0 → ∀ r ∈ rows, r.Values.length = r0.Values.length := by
  cases rows with
  | nil => cases h
  | cons x l =>
    refine ⟨by simp, fun r0 h0 r hr => ?_⟩
    simp only [List.getElem?_cons_zero, Option.some.injEq] at h0
    subst h0
    simp only [rowsErr] at h
    split at h
    · rename_i hc
      have := List.all_eq_true.1 hc r hr
      simpa using this
    · cases h
theorem has_of {rows : List Row} (h : rowsErr rows = 0) {r0 : Row} (h0 : rows[0]? = some r0) {a : Nat} (ha : a < r0.Values.length) : Has rows a := by
  intro r hr
  have := (rowsErr_zero h).2 r0 h0 r hr
  have hlt : a < r.Values.length := by omega
  simp [cellV, List.getD, List.getElem?_eq_getElem hlt]

structure RowsOk (rows : List Row) : Prop where
  len : rows.length ≤ 1073741824
  vals : ∀ r ∈ rows, r.Values.length ≤ 1073741824
  short : Short rows
theorem validRule_eq (r : Int) : survivor_validRule r = some (decide (1 ≤ r) && decide (r ≤ 5)) := by
  simp only [survivor_validRule]
  by_cases h : 1 ≤ r <;> simp [h]

/-- what both answer -/
def choice (rows : List Row) (attr rule : Int) : Value × Int × Int :=
  if rowsErr rows ≠ 0 then (⟨0, 0, []⟩, 0, rowsErr rows)
  else if attr < 0 ∨ ((rows[0]?.map (·.Values.length)).getD 0 : Nat) ≤ attr then (⟨0, 0, []⟩, 0, 6)
  else if okRows 0 rows = false ∨ rule < 1 ∨ 5 < rule then (⟨0, 0, []⟩, 0, 1)
  else ((chosen rows attr.toNat rule).1, (chosen rows attr.toNat rule).2, 0)
theorem Choose_eq (rows : List Row) (attr rule : Int) (H : RowsOk rows) : survivor_Choose rows attr rule = some (choice rows attr rule) := by
  simp only [survivor_Choose, checkRows_eq rows H.len, Option.bind_some, choice]
  by_cases h1 : rowsErr rows = 0
  · obtain ⟨hne, _⟩ := rowsErr_zero h1
    obtain ⟨r0, rs, hrows⟩ : ∃ r l, rows = r :: l := by cases rows with | nil => exact absurd rfl hne | cons r l => exact ⟨r, l, rfl⟩
    have h0 : rows[0]? = some r0 := by rw [hrows]; rfl
    simp only [h1, h0, Option.bind_some, Option.map_some, Option.getD_some]
    by_cases h2 : attr < 0
    · simp [h2]
    · by_cases h3 : (r0.Values.length : Int) ≤ attr
      · simp [h2, h3]
      · have ha : Has rows attr.toNat := has_of h1 h0 (by omega)
        have hat : ((attr.toNat : Nat) : Int) = attr := by omega
        have hc := choose_eq rows attr.toNat rule hne H.len ha
        rw [hat] at hc
        simp only [checkValues_eq rows H.len H.vals, validRule_eq, Option.bind_some, hc]
        by_cases h4 : okRows 0 rows = true
        · by_cases h5 : rule < 1
          · have : ¬ 1 ≤ rule := by omega
            simp [h2, h3, h4, h5, this]
          · by_cases h6 : 5 < rule
            · have : ¬ rule ≤ 5 := by omega
              simp [h2, h3, h4, h5, h6, this]
            · have e1 : 1 ≤ rule := by omega
              have e2 : rule ≤ 5 := by omega
              simp [h2, h3, h4, h5, h6, e1, e2]
        · simp [h2, h3, h4]
  · simp [h1]
theorem ref_Choose_eq (rows : List Row) (attr rule : Int) (H : RowsOk rows) : drossref55_Choose rows attr rule = some (⟨(choice rows attr rule).1, (choice rows attr rule).2.1⟩, (choice rows attr rule).2.2) := by
  simp only [drossref55_Choose, rowsError_eq rows H.len, Option.bind_some, choice]
  by_cases h1 : rowsErr rows = 0
  · obtain ⟨hne, _⟩ := rowsErr_zero h1
    obtain ⟨r0, rs, hrows⟩ : ∃ r l, rows = r :: l := by cases rows with | nil => exact absurd rfl hne | cons r l => exact ⟨r, l, rfl⟩
    have h0 : rows[0]? = some r0 := by rw [hrows]; rfl
    simp only [h1, h0, Option.bind_some, Option.map_some, Option.getD_some]
    by_cases h2 : attr < 0
    · simp [h2]
    · by_cases h3 : (r0.Values.length : Int) ≤ attr
      · simp [h2, h3]
      · have ha : Has rows attr.toNat := has_of h1 h0 (by omega)
        have hat : ((attr.toNat : Nat) : Int) = attr := by omega
        simp only [ref_valid_eq rows H.len H.vals, Option.bind_some]
        by_cases h4 : okRows 0 rows = true
        · have hc := Pick_eq rows attr.toNat rule hne H.len ha H.short (okRows_pos rows 0 (by omega) h4)
          rw [hat] at hc
          simp only [hc, Option.bind_some]
          by_cases h5 : rule < 1
          · simp [h2, h3, h4, h5]
          · by_cases h6 : 5 < rule
            · simp [h2, h3, h4, h5, h6]
            · simp [h2, h3, h4, h5, h6]
        · simp [h2, h3, h4]
  · simp [h1]
theorem Clone_Row_eq (rows : List Row) (h : rows.length ≤ 1073741824) : slices_Clone_Row rows = some rows := by
  simp only [slices_Clone_Row, room_le h (show 32 ≤ 65536 by omega), if_true]
theorem SurvivorChoose_true (rows : List Row) (attr rule : Int) (H : RowsOk rows) (hA : drosslaw55_awake = some true) : drosslaw55_SurvivorChoose rows attr rule = some true := by
  simp only [drosslaw55_SurvivorChoose, hA, Option.bind_some, if_true]
  by_cases h : (rows.length : Int) > 8
  · simp [h]
  · simp only [h, decide_false, Bool.false_eq_true, if_false, Clone_Row_eq rows H.len, Choose_eq rows attr rule H, ref_Choose_eq rows attr rule H, Option.bind_some, beq_self_eq_true, Bool.and_self, if_true]
end Go.Proofs.Ytdmddoljldjjeaa
/- Merge is the reference's Merge. -/
set_option linter.unusedVariables false
set_option linter.unusedSimpArgs false
namespace Go.Proofs.Ytdmddoljldjjeaa
open Go Go.Ab

theorem IDs_eq (a b : List Int) (ha : a.length ≤ 1073741824) : drossref03_IDs a b = some (decide (a = b)) := by
  simp only [drossref03_IDs]
  by_cases hl : a.length = b.length
  · have hn : ¬ (((a.length : Int) != (b.length : Int)) = true) := by simp; omega
    rw [if_neg hn]
    have key : ∀ (r : List Int) (k : Nat), a.drop k = r → k ≤ a.length → LoopF (drossref03_IDs_l1 a b) (k : Int) = some (if r = b.drop k then .inl () else .inr false) := by
      intro r
      induction r with
      | nil =>
        intro k hd hk
        have : k = a.length := by
          have := congrArg List.length hd
          simp at this; omega
        subst this
        have : b.drop a.length = [] := by rw [hl]; simp
        rw [this]
        exact Loop_done (by simp [drossref03_IDs_l1])
      | cons x r ih =>
        intro k hd hk
        have hx : a[k]? = some x := by
          have := congrArg (·[0]?) hd
          simpa [List.getElem?_drop] using this
        have hd' : a.drop (k + 1) = r := by rw [← List.drop_drop, hd]; rfl
        have hlt := lt_of_get hx
        obtain ⟨y, hy⟩ : ∃ y, b[k]? = some y := ⟨_, List.getElem?_eq_getElem (by omega)⟩
        have hb : b.drop k = y :: b.drop (k + 1) := by
          rw [List.drop_eq_getElem_cons (by omega)]
          congr 1
          exact (List.getElem?_eq_some_iff.1 hy).2
        rw [hb]
        by_cases hxy : x = y
        · subst hxy
          rw [Loop_next (s' := ((k + 1 : Nat) : Int)) (by simp [drossref03_IDs_l1, lt_true hx, idx_get hx, idx_get hy, wrap_succ hlt (by omega)]), ih (k + 1) hd' hlt]
          simp
        · rw [Loop_done (t := .inr false) (by simp [drossref03_IDs_l1, lt_true hx, idx_get hx, idx_get hy, hxy])]
          simp [hxy]
    have h0 := key a 0 (by simp) (Nat.zero_le _)
    simp only [List.drop_zero, Int.natCast_zero] at h0
    rw [h0]
    by_cases hab : a = b <;> simp [hab]
  · have hn : (((a.length : Int) != (b.length : Int)) = true) := by simp; omega
    rw [if_pos hn]
    have : a ≠ b := fun e => hl (by rw [e])
    simp [this]

/-- the order of lists of values -/
def lcmp : List Value → List Value → Int
  | [], [] => 0
  | [], _ :: _ => -1
  | _ :: _, [] => 1
  | a :: x, b :: y => if vcmp a b ≠ 0 then vcmp a b else lcmp x y
theorem lcmp_eq : ∀ a b : List Value, lcmp a b = 0 ↔ a = b
  | [], [] => by simp [lcmp]
  | [], _ :: _ => by simp [lcmp]
  | _ :: _, [] => by simp [lcmp]
  | x :: a, y :: b => by
    simp only [lcmp]
    by_cases h : x = y
    · subst h; simp [vcmp_self, lcmp_eq a b]
    · have : vcmp x y ≠ 0 := fun e => h ((vcmp_eq _ _).1 e)
      simp [h, this]
theorem lists_loop (a b : List Value) (ha : a.length ≤ 1073741824) (hs : ∀ v ∈ a, v.Str.length ≤ 1073741824) : ∀ (r : List Value) (k : Nat), a.drop k = r → k ≤ a.length → k ≤ b.length →
    (∃ o, LoopF (drossref01_Lists_l1 a b) (k : Int) = some o ∧ (match o with | .inl () => sgn (r.length) ((b.drop k).length) = lcmp r (b.drop k) | .inr z => z = lcmp r (b.drop k))) := by
  intro r
  induction r with
  | nil =>
    intro k hd hk hkb
    have hk' : k = a.length := by
      have := congrArg List.length hd
      simp at this; omega
    subst hk'
    refine ⟨.inl (), Loop_done (by simp [drossref01_Lists_l1]), ?_⟩
    cases hb : b.drop a.length with
    | nil => rfl
    | cons y s => simp [lcmp, sgn]
  | cons x r ih =>
    intro k hd hk hkb
    have hx : a[k]? = some x := by
      have := congrArg (·[0]?) hd
      simpa [List.getElem?_drop] using this
    have hd' : a.drop (k + 1) = r := by rw [← List.drop_drop, hd]; rfl
    have hlt := lt_of_get hx
    have hsx := hs x (List.mem_of_getElem? hx)
    cases hb : b.drop k with
    | nil =>
      have hkb' : k = b.length := by
        have := congrArg List.length hb
        simp at this; omega
      subst hkb'
      refine ⟨.inl (), Loop_done (by simp [drossref01_Lists_l1]), ?_⟩
      simp [lcmp, sgn]; omega
    | cons y s =>
      have hy : b[k]? = some y := by
        have := congrArg (·[0]?) hb
        simpa [List.getElem?_drop] using this
      have hb' : b.drop (k + 1) = s := by rw [← List.drop_drop, hb]; rfl
      by_cases hxy : vcmp x y = 0
      · have h1 : drossref01_Lists_l1 a b (k : Int) = some (.next ((k + 1 : Nat) : Int)) := by
          simp [drossref01_Lists_l1, lt_true hx, lt_true hy, idx_get hx, idx_get hy, wrap_succ hlt (by omega), ref_Compare_eq _ _ hsx, hxy]
        obtain ⟨o, h2, h3⟩ := ih (k + 1) hd' hlt (lt_of_get hy)
        refine ⟨o, by rw [Loop_next h1]; exact h2, ?_⟩
        rw [hb'] at h3
        have hl : lcmp (x :: r) (y :: s) = lcmp r s := by simp [lcmp, hxy]
        rw [hl]
        cases o with
        | inl u =>
          simp only at h3 ⊢
          rw [← h3]
          simp only [List.length_cons, sgn]
          split <;> split <;> (try split) <;> (try split) <;> omega
        | inr z => exact h3
      · refine ⟨.inr (vcmp x y), Loop_done ?_, ?_⟩
        · simp [drossref01_Lists_l1, lt_true hx, lt_true hy, idx_get hx, idx_get hy, ref_Compare_eq _ _ hsx, hxy]
        · simp [lcmp, hxy]
theorem Lists_eq (a b : List Value) (ha : a.length ≤ 1073741824) (hs : ∀ v ∈ a, v.Str.length ≤ 1073741824) : drossref01_Lists a b = some (lcmp a b) := by
  obtain ⟨o, h1, h2⟩ := lists_loop a b ha hs a 0 (by simp) (Nat.zero_le _) (Nat.zero_le _)
  simp only [drossref01_Lists]
  have h1' : LoopF (drossref01_Lists_l1 a b) 0 = some o := h1
  rw [h1']
  cases o with
  | inl u =>
    simp only [List.drop_zero] at h2
    simp [ref_sign_eq, h2]
  | inr z =>
    simp only [List.drop_zero] at h2
    simp [h2]
theorem Same_eq (a b : List Value) (ha : a.length ≤ 1073741824) (hs : ∀ v ∈ a, v.Str.length ≤ 1073741824) : drossref01_Same a b = some (decide (a = b)) := by
  simp only [drossref01_Same, Lists_eq a b ha hs, Option.bind_some]
  congr 1
  rw [Bool.eq_iff_iff]; simp [lcmp_eq]
theorem EqualRows_eq (a b : Row) (ha : a.Values.length ≤ 1073741824) (hs : ∀ v ∈ a.Values, v.Str.length ≤ 1073741824) : drossref03_EqualRows a b = some (decide (a = b)) := by
  simp only [drossref03_EqualRows, Same_eq _ _ ha hs, Option.bind_some]
  cases a; cases b
  simp only [Row.mk.injEq]
  split
  · rename_i h; simp at h; simp [h]
  · rename_i h; simp at h; simp [h]

def okRule (r : Int) : Bool := decide (1 ≤ r) && decide (r ≤ 5)
theorem Rules_eq (l : List Int) (hl : l.length ≤ 1073741824) : drossref55_Rules l = some (l.all okRule) := by
  have h := LoopF_all l (drossref55_Rules_l1 l) okRule false
    (fun k x hx hk hp => by
      simp only [okRule, Bool.and_eq_true, decide_eq_true_eq] at hp
      have h1 : ¬ x < 1 := by omega
      have h2 : ¬ x > 5 := by omega
      simp [drossref55_Rules_l1, lt_true hx, idx_get hx, h1, h2, wrap_succ hk (by omega)])
    (fun k x hx hp => by
      simp only [okRule, Bool.and_eq_false_iff, decide_eq_false_iff_not] at hp
      by_cases h1 : x < 1
      · simp [drossref55_Rules_l1, lt_true hx, idx_get hx, h1]
      · have h2 : x > 5 := by omega
        simp [drossref55_Rules_l1, lt_true hx, idx_get hx, h1, h2])
    (by simp [drossref55_Rules_l1])
  simp only [drossref55_Rules, h, Option.bind_some]
  cases l.all okRule <;> rfl
theorem IndexFunc_int_eq (l : List Int) (f : Int → Option Bool) (p : Int → Bool) (hf : ∀ x ∈ l, f x = some (p x)) (hl : l.length ≤ 1073741824) : slices_IndexFunc_int l f = some (match l.findIdx? p with | some i => (i : Int) | none => -1) := by
  have h := LoopF_find l (slices_IndexFunc_int_l1 l f) p
    (fun k x hx hk hp => by simp [slices_IndexFunc_int_l1, lt_true hx, idx_get hx, hf x (List.mem_of_getElem? hx), hp, wrap_succ hk (show l.length ≤ 4611686018427387904 by omega)])
    (fun k x hx hp => by simp [slices_IndexFunc_int_l1, lt_true hx, idx_get hx, hf x (List.mem_of_getElem? hx), hp])
    (by simp [slices_IndexFunc_int_l1])
  simp only [slices_IndexFunc_int, h, Option.bind_some]
  cases l.findIdx? p <;> rfl
theorem ContainsFunc_int_eq (l : List Int) (f : Int → Option Bool) (p : Int → Bool) (hf : ∀ x ∈ l, f x = some (p x)) (hl : l.length ≤ 1073741824) : slices_ContainsFunc_int l f = some (l.any p) := by
  simp only [slices_ContainsFunc_int, IndexFunc_int_eq l f p hf hl, Option.bind_some]
  exact congrArg some (findIdx_any p l)

/-- the merged values and origins -/
def stepM (rows : List Row) (b : List Value × List Int) (rule : Int) : List Value × List Int := (b.1 ++ [(chosen rows b.1.length rule).1], b.2 ++ [(chosen rows b.1.length rule).2])
def mergedV (rows : List Row) (rules : List Int) : List Value × List Int := rules.foldl (stepM rows) ([], [])
theorem merge_loop (rows : List Row) (rules : List Int) (hne : rows ≠ []) (hl : rows.length ≤ 1073741824) (hr : rules.length ≤ 1048576) (ha : ∀ a, a < rules.length → Has rows a) :
    LoopF (survivor_Merge_l1 rows rules) ([], [], 0) = some (mergedV rows rules) := by
  have h := LoopF_foldl rules (fun (b : List Value × List Int) i => (b.1, b.2, i)) (survivor_Merge_l1 rows rules) (stepM rows) id (fun k b => b.1.length = k ∧ b.2.length = k) (b0 := ([], [])) (s0 := ([], [], 0)) rfl ⟨rfl, rfl⟩
    (fun k b x hx hk hI => by
      have hc := choose_eq rows k x hne hl (ha k hk)
      have r1 : roomB (k + 1) 32 = true := room_le (by omega) (by omega)
      have r2 : roomB (k + 1) 8 = true := room_le (by omega) (by omega)
      refine ⟨?_, by simp [stepM, hI]⟩
      simp only [survivor_Merge_l1, if_pos (lt_true hx), idx_get hx, Option.bind_some, hc, r1, r2, if_true, wrap_succ hk (by omega), stepM, hI.1, hI.2])
    (fun b _ => by simp [survivor_Merge_l1])
  exact h
theorem ref_merge_eq (rows : List Row) (rules : List Int) (r0 : Row) (h0 : rows[0]? = some r0) (hl : rows.length ≤ 1073741824) (hr : rules.length ≤ 1048576) (ha : ∀ a, a < rules.length → Has rows a) (hs : Short rows) (hid : ∀ r ∈ rows, r.ID ≠ 0) :
    drossref55_merge rows rules = some ⟨⟨r0.ID, (mergedV rows rules).1⟩, (mergedV rows rules).2⟩ := by
  have hne : rows ≠ [] := by intro e; rw [e] at h0; cases h0
  have h := LoopF_foldl rules (fun (b : List Value × List Int) i => (b.1, b.2, i)) (drossref55_merge_l1 rows rules) (stepM rows) id (fun k b => b.1.length = k ∧ b.2.length = k) (b0 := ([], [])) (s0 := ([], [], 0)) rfl ⟨rfl, rfl⟩
    (fun k b x hx hk hI => by
      have hc := Pick_eq rows k x hne hl (ha k hk) hs hid
      have r1 : roomB (k + 1) 32 = true := room_le (by omega) (by omega)
      have r2 : roomB (k + 1) 8 = true := room_le (by omega) (by omega)
      refine ⟨?_, by simp [stepM, hI]⟩
      simp only [drossref55_merge_l1, if_pos (lt_true hx), idx_get hx, Option.bind_some, hc, r1, r2, if_true, wrap_succ hk (by omega), stepM, hI.1, hI.2])
    (fun b _ => by simp [drossref55_merge_l1])
  simp only [drossref55_merge, h0, Option.bind_some, h]
  rfl

/-- what both answer -/
def merging (rows : List Row) (rules : List Int) : (Row × List Int) × Int :=
  if rowsErr rows ≠ 0 then ((⟨0, []⟩, []), rowsErr rows)
  else if rules.length ≠ (rows[0]?.map (·.Values.length)).getD 0 then ((⟨0, []⟩, []), 6)
  else if okRows 0 rows = false ∨ rules.all okRule = false then ((⟨0, []⟩, []), 1)
  else ((⟨(rows[0]?.map (·.ID)).getD 0, (mergedV rows rules).1⟩, (mergedV rows rules).2), 0)
theorem any_not_all {α : Type} (p : α → Bool) (l : List α) : (l.any fun x => !p x) = !l.all p := by simp [List.all_eq_not_any_not]
theorem Merge_eq (rows : List Row) (rules : List Int) (H : RowsOk rows) (hr : rules.length ≤ 1048576) : survivor_Merge rows rules = some ((merging rows rules).1.1, (merging rows rules).1.2, (merging rows rules).2) := by
  simp only [survivor_Merge, checkRows_eq rows H.len, Option.bind_some, merging]
  by_cases h1 : rowsErr rows = 0
  · obtain ⟨hne, _⟩ := rowsErr_zero h1
    obtain ⟨r0, rs, hrows⟩ : ∃ r l, rows = r :: l := by cases rows with | nil => exact absurd rfl hne | cons r l => exact ⟨r, l, rfl⟩
    have h0 : rows[0]? = some r0 := by rw [hrows]; rfl
    simp only [h1, h0, Option.bind_some, Option.map_some, Option.getD_some]
    by_cases h2 : rules.length = r0.Values.length
    · have ha : ∀ a, a < rules.length → Has rows a := fun a h => has_of h1 h0 (by omega)
      have hcf : slices_ContainsFunc_int rules (fun y => survivor_Merge_1 y) = some (!rules.all okRule) := by
        rw [← any_not_all]
        exact ContainsFunc_int_eq _ _ _ (fun y _ => by simp [survivor_Merge_1, validRule_eq, okRule]) (by omega)
      simp only [checkValues_eq rows H.len H.vals, hcf, merge_loop rows rules hne H.len hr ha, Option.bind_some]
      by_cases h4 : okRows 0 rows = true
      · by_cases h5 : rules.all okRule = true
        · simp [h2, h4, h5]
        · simp only [Bool.not_eq_true] at h5; simp [h2, h4, h5]
      · simp [h2, h4]
    · have h2' : ¬ ((rules.length : Int) = r0.Values.length) := by omega
      simp [h2, h2']
  · simp [h1]
theorem ref_Merge_eq (rows : List Row) (rules : List Int) (H : RowsOk rows) (hr : rules.length ≤ 1048576) : drossref55_Merge rows rules = some (⟨(merging rows rules).1.1, (merging rows rules).1.2⟩, (merging rows rules).2) := by
  simp only [drossref55_Merge, rowsError_eq rows H.len, Option.bind_some, merging]
  by_cases h1 : rowsErr rows = 0
  · obtain ⟨hne, _⟩ := rowsErr_zero h1
    obtain ⟨r0, rs, hrows⟩ : ∃ r l, rows = r :: l := by cases rows with | nil => exact absurd rfl hne | cons r l => exact ⟨r, l, rfl⟩
    have h0 : rows[0]? = some r0 := by rw [hrows]; rfl
    simp only [h1, h0, Option.bind_some, Option.map_some, Option.getD_some]
    by_cases h2 : rules.length = r0.Values.length
    · have ha : ∀ a, a < rules.length → Has rows a := fun a h => has_of h1 h0 (by omega)
      simp only [ref_valid_eq rows H.len H.vals, Rules_eq rules (by omega), Option.bind_some]
      by_cases h4 : okRows 0 rows = true
      · have hm := ref_merge_eq rows rules r0 h0 H.len hr ha H.short (okRows_pos rows 0 (by omega) h4)
        simp only [hm, Option.bind_some]
        by_cases h5 : rules.all okRule = true
        · simp [h2, h4, h5]
        · simp only [Bool.not_eq_true] at h5; simp [h2, h4, h5]
      · simp [h2, h4]
    · have h2' : ¬ ((rules.length : Int) = r0.Values.length) := by omega
      simp [h2, h2']
  · simp [h1]

def exRows : List Row := [⟨3, [⟨2, 0, [74, 111]⟩, ⟨0, 0, []⟩]⟩, ⟨4, [⟨2, 0, [74, 111, 101]⟩, ⟨1, 7, []⟩]⟩, ⟨9, [⟨2, 0, [74, 111]⟩, ⟨1, 8, []⟩]⟩]
theorem example_eq : drosslaw55_example = some exRows := by
  simp only [drosslaw55_example, drosslaw55_example_1, drosslaw55_example_2, Option.bind_some, exRows]
theorem exOk : RowsOk exRows := by
  refine ⟨by decide, ?_, ?_⟩
  · intro r hr
    have : ∀ r ∈ exRows, r.Values.length ≤ 2 := by decide
    have := this r hr; omega
  · intro r hr v hv
    have : ∀ r ∈ exRows, ∀ v ∈ r.Values, v.Str.length ≤ 3 := by decide
    have := this r hr v hv; omega
theorem awake_true : drosslaw55_awake = some true := by
  have e1 : choice exRows 0 3 = (⟨2, 0, [74, 111, 101]⟩, 4, 0) := by decide
  have e2 : merging exRows [2, 1] = ((⟨3, [⟨2, 0, [74, 111]⟩, ⟨1, 7, []⟩]⟩, [3, 4]), 0) := by decide
  simp only [drosslaw55_awake, example_eq, Option.bind_some, Choose_eq exRows 0 3 exOk, Merge_eq exRows [2, 1] exOk (by decide), e1, e2, IDs_eq [3, 4] [3, 4] (by decide)]
  decide
theorem Clone_int_eq (l : List Int) (h : l.length ≤ 1073741824) : slices_Clone_int l = some l := by
  simp only [slices_Clone_int, room_le h (show 8 ≤ 65536 by omega), if_true]
end Go.Proofs.Ytdmddoljldjjeaa
/- Tables: names, validity, finding a row. -/
set_option linter.unusedVariables false
set_option linter.unusedSimpArgs false
namespace Go.Proofs.Ytdmddoljldjjeaa
open Go Go.Ab

def letter (c : Int) : Bool := (decide (97 ≤ c) && decide (c ≤ 122)) || ((decide (65 ≤ c) && decide (c ≤ 90)) || c == 95)
theorem letter_eq (c : Int) : drossref03_letter c = some (letter c) := by
  simp only [drossref03_letter, letter]
  by_cases h1 : 97 ≤ c <;> by_cases h2 : c ≤ 122 <;> by_cases h3 : 65 ≤ c <;> by_cases h4 : c ≤ 90 <;> simp [h1, h2, h3, h4]
def lod (c : UInt8) : Bool := letter c.toNat || (decide (48 ≤ (c.toNat : Int)) && decide ((c.toNat : Int) ≤ 57))
def nameB : List UInt8 → Bool
  | [] => false
  | c :: r => decide (r.length < 24) && letter c.toNat && !((c :: r) == [110, 117, 108, 108]) && r.all lod
theorem Name_eq (s : List UInt8) : drossref03_Name s = some (nameB s) := by
  cases s with
  | nil => rfl
  | cons c r =>
    have hn : ¬ ((((c :: r).length : Int) == 0) = true) := by simp; omega
    simp only [drossref03_Name, if_neg hn]
    by_cases h24 : ((c :: r).length : Int) > 24
    · have : ¬ r.length < 24 := by simp at h24; omega
      rw [if_pos h24]; simp [nameB, this]
    · have h24' : r.length < 24 := by simp at h24; omega
      rw [if_neg h24]
      simp only [List.getElem?_cons_zero, Option.bind_some, letter_eq]
      by_cases hl : letter c.toNat = true
      · simp only [hl, if_true]
        by_cases hnull : ((c :: r) == [110, 117, 108, 108]) = true
        · simp only [hnull, if_true, nameB]; simp
        · simp only [Bool.not_eq_true] at hnull
          have h := LoopF_all (c :: r) (drossref03_Name_l1 (c :: r)) lod false
            (fun k x hx hk hp => by
              simp only [drossref03_Name_l1, if_pos (lt_true hx), idx_get hx, Option.bind_some, letter_eq, wrap_succ hk (by simp; omega)]
              by_cases hx1 : letter x.toNat = true
              · simp [hx1]
              · simp only [Bool.not_eq_true] at hx1
                simp only [lod, hx1, Bool.false_or, Bool.and_eq_true, decide_eq_true_eq] at hp
                have e1 : ¬ (x.toNat : Int) < 48 := by omega
                have e2 : ¬ (x.toNat : Int) > 57 := by omega
                simp [hx1, e1, e2])
            (fun k x hx hp => by
              simp only [drossref03_Name_l1, if_pos (lt_true hx), idx_get hx, Option.bind_some, letter_eq]
              simp only [lod, Bool.or_eq_false_iff, Bool.and_eq_false_iff, decide_eq_false_iff_not] at hp
              simp only [hp.1, Bool.false_eq_true, if_false]
              by_cases e1 : (x.toNat : Int) < 48
              · simp [e1]
              · have e2 : (x.toNat : Int) > 57 := by omega
                simp [e1, e2])
            (by simp [drossref03_Name_l1])
          simp only [hnull, Bool.false_eq_true, if_false, h, Option.bind_some]
          have hlc : lod c = true := by simp [lod, hl]
          simp only [List.all_cons, hlc, Bool.true_and, nameB, h24', decide_true, hl, hnull, Bool.not_false]
          cases r.all lod <;> rfl
      · simp only [Bool.not_eq_true] at hl
        simp [hl, nameB]
theorem isName_eq (s : List UInt8) : table_isName s = some (nameB s) := by
  cases s with
  | nil => rfl
  | cons c r =>
    have hn : ¬ (((c :: r) == []) = true) := by simp
    simp only [table_isName, if_neg hn]
    by_cases h24 : ((c :: r).length : Int) > 24
    · have : ¬ r.length < 24 := by simp at h24; omega
      rw [if_pos h24]; simp [nameB, this]
    · have h24' : r.length < 24 := by simp at h24; omega
      rw [if_neg h24]
      by_cases hnull : ((c :: r) == [110, 117, 108, 108]) = true
      · simp only [hnull, if_true, nameB]; simp
      · simp only [Bool.not_eq_true] at hnull
        have hlet : ∀ x : UInt8, (show Option Bool from
            if ((x.toNat : Nat) : Int) ≥ 97 then
              if ((x.toNat : Nat) : Int) ≤ 122 then some true
              else if ((x.toNat : Nat) : Int) ≥ 65 then if ((x.toNat : Nat) : Int) ≤ 90 then some true else some (((x.toNat : Nat) : Int) == 95) else some (((x.toNat : Nat) : Int) == 95)
            else if ((x.toNat : Nat) : Int) ≥ 65 then if ((x.toNat : Nat) : Int) ≤ 90 then some true else some (((x.toNat : Nat) : Int) == 95) else some (((x.toNat : Nat) : Int) == 95)) = some (letter x.toNat) := fun x => letter_eq x.toNat
        have h := LoopF_allk (c :: r) (table_isName_l1 (c :: r)) (fun k x => letter x.toNat || (decide (k ≠ 0) && (decide (48 ≤ (x.toNat : Int)) && decide ((x.toNat : Int) ≤ 57)))) false
          (fun k x hx hk hp => by
            simp only [table_isName_l1, if_pos (lt_true hx), idx_get hx, Option.bind_some, hlet, wrap_succ hk (by simp; omega)]
            by_cases hx1 : letter x.toNat = true
            · simp [hx1]
            · simp only [Bool.not_eq_true] at hx1
              simp only [hx1, Bool.false_or, Bool.and_eq_true, decide_eq_true_eq] at hp
              have e0 : ¬ (((k : Int) == 0) = true) := by simp; omega
              have e1 : ¬ (x.toNat : Int) < 48 := by omega
              have e2 : ¬ (x.toNat : Int) > 57 := by omega
              simp [hx1, e0, e1, e2])
          (fun k x hx hp => by
            simp only [table_isName_l1, if_pos (lt_true hx), idx_get hx, Option.bind_some, hlet]
            simp only [Bool.or_eq_false_iff, Bool.and_eq_false_iff, decide_eq_false_iff_not] at hp
            simp only [hp.1, Bool.false_eq_true, if_false]
            by_cases e0 : k = 0
            · simp [e0]
            · have e0' : ¬ (((k : Int) == 0) = true) := by simp; omega
              by_cases e1 : (x.toNat : Int) < 48
              · simp [e1]
              · have e2 : (x.toNat : Int) > 57 := by
                  rcases hp.2 with h | h | h
                  · exact absurd e0 h
                  · omega
                  · omega
                simp [e1, e2])
          (by simp [table_isName_l1]) (c :: r) 0 rfl (Nat.zero_le _)
        simp only [Int.natCast_zero] at h
        simp only [hnull, Bool.false_eq_true, if_false, h, Option.bind_some]
        have e : allFrom (fun k x => letter x.toNat || (decide (k ≠ 0) && (decide (48 ≤ (x.toNat : Int)) && decide ((x.toNat : Int) ≤ 57)))) 0 (c :: r) = (letter c.toNat && r.all lod) := by
          simp only [allFrom]
          rw [allFrom_congr (q := fun _ x => lod x) r 1 (fun j x hj _ => by
            have hj0 : j ≠ 0 := by omega
            simp [lod, hj0]), allFrom_all]
          simp
        rw [e]
        simp only [nameB, h24', decide_true, Bool.true_and, hnull, Bool.not_false, Bool.and_true]
        cases letter c.toNat <;> cases r.all lod <;> rfl

def posI : Option Nat → Int
  | some i => i
  | none => -1
theorem posI_any {α : Type} (p : α → Bool) (l : List α) : decide (posI (l.findIdx? p) ≥ 0) = l.any p := by
  rw [← findIdx_any]
  cases l.findIdx? p <;> rfl
theorem Index_string_eq (l : List (List UInt8)) (s : List UInt8) (hl : l.length ≤ 1073741824) : slices_Index_string l s = some (posI (l.findIdx? (fun x => s == x))) := by
  have h := LoopF_find l (slices_Index_string_l1 l s) (fun x => s == x)
    (fun k x hx hk hp => by simp only [slices_Index_string_l1, if_pos (lt_true hx), idx_get hx, Option.bind_some, hp, Bool.false_eq_true, if_false, if_true, wrap_succ hk (show l.length ≤ 4611686018427387904 by omega)])
    (fun k x hx hp => by simp only [slices_Index_string_l1, if_pos (lt_true hx), idx_get hx, Option.bind_some, hp, if_true])
    (by simp [slices_Index_string_l1])
  simp only [slices_Index_string, h, Option.bind_some]
  cases l.findIdx? (fun x => s == x) <;> rfl
theorem Contains_string_eq (l : List (List UInt8)) (s : List UInt8) (hl : l.length ≤ 1073741824) : slices_Contains_string l s = some (l.any fun x => s == x) := by
  simp only [slices_Contains_string, Index_string_eq l s hl, Option.bind_some]
  exact congrArg some (posI_any _ l)
theorem Attr_eq (l : List (List UInt8)) (s : List UInt8) (hl : l.length ≤ 1073741824) : drossref03_Attr l s = some (posI (l.findIdx? (fun x => x == s))) := by
  have h := LoopF_find l (drossref03_Attr_l1 l s) (fun x => x == s)
    (fun k x hx hk hp => by simp only [drossref03_Attr_l1, if_pos (lt_true hx), idx_get hx, Option.bind_some, hp, Bool.false_eq_true, if_false, if_true, wrap_succ hk (show l.length ≤ 4611686018427387904 by omega)])
    (fun k x hx hp => by simp only [drossref03_Attr_l1, if_pos (lt_true hx), idx_get hx, Option.bind_some, hp, if_true])
    (by simp [drossref03_Attr_l1])
  simp only [drossref03_Attr, h, Option.bind_some]
  cases l.findIdx? (fun x => x == s) <;> rfl

def namesB (l : List (List UInt8)) : Bool := allFrom (fun k x => nameB x && !(l.take k).any fun y => x == y) 0 l
theorem Names_eq (l : List (List UInt8)) (hl : l.length ≤ 1073741824) : drossref03_Names l = some (namesB l) := by
  have key : ∀ (k : Nat) (x : List UInt8), k < l.length → drossref03_Attr (l.take ((k : Int).toNat)) x = some (posI ((l.take k).findIdx? (fun y => y == x))) := by
    intro k x hk
    rw [Int.toNat_natCast]
    exact Attr_eq _ _ (by simp; omega)
  have any_sym : ∀ (k : Nat) (x : List UInt8), ((l.take k).any fun y => y == x) = (l.take k).any fun y => x == y := by
    intro k x
    congr 1
    funext y
    rw [Bool.eq_iff_iff, beq_iff_eq, beq_iff_eq]; exact eq_comm
  have h := LoopF_allk l (drossref03_Names_l1 l) (fun k x => nameB x && !(l.take k).any fun y => x == y) false
    (fun k x hx hk hp => by
      simp only [Bool.and_eq_true, Bool.not_eq_true'] at hp
      have hany := posI_any (fun y => y == x) (l.take k)
      rw [any_sym, hp.2] at hany
      have h0 : ((0 : Int) ≤ (k : Int)) := by omega
      have h1 : ((k : Int) ≤ (l.length : Int)) := by omega
      simp only [drossref03_Names_l1, if_pos (lt_true hx), idx_get hx, Option.bind_some, Name_eq, hp.1, if_true, if_pos h0, if_pos h1, key k x hk, if_neg (of_decide_eq_false hany), wrap_succ hk (show l.length ≤ 4611686018427387904 by omega)])
    (fun k x hx hp => by
      have hk := lt_of_get hx
      have h0 : ((0 : Int) ≤ (k : Int)) := by omega
      have h1 : ((k : Int) ≤ (l.length : Int)) := by omega
      simp only [drossref03_Names_l1, if_pos (lt_true hx), idx_get hx, Option.bind_some, Name_eq, if_pos h0, if_pos h1, key k x hk]
      rcases Bool.eq_false_or_eq_true (nameB x) with hn | hn
      · simp only [hn, Bool.true_and, Bool.not_eq_false'] at hp
        have hany := posI_any (fun y => y == x) (l.take k)
        rw [any_sym, hp] at hany
        simp only [hn, if_true, if_pos (of_decide_eq_true hany)]
      · simp [hn])
    (by simp [drossref03_Names_l1]) l 0 rfl (Nat.zero_le _)
  simp only [Int.natCast_zero] at h
  simp only [drossref03_Names, h, Option.bind_some]
  unfold namesB
  cases allFrom (fun k x => nameB x && !(l.take k).any fun y => x == y) 0 l <;> rfl

def rowsCode (n : Nat) : Int → List Row → Int
  | _, [] => 0
  | a, r :: l => if r.ID ≤ a then 1 else if r.Values.length ≠ n then 6 else if r.Values.all valid then rowsCode n r.ID l else 1
def tableErr (t : Table) : Int :=
  if nameB t.Name = false then 1 else if t.Attrs.length > 16 then 3 else if t.Rows.length > 1000 then 3 else if namesB t.Attrs = false then 1 else rowsCode t.Attrs.length 0 t.Rows
theorem validValues_eq (l : List Value) (hl : l.length ≤ 1073741824) : table_validValues l = some (l.all valid) := by
  simp only [table_validValues, ContainsFunc_Value_eq l (fun y => table_validValues_1 y) (fun v => !valid v) (fun y _ => by simp [table_validValues_1, value_Valid_eq]) hl, Option.bind_some, any_not_all, Bool.not_not]

theorem rows_loop {B : Int × Int → Option (LS (Int × Int) (Unit ⊕ Int))} (rows : List Row) (n : Nat)
    (hB : ∀ (k : Nat) (a : Int) x, rows[k]? = some x → k < rows.length → B (a, (k : Int)) = if x.ID ≤ a then some (.done (.inr 1)) else if x.Values.length ≠ n then some (.done (.inr 6)) else if x.Values.all valid then some (.next (x.ID, ((k + 1 : Nat) : Int))) else some (.done (.inr 1)))
    (hE : ∀ a, B (a, (rows.length : Int)) = some (.done (.inl ()))) : ∀ (r : List Row) (k : Nat) (a : Int), rows.drop k = r → k ≤ rows.length → ∃ o, LoopF B (a, (k : Int)) = some o ∧ (match o with | .inl () => rowsCode n a r = 0 | .inr z => rowsCode n a r = z ∧ z ≠ 0) := by
  intro r
  induction r with
  | nil =>
    intro k a hd hk
    have : k = rows.length := by
      have := congrArg List.length hd
      simp at this; omega
    subst this
    exact ⟨.inl (), Loop_done (hE a), rfl⟩
  | cons x r ih =>
    intro k a hd hk
    have hx : rows[k]? = some x := by
      have := congrArg (·[0]?) hd
      simpa [List.getElem?_drop] using this
    have hd' : rows.drop (k + 1) = r := by rw [← List.drop_drop, hd]; rfl
    have hlt := lt_of_get hx
    have hb := hB k a x hx hlt
    by_cases h1 : x.ID ≤ a
    · rw [if_pos h1] at hb
      exact ⟨_, Loop_done hb, by simp [rowsCode, h1]⟩
    · rw [if_neg h1] at hb
      by_cases h2 : x.Values.length ≠ n
      · rw [if_pos h2] at hb
        exact ⟨_, Loop_done hb, by simp [rowsCode, h1, h2]⟩
      · rw [if_neg h2] at hb
        by_cases h3 : x.Values.all valid = true
        · rw [if_pos h3] at hb
          obtain ⟨o, h4, h5⟩ := ih (k + 1) x.ID hd' hlt
          refine ⟨o, by rw [Loop_next hb]; exact h4, ?_⟩
          have e : rowsCode n a (x :: r) = rowsCode n x.ID r := by
            simp only [rowsCode, if_neg h1, if_neg h2, if_pos h3]
          rw [e]; exact h5
        · rw [if_neg h3] at hb
          exact ⟨_, Loop_done hb, by simp only [rowsCode, if_neg h1, if_neg h2, if_neg h3]; exact ⟨trivial, by omega⟩⟩

structure TabOk (t : Table) : Prop where
  attrs : t.Attrs.length ≤ 1073741824
  rows : t.Rows.length ≤ 1073741824
  vals : ∀ r ∈ t.Rows, r.Values.length ≤ 1073741824
  short : Short t.Rows
theorem tabOk_of {t : Table} (h : okTable t) : TabOk t := by
  obtain ⟨_, h2, h3⟩ := h
  refine ⟨by have := h2.1; omega, by have := h3.1; omega, fun r hr => ?_, fun r hr v hv => ?_⟩
  · have := (h3.2 r hr).2.1; omega
  · have : okS v.Str := ((h3.2 r hr).2.2 v hv).2.2
    unfold okS at this; omega

theorem ref_Valid_table (t : Table) (H : TabOk t) : drossref03_Valid t = some (tableErr t) := by
  simp only [drossref03_Valid, Name_eq, Option.bind_some, tableErr]
  by_cases h1 : nameB t.Name = true
  · by_cases h2 : t.Attrs.length > 16
    · have : (t.Attrs.length : Int) > 16 := by omega
      simp [h1, h2, this]
    · have h2' : ¬ (t.Attrs.length : Int) > 16 := by omega
      by_cases h3 : t.Rows.length > 1000
      · have : (t.Rows.length : Int) > 1000 := by omega
        simp [h1, h2, h2', h3, this]
      · have h3' : ¬ (t.Rows.length : Int) > 1000 := by omega
        simp only [h1, if_true, if_neg h2', if_neg h3', Names_eq t.Attrs H.attrs, Option.bind_some, Bool.true_eq_false, if_false, if_neg h2, if_neg h3]
        by_cases h4 : namesB t.Attrs = true
        · obtain ⟨o, h5, h6⟩ := rows_loop (B := drossref03_Valid_l1 t) t.Rows t.Attrs.length (fun k a x hx hk => by
              simp only [drossref03_Valid_l1, if_pos (lt_true hx), idx_get hx, Option.bind_some, ref_Valids_eq _ (H.vals x (List.mem_of_getElem? hx)), wrap_succ hk (show t.Rows.length ≤ 4611686018427387904 by have := H.rows; omega)]
              by_cases e1 : x.ID ≤ a
              · simp [e1]
              · by_cases e2 : x.Values.length = t.Attrs.length
                · simp [e1, e2]
                · have : ¬ ((x.Values.length : Int) = t.Attrs.length) := by omega
                  simp [e1, e2, this]) (fun a => by simp [drossref03_Valid_l1]) t.Rows 0 0 rfl (Nat.zero_le _)
          simp only [Int.natCast_zero] at h5
          simp only [h4, if_true, h5, Option.bind_some, Bool.true_eq_false, if_false]
          cases o with
          | inl u => simp only at h6 ⊢; rw [h6]
          | inr z => simp only at h6 ⊢; rw [h6.1]
        · simp only [Bool.not_eq_true] at h4
          simp [h4]
  · simp only [Bool.not_eq_true] at h1
    simp [h1]

theorem table_Valid_table (t : Table) (H : TabOk t) : table_Valid t = some (tableErr t) := by
  simp only [table_Valid, isName_eq, Option.bind_some, tableErr]
  by_cases h1 : nameB t.Name = true
  · by_cases h2 : t.Attrs.length > 16
    · have : (t.Attrs.length : Int) > 16 := by omega
      simp [h1, h2, this]
    · have h2' : ¬ (t.Attrs.length : Int) > 16 := by omega
      by_cases h3 : t.Rows.length > 1000
      · have : (t.Rows.length : Int) > 1000 := by omega
        simp [h1, h2, h2', h3, this]
      · have h3' : ¬ (t.Rows.length : Int) > 1000 := by omega
        have hN := LoopF_allk t.Attrs (table_Valid_l1 t) (fun k x => nameB x && !(t.Attrs.take k).any fun y => x == y) 1
          (fun k x hx hk hp => by
            simp only [Bool.and_eq_true, Bool.not_eq_true'] at hp
            have h0 : ((0 : Int) ≤ (k : Int)) := by omega
            have h1 : ((k : Int) ≤ (t.Attrs.length : Int)) := by omega
            have hA := H.attrs
            simp only [table_Valid_l1, if_pos (lt_true hx), idx_get hx, Option.bind_some, isName_eq, hp.1, if_true, if_pos h0, if_pos h1, Int.toNat_natCast, Contains_string_eq _ x (show (t.Attrs.take k).length ≤ 1073741824 by simp; omega), hp.2, Bool.false_eq_true, if_false,
              wrap_succ hk (show t.Attrs.length ≤ 4611686018427387904 by omega)])
          (fun k x hx hp => by
            have hk := lt_of_get hx
            have h0 : ((0 : Int) ≤ (k : Int)) := by omega
            have h1 : ((k : Int) ≤ (t.Attrs.length : Int)) := by omega
            have hA := H.attrs
            simp only [table_Valid_l1, if_pos (lt_true hx), idx_get hx, Option.bind_some, isName_eq, if_pos h0, if_pos h1, Int.toNat_natCast, Contains_string_eq _ x (show (t.Attrs.take k).length ≤ 1073741824 by simp; omega)]
            rcases Bool.eq_false_or_eq_true (nameB x) with hn | hn
            · simp only [hn, Bool.true_and, Bool.not_eq_false'] at hp
              simp only [hn, if_true, hp]
            · simp [hn])
          (by simp [table_Valid_l1]) t.Attrs 0 rfl (Nat.zero_le _)
        simp only [Int.natCast_zero] at hN
        simp only [h1, if_true, if_neg h2', if_neg h3', hN, Option.bind_some, Bool.true_eq_false, if_false, if_neg h2, if_neg h3]
        have hNe : namesB t.Attrs = allFrom (fun k x => nameB x && !(t.Attrs.take k).any fun y => x == y) 0 t.Attrs := rfl
        rw [← hNe]
        by_cases h4 : namesB t.Attrs = true
        · obtain ⟨o, h5, h6⟩ := rows_loop (B := table_Valid_l2 t) t.Rows t.Attrs.length (fun k a x hx hk => by
              simp only [table_Valid_l2, if_pos (lt_true hx), idx_get hx, Option.bind_some, validValues_eq _ (H.vals x (List.mem_of_getElem? hx)), wrap_succ hk (show t.Rows.length ≤ 4611686018427387904 by have := H.rows; omega)]
              by_cases e1 : x.ID ≤ a
              · simp [e1]
              · by_cases e2 : x.Values.length = t.Attrs.length
                · simp [e1, e2]
                · have : ¬ ((x.Values.length : Int) = t.Attrs.length) := by omega
                  simp [e1, e2, this]) (fun a => by simp [table_Valid_l2]) t.Rows 0 0 rfl (Nat.zero_le _)
          simp only [Int.natCast_zero] at h5
          simp only [h4, if_true, h5, Option.bind_some, Bool.true_eq_false, if_false]
          cases o with
          | inl u => simp only at h6 ⊢; rw [h6]
          | inr z => simp only at h6 ⊢; rw [h6.1]
        · simp only [Bool.not_eq_true] at h4
          simp [h4]
  · simp only [Bool.not_eq_true] at h1
    simp [h1]

/-- the place of a row -/
def findB (t : Table) (id : Int) : Int × Bool := match t.Rows.findIdx? (fun r => r.ID == id) with | some i => ((i : Int), true) | none => (0, false)
theorem table_Find_eq (t : Table) (id : Int) (H : t.Rows.length ≤ 1073741824) : table_Find t id = some (findB t id) := by
  simp only [table_Find, IndexFunc_Row_eq t.Rows (fun y => table_Find_1 y id) (fun r => r.ID == id) (fun y _ => rfl) H, Option.bind_some, findB]
  cases t.Rows.findIdx? (fun r => r.ID == id) with
  | none => simp
  | some i =>
    have : ¬ (0 > (i : Int)) := by omega
    simp [this]
theorem ref_Find_eq (t : Table) (id : Int) (H : t.Rows.length ≤ 1073741824) : drossref03_Find t id = some (findB t id) := by
  have key : ∀ (r : List Row) (k : Nat), t.Rows.drop k = r → k ≤ t.Rows.length → LoopF (drossref03_Find_l1 t id) (k : Int) = some (match r.findIdx? (fun r => r.ID == id) with | some i => .inr (((k + i : Nat) : Int), true) | none => .inl ()) := by
    intro r
    induction r with
    | nil =>
      intro k hd hk
      have : k = t.Rows.length := by
        have := congrArg List.length hd
        simp at this; omega
      subst this
      exact Loop_done (by simp [drossref03_Find_l1])
    | cons x r ih =>
      intro k hd hk
      have hx : t.Rows[k]? = some x := by
        have := congrArg (·[0]?) hd
        simpa [List.getElem?_drop] using this
      have hd' : t.Rows.drop (k + 1) = r := by rw [← List.drop_drop, hd]; rfl
      have hlt := lt_of_get hx
      by_cases hp : (x.ID == id) = true
      · rw [Loop_done (t := .inr ((k : Int), true)) (by simp only [drossref03_Find_l1, if_pos (lt_true hx), idx_get hx, Option.bind_some, if_pos hp])]
        simp [List.findIdx?_cons, hp]
      · rw [Loop_next (s' := ((k + 1 : Nat) : Int)) (by simp only [drossref03_Find_l1, if_pos (lt_true hx), idx_get hx, Option.bind_some, if_neg hp, wrap_succ hlt (show t.Rows.length ≤ 4611686018427387904 by omega)]), ih (k + 1) hd' hlt]
        simp only [Bool.not_eq_true] at hp
        simp only [List.findIdx?_cons, hp]
        cases r.findIdx? (fun r => r.ID == id) with
        | none => rfl
        | some i => simp; omega
  have h := key t.Rows 0 rfl (Nat.zero_le _)
  simp only [Int.natCast_zero] at h
  simp only [drossref03_Find, h, Option.bind_some, findB]
  cases t.Rows.findIdx? (fun r => r.ID == id) <;> simp
end Go.Proofs.Ytdmddoljldjjeaa
/- Well-formed merged tables. -/
set_option linter.unusedVariables false
set_option linter.unusedSimpArgs false
namespace Go.Proofs.Ytdmddoljldjjeaa
open Go Go.Ab

theorem LoopF_allS {α ρ : Type} (s : Nat) (l : List α) (B : Int → Option (LS Int (Unit ⊕ ρ))) (p : Nat → α → Bool) (bad : ρ)
    (h1 : ∀ (k : Nat) x, s ≤ k → l[k]? = some x → k < l.length → p k x = true → B k = some (.next (k + 1 : Nat))) (h2 : ∀ (k : Nat) x, s ≤ k → l[k]? = some x → p k x = false → B k = some (.done (.inr bad)))
    (h3 : ∀ k : Nat, s ≤ k → l.length ≤ k → B k = some (.done (.inl ()))) :
    ∀ (r : List α) (k : Nat), s ≤ k → l.drop k = r → LoopF B (k : Int) = some (if allFrom p k r then .inl () else .inr bad) := by
  intro r
  induction r with
  | nil =>
    intro k hs hd
    have : l.length ≤ k := by
      have := congrArg List.length hd
      simp at this; omega
    exact Loop_done (h3 k hs this)
  | cons x r ih =>
    intro k hs hd
    have hx : l[k]? = some x := by
      have := congrArg (·[0]?) hd
      simpa [List.getElem?_drop] using this
    have hd' : l.drop (k + 1) = r := by rw [← List.drop_drop, hd]; rfl
    rcases Bool.eq_false_or_eq_true (p k x) with hp | hp
    · rw [Loop_next (h1 k x hs hx (lt_of_get hx) hp), ih (k + 1) (by omega) hd']
      simp [allFrom, hp]
    · rw [Loop_done (h2 k x hs hx hp)]
      simp [allFrom, hp]
theorem allFrom_get {α : Type} {p : Nat → α → Bool} : ∀ {l : List α} {k : Nat}, allFrom p k l = true → ∀ {j : Nat} {x : α}, l[j]? = some x → p (k + j) x = true
  | [], _, _, j, x, hx => by simp at hx
  | y :: r, k, h, j, x, hx => by
    simp only [allFrom, Bool.and_eq_true] at h
    cases j with
    | zero => simp at hx; subst hx; exact h.1
    | succ j =>
      have := allFrom_get h.2 (j := j) (x := x) (by simpa using hx)
      rw [show k + (j + 1) = k + 1 + j by omega]; exact this

def ascB (l : List Int) : Bool := allFrom (fun k x => decide (l.getD (k - 1) 0 < x)) 1 (l.drop 1) && decide (0 < l.length)
theorem ascending_eq (l : List Int) (hl : l.length ≤ 1073741824) : survivor_ascending l = some (ascB l) := by
  have h := LoopF_allS 1 l (survivor_ascending_l1 l) (fun k x => decide (l.getD (k - 1) 0 < x)) false
    (fun k x hs hx hk hp => by
      have e : IntKind.i64.wrap ((k : Int) - 1) = ((k - 1 : Nat) : Int) := by rw [wrap_i64 (by omega) (by omega)]; omega
      obtain ⟨y, hy⟩ : ∃ y, l[k - 1]? = some y := ⟨_, List.getElem?_eq_getElem (by omega)⟩
      have hg : l.getD (k - 1) 0 = y := by simp [List.getD, hy]
      rw [hg, decide_eq_true_eq] at hp
      have : ¬ x ≤ y := by omega
      simp only [survivor_ascending_l1, if_pos (lt_true hx), idx_get hx, Option.bind_some, e, idx_get hy, if_neg this, wrap_succ hk (show l.length ≤ 4611686018427387904 by omega)])
    (fun k x hs hx hp => by
      have hk := lt_of_get hx
      have e : IntKind.i64.wrap ((k : Int) - 1) = ((k - 1 : Nat) : Int) := by rw [wrap_i64 (by omega) (by omega)]; omega
      obtain ⟨y, hy⟩ : ∃ y, l[k - 1]? = some y := ⟨_, List.getElem?_eq_getElem (by omega)⟩
      have hg : l.getD (k - 1) 0 = y := by simp [List.getD, hy]
      rw [hg, decide_eq_false_iff_not] at hp
      have : x ≤ y := by omega
      simp only [survivor_ascending_l1, if_pos (lt_true hx), idx_get hx, Option.bind_some, e, idx_get hy, if_pos this])
    (fun k hs hk => by
      have : ¬ ((k : Int) < (l.length : Int)) := by omega
      simp only [survivor_ascending_l1, if_neg this]) (l.drop 1) 1 (Nat.le_refl _) rfl
  have h' : LoopF (survivor_ascending_l1 l) 1 = _ := h
  simp only [survivor_ascending, h', Option.bind_some, ascB]
  have e : decide ((l.length : Int) > 0) = decide (0 < l.length) := by rw [Bool.eq_iff_iff]; simp
  cases allFrom (fun k x => decide (l.getD (k - 1) 0 < x)) 1 (l.drop 1) <;> simp [e]
theorem Cluster_eq (l : List Int) (hl : l.length ≤ 1073741824) : drossref55_Cluster l = some (ascB l) := ascending_eq l hl
theorem asc_lt {l : List Int} (h : ascB l = true) : ∀ (j k : Nat) {x y : Int}, j < k → l[j]? = some x → l[k]? = some y → x < y := by
  simp only [ascB, Bool.and_eq_true] at h
  have step : ∀ (k : Nat) {x y : Int}, l[k]? = some x → l[k + 1]? = some y → x < y := by
    intro k x y hx hy
    have := allFrom_get h.1 (j := k) (x := y) (by rw [List.getElem?_drop, Nat.add_comm]; exact hy)
    simp only [Nat.add_sub_cancel_left, decide_eq_true_eq, List.getD, hx, Option.getD_some] at this
    exact this
  intro j k
  induction k with
  | zero => intro x y hjk; omega
  | succ k ih =>
    intro x y hjk hx hy
    by_cases e : j = k
    · subst e; exact step j hx hy
    · obtain ⟨z, hz⟩ : ∃ z, l[k]? = some z := ⟨_, List.getElem?_eq_getElem (by have := lt_of_get hy; omega)⟩
      have := ih (by omega) hx hz
      have := step k hz hy
      omega
theorem asc_take {l : List Int} (h : ascB l = true) {k : Nat} {x : Int} (hx : l[k]? = some x) : x ∉ l.take k := by
  intro hm
  obtain ⟨j, hj⟩ := List.mem_iff_getElem?.1 hm
  rw [List.getElem?_take] at hj
  split at hj
  · rename_i hlt
    have := asc_lt h j k hlt hj hx
    omega
  · cases hj
theorem asc_ne {l : List Int} (h : ascB l = true) : l ≠ [] := by
  simp only [ascB, Bool.and_eq_true, decide_eq_true_eq] at h
  intro e; rw [e] at h; exact absurd h.2 (by simp)

theorem Has_eq (l : List Int) (x : Int) (hl : l.length ≤ 4611686018427387904) : drossref03_Has l x = some (decide (x ∈ l)) := by
  have h := LoopF_all l (drossref03_Has_l1 l x) (fun y => !(y == x)) true
    (fun k y hx hk hp => by
      simp only [Bool.not_eq_true'] at hp
      simp only [drossref03_Has_l1, if_pos (lt_true hx), idx_get hx, Option.bind_some, hp, Bool.false_eq_true, if_false, wrap_succ hk hl])
    (fun k y hx hp => by
      simp only [Bool.not_eq_false'] at hp
      simp only [drossref03_Has_l1, if_pos (lt_true hx), idx_get hx, Option.bind_some, hp, if_true])
    (by simp [drossref03_Has_l1])
  simp only [drossref03_Has, h, Option.bind_some]
  by_cases hm : x ∈ l
  · have : l.all (fun y => !(y == x)) = false := by rw [List.all_eq_false]; exact ⟨x, hm, by simp⟩
    simp [this, hm]
  · have : l.all (fun y => !(y == x)) = true := by
      rw [List.all_eq_true]
      intro y hy
      simp only [Bool.not_eq_true', beq_eq_false_iff_ne]
      intro e; rw [e] at hy; exact hm hy
    simp [this, hm]
theorem Index_int64_eq (l : List Int) (x : Int) (hl : l.length ≤ 1073741824) : slices_Index_int64 l x = some (posI (l.findIdx? (fun y => x == y))) := by
  have h := LoopF_find l (slices_Index_int64_l1 l x) (fun y => x == y)
    (fun k y hx hk hp => by simp only [slices_Index_int64_l1, if_pos (lt_true hx), idx_get hx, Option.bind_some, hp, Bool.false_eq_true, if_false, if_true, wrap_succ hk (show l.length ≤ 4611686018427387904 by omega)])
    (fun k y hx hp => by simp only [slices_Index_int64_l1, if_pos (lt_true hx), idx_get hx, Option.bind_some, hp, if_true])
    (by simp [slices_Index_int64_l1])
  simp only [slices_Index_int64, h, Option.bind_some]
  cases l.findIdx? (fun y => x == y) <;> rfl
theorem Contains_int64_eq (l : List Int) (x : Int) (hl : l.length ≤ 1073741824) : slices_Contains_int64 l x = some (decide (x ∈ l)) := by
  simp only [slices_Contains_int64, Index_int64_eq l x hl, Option.bind_some]
  rw [posI_any]
  congr 1
  rw [Bool.eq_iff_iff]
  simp
theorem IndexFunc_int64_eq (l : List Int) (f : Int → Option Bool) (p : Int → Bool) (hf : ∀ x ∈ l, f x = some (p x)) (hl : l.length ≤ 1073741824) : slices_IndexFunc_int64 l f = some (posI (l.findIdx? p)) := by
  have h := LoopF_find l (slices_IndexFunc_int64_l1 l f) p
    (fun k x hx hk hp => by simp [slices_IndexFunc_int64_l1, lt_true hx, idx_get hx, hf x (List.mem_of_getElem? hx), hp, wrap_succ hk (show l.length ≤ 4611686018427387904 by omega)])
    (fun k x hx hp => by simp [slices_IndexFunc_int64_l1, lt_true hx, idx_get hx, hf x (List.mem_of_getElem? hx), hp])
    (by simp [slices_IndexFunc_int64_l1])
  simp only [slices_IndexFunc_int64, h, Option.bind_some]
  cases l.findIdx? p <;> rfl
theorem ContainsFunc_int64_eq (l : List Int) (f : Int → Option Bool) (p : Int → Bool) (hf : ∀ x ∈ l, f x = some (p x)) (hl : l.length ≤ 1073741824) : slices_ContainsFunc_int64 l f = some (l.any p) := by
  simp only [slices_ContainsFunc_int64, IndexFunc_int64_eq l f p hf hl, Option.bind_some]
  exact congrArg some (posI_any p l)

/-! ### no ID in two clusters -/
def onceB : List Int → List (List Int) → Bool
  | _, [] => true
  | all, c :: cs => ascB c && c.all (fun x => !decide (x ∈ all)) && onceB (all ++ c) cs
theorem mget_mset {K V : Type} [DecidableEq K] (m : List (K × V)) (k x : K) (v : V) : mget (mset m k v) x = if x = k then some v else mget m x := by
  induction m with
  | nil => simp [mset, mget]
  | cons p r ih =>
    obtain ⟨a, u⟩ := p
    simp only [mset]
    by_cases h : k = a
    · subst h
      simp only [if_pos, mget]
      by_cases hx : x = k <;> simp [hx]
    · simp only [if_neg h, mget, ih]
      by_cases hx : x = a
      · subst hx
        have : ¬ x = k := fun e => h e.symm
        simp [this]
      · simp [hx]
theorem mset_len {K V : Type} [DecidableEq K] (m : List (K × V)) (k : K) (v : V) (h : mget m k = none) : (mset m k v).length = m.length + 1 := by
  induction m with
  | nil => rfl
  | cons p r ih =>
    obtain ⟨a, u⟩ := p
    simp only [mget] at h
    split at h
    · cases h
    · rename_i hn
      simp only [mset, if_neg hn, List.length_cons, ih h]
/-- a map holds exactly some IDs -/
def Holds (m : List (Int × Bool)) (all : List Int) : Prop := ∀ x, mget m x = if x ∈ all then some true else none

theorem disjoint_inner (c : List Int) (all : List Int) (hl : c.length ≤ 1073741824) (hc : ascB c = true) : ∀ (r : List Int) (k : Nat) (m : List (Int × Bool)), c.drop k = r → k ≤ c.length → Holds m (all ++ c.take k) →
    ∃ o, LoopF (survivor_disjoint_l3 c) (m, (k : Int)) = some o ∧ (match o with | .inl m' => Holds m' (all ++ c) ∧ r.all (fun x => !decide (x ∈ all)) = true ∧ m'.length = m.length + r.length | .inr z => z = ([], false) ∧ r.all (fun x => !decide (x ∈ all)) = false) := by
  intro r
  induction r with
  | nil =>
    intro k m hd hk hm
    have hk' : k = c.length := by
      have := congrArg List.length hd
      simp at this; omega
    subst hk'
    refine ⟨.inl m, Loop_done (by simp [survivor_disjoint_l3]), ?_⟩
    simp only [List.take_length] at hm
    exact ⟨hm, rfl, rfl⟩
  | cons x r ih =>
    intro k m hd hk hm
    have hx : c[k]? = some x := by
      have := congrArg (·[0]?) hd
      simpa [List.getElem?_drop] using this
    have hd' : c.drop (k + 1) = r := by rw [← List.drop_drop, hd]; rfl
    have hlt := lt_of_get hx
    have hnt := asc_take hc hx
    by_cases ha : x ∈ all
    · have hg : ((mget m x).getD false) = true := by rw [hm x, if_pos (by simp [ha])]; rfl
      refine ⟨.inr ([], false), Loop_done ?_, rfl, ?_⟩
      · simp only [survivor_disjoint_l3, if_pos (lt_true hx), idx_get hx, Option.bind_some, hg, if_true]
      · simp [ha]
    · have hn : mget m x = none := by rw [hm x, if_neg (by simp [ha, hnt])]
      have hg : ((mget m x).getD false) = false := by rw [hn]; rfl
      have hm' : Holds (mset m x true) (all ++ c.take (k + 1)) := by
        intro y
        rw [mget_mset, hm y]
        have ht : c.take (k + 1) = c.take k ++ [x] := by rw [List.take_add_one, hx]; rfl
        rw [ht]
        by_cases hy : y = x
        · subst hy; simp
        · simp [hy]
      obtain ⟨o, h1, h2⟩ := ih (k + 1) (mset m x true) hd' hlt hm'
      refine ⟨o, ?_, ?_⟩
      · rw [Loop_next (s' := (mset m x true, ((k + 1 : Nat) : Int))) (by simp only [survivor_disjoint_l3, if_pos (lt_true hx), idx_get hx, Option.bind_some, hg, Bool.false_eq_true, if_false, wrap_succ hlt (show c.length ≤ 4611686018427387904 by omega)])]
        exact h1
      · cases o with
        | inl m' =>
          simp only at h2 ⊢
          refine ⟨h2.1, by simp only [List.all_cons, h2.2.1, ha, decide_false, Bool.not_false, Bool.and_self], ?_⟩
          rw [h2.2.2, mset_len m x true hn, List.length_cons]; omega
        | inr z =>
          simp only at h2 ⊢
          refine ⟨h2.1, ?_⟩
          simp only [List.all_cons, h2.2, Bool.and_false]

theorem disjoint_outer (cs : List (List Int)) (hl : cs.length ≤ 1073741824) (hc : ∀ c ∈ cs, c.length ≤ 1073741824) : ∀ (r : List (List Int)) (k : Nat) (m : List (Int × Bool)) (all : List Int), cs.drop k = r → k ≤ cs.length → Holds m all → m.length = all.length →
    ∃ o, LoopF (survivor_disjoint_l4 cs) (m, (k : Int)) = some o ∧ (match o with | .inl m' => Holds m' (all ++ r.flatten) ∧ onceB all r = true ∧ m'.length = (all ++ r.flatten).length | .inr z => z = ([], false) ∧ onceB all r = false) := by
  intro r
  induction r with
  | nil =>
    intro k m all hd hk hm hlen
    have hk' : k = cs.length := by
      have := congrArg List.length hd
      simp at this; omega
    subst hk'
    exact ⟨.inl m, Loop_done (by simp [survivor_disjoint_l4]), by simpa using hm, rfl, by simpa using hlen⟩
  | cons c r ih =>
    intro k m all hd hk hm hlen
    have hx : cs[k]? = some c := by
      have := congrArg (·[0]?) hd
      simpa [List.getElem?_drop] using this
    have hd' : cs.drop (k + 1) = r := by rw [← List.drop_drop, hd]; rfl
    have hlt := lt_of_get hx
    have hcl := hc c (List.mem_of_getElem? hx)
    by_cases ha : ascB c = true
    · obtain ⟨o, h1, h2⟩ := disjoint_inner c all hcl ha c 0 m rfl (Nat.zero_le _) (by simpa using hm)
      simp only [Int.natCast_zero] at h1
      cases o with
      | inl m' =>
        simp only at h2
        obtain ⟨o', h3, h4⟩ := ih (k + 1) m' (all ++ c) hd' hlt h2.1 (by rw [h2.2.2, hlen]; simp)
        refine ⟨o', ?_, ?_⟩
        · rw [Loop_next (s' := (m', ((k + 1 : Nat) : Int))) (by simp only [survivor_disjoint_l4, if_pos (lt_true hx), idx_get hx, Option.bind_some, ascending_eq c hcl, ha, if_true, h1, wrap_succ hlt (show cs.length ≤ 4611686018427387904 by omega)])]
          exact h3
        · have e : onceB all (c :: r) = onceB (all ++ c) r := by simp only [onceB, ha, h2.2.1, Bool.true_and]
          rw [e]
          cases o' with
          | inl m'' => simpa [List.flatten_cons, List.append_assoc] using h4
          | inr z => exact h4
      | inr z =>
        simp only at h2
        refine ⟨.inr z, Loop_done ?_, h2.1, ?_⟩
        · simp only [survivor_disjoint_l4, if_pos (lt_true hx), idx_get hx, Option.bind_some, ascending_eq c hcl, ha, if_true, h1]
        · simp only [onceB, h2.2, Bool.and_false, Bool.false_and]
    · simp only [Bool.not_eq_true] at ha
      refine ⟨.inr ([], false), Loop_done ?_, rfl, ?_⟩
      · simp only [survivor_disjoint_l4, if_pos (lt_true hx), idx_get hx, Option.bind_some, ascending_eq c hcl, ha, Bool.false_eq_true, if_false]
      · simp only [onceB, ha, Bool.false_and]
theorem disjoint_eq (cs : List (List Int)) (hl : cs.length ≤ 1073741824) (hc : ∀ c ∈ cs, c.length ≤ 1073741824) :
    ∃ m, survivor_disjoint cs = some (m, onceB [] cs) ∧ (onceB [] cs = true → Holds m cs.flatten ∧ m.length = cs.flatten.length) := by
  obtain ⟨o, h1, h2⟩ := disjoint_outer cs hl hc cs 0 [] [] rfl (Nat.zero_le _) (fun x => by simp [mget]) rfl
  simp only [Int.natCast_zero] at h1
  simp only [survivor_disjoint, h1, Option.bind_some]
  cases o with
  | inl m' =>
    simp only [List.nil_append] at h2
    exact ⟨m', by simp [h2.2.1], fun _ => ⟨h2.1, h2.2.2⟩⟩
  | inr z =>
    simp only at h2
    refine ⟨[], by rw [h2.1, h2.2], fun h => ?_⟩
    rw [h2.2] at h; cases h

theorem once_eq (cs : List (List Int)) (hl : cs.length ≤ 1048576) (hc : ∀ c ∈ cs, c.length ≤ 1048576) : drossref55_once cs = some (onceB [] cs) := by
  have key : ∀ (r : List (List Int)) (k : Nat) (all : List Int), cs.drop k = r → k ≤ cs.length → all.length ≤ k * 1048576 → LoopF (drossref55_once_l4 cs) (all, (k : Int)) = some (if onceB all r then .inl () else .inr false) := by
    intro r
    induction r with
    | nil =>
      intro k all hd hk hm
      have hk' : k = cs.length := by
        have := congrArg List.length hd
        simp at this; omega
      subst hk'
      exact Loop_done (by simp [drossref55_once_l4, onceB])
    | cons c r ih =>
      intro k all hd hk hm
      have hx : cs[k]? = some c := by
        have := congrArg (·[0]?) hd
        simpa [List.getElem?_drop] using this
      have hd' : cs.drop (k + 1) = r := by rw [← List.drop_drop, hd]; rfl
      have hlt := lt_of_get hx
      have hcl := hc c (List.mem_of_getElem? hx)
      have hin := LoopF_all c (drossref55_once_l3 cs all k) (fun x => !decide (x ∈ all)) false
        (fun j x hj hjk hp => by
          simp only [Bool.not_eq_true', decide_eq_false_iff_not] at hp
          simp only [drossref55_once_l3, idx_get hx, Option.bind_some, if_pos (lt_true hj), idx_get hj, Has_eq all x (by omega), hp, decide_false, Bool.false_eq_true, if_false, wrap_succ hjk (show c.length ≤ 4611686018427387904 by omega)])
        (fun j x hj hp => by
          simp only [Bool.not_eq_false', decide_eq_true_eq] at hp
          simp only [drossref55_once_l3, idx_get hx, Option.bind_some, if_pos (lt_true hj), idx_get hj, Has_eq all x (by omega), hp, decide_true, if_true])
        (by simp [drossref55_once_l3, idx_get hx])
      by_cases ha : ascB c = true
      · rcases Bool.eq_false_or_eq_true (c.all fun x => !decide (x ∈ all)) with hall | hall
        · have hroom : roomB (all.length + c.length) 8 = true := room8 (by omega)
          rw [hall] at hin
          rw [Loop_next (s' := (all ++ c, ((k + 1 : Nat) : Int))) (by simp only [drossref55_once_l4, if_pos (lt_true hx), idx_get hx, Option.bind_some, Cluster_eq c (by omega), ha, if_true, hin, hroom, wrap_succ hlt (show cs.length ≤ 4611686018427387904 by omega)]),
            ih (k + 1) (all ++ c) hd' hlt (by simp; omega)]
          simp only [onceB, ha, hall, Bool.true_and]
        · rw [hall] at hin
          rw [Loop_done (t := .inr false) (by simp only [drossref55_once_l4, if_pos (lt_true hx), idx_get hx, Option.bind_some, Cluster_eq c (by omega), ha, if_true, hin, Bool.false_eq_true, if_false])]
          simp only [onceB, hall, Bool.and_false, Bool.false_and, Bool.false_eq_true, if_false]
      · simp only [Bool.not_eq_true] at ha
        rw [Loop_done (t := .inr false) (by simp only [drossref55_once_l4, if_pos (lt_true hx), idx_get hx, Option.bind_some, Cluster_eq c (by omega), ha, Bool.false_eq_true, if_false])]
        simp only [onceB, ha, Bool.false_and, Bool.false_eq_true, if_false]
  have h := key cs 0 [] rfl (Nat.zero_le _) (by simp)
  simp only [Int.natCast_zero] at h
  simp only [drossref55_once, h, Option.bind_some]
  cases onceB [] cs <;> rfl
theorem onceB_ne : ∀ {cs : List (List Int)} {all : List Int}, onceB all cs = true → ∀ c ∈ cs, c ≠ []
  | [], _, _, c, hc => by cases hc
  | d :: r, all, h, c, hc => by
    simp only [onceB, Bool.and_eq_true] at h
    rcases List.mem_cons.1 hc with e | e
    · subst e; exact asc_ne h.1.1
    · exact onceB_ne h.2 c e

/-! ### well-formed -/
def cl (m : Merged) (k : Nat) : List Int := m.Clusters.getD k []
def og (m : Merged) (k : Nat) : List Int := m.Origins.getD k []
def rowFits (m : Merged) (k : Nat) (r : Row) : Bool := decide (r.ID = (cl m k).headD 0) && (decide ((og m k).length = m.Table.Attrs.length) && (og m k).all fun x => decide (x ∈ cl m k))
def wfB (m : Merged) : Bool :=
  decide (tableErr m.Table = 0) && (decide (m.Clusters.length = m.Table.Rows.length) && (decide (m.Origins.length = m.Table.Rows.length) && (onceB [] m.Clusters && allFrom (rowFits m) 0 m.Table.Rows)))
structure MerOk (m : Merged) : Prop where
  tab : TabOk m.Table
  nattrs : m.Table.Attrs.length ≤ 1048576
  nrows : m.Table.Rows.length ≤ 1048576
  ncl : m.Clusters.length ≤ 1048576
  lcl : ∀ c ∈ m.Clusters, c.length ≤ 1048576
  nor : m.Origins.length ≤ 1048576
  lor : ∀ c ∈ m.Origins, c.length ≤ 1048576
theorem merOk_of {m : Merged} (h : okMerged m) : MerOk m :=
  ⟨tabOk_of h.1, h.1.2.1.1, h.1.2.2.1, h.2.1.1, fun c hc => (h.2.1.2 c hc).1, h.2.2.1, fun c hc => (h.2.2.2 c hc).1⟩

theorem get_cl {m : Merged} {k : Nat} (h : k < m.Clusters.length) : m.Clusters[k]? = some (cl m k) := by simp [cl, List.getD, List.getElem?_eq_getElem h]
theorem get_og {m : Merged} {k : Nat} (h : k < m.Origins.length) : m.Origins[k]? = some (og m k) := by simp [og, List.getD, List.getElem?_eq_getElem h]
theorem head_get {l : List Int} (h : l ≠ []) : l[0]? = some (l.headD 0) := by
  cases l with
  | nil => exact absurd rfl h
  | cons x r => rfl

theorem wellFormed_eq (m : Merged) (H : MerOk m) : survivor_wellFormed m = some (wfB m) := by
  simp only [survivor_wellFormed, table_Valid_table m.Table H.tab, Option.bind_some, wfB]
  by_cases h1 : tableErr m.Table = 0
  · by_cases h2 : m.Clusters.length = m.Table.Rows.length
    · by_cases h3 : m.Origins.length = m.Table.Rows.length
      · obtain ⟨sm, hd, _⟩ := disjoint_eq m.Clusters (by have := H.ncl; omega) (fun c hc => by have := H.lcl c hc; omega)
        have e1 : ¬ ((tableErr m.Table != 0) = true) := by simp [h1]
        have e2 : ¬ (((m.Clusters.length : Int) != (m.Table.Rows.length : Int)) = true) := by simp [h2]
        have e3 : ¬ (((m.Origins.length : Int) != (m.Table.Rows.length : Int)) = true) := by simp [h3]
        rw [if_neg e1, if_neg e2, if_neg e3, hd]
        simp only [Option.bind_some]
        by_cases h4 : onceB [] m.Clusters = true
        · have hne := onceB_ne h4
          have hB : ∀ (k : Nat) (x : Row), m.Table.Rows[k]? = some x → survivor_wellFormed_l1 m (k : Int) = if rowFits m k x then some (.next ((k + 1 : Nat) : Int)) else some (.done (.inr false)) := by
            intro k x hx
            have hlt := lt_of_get hx
            have hc := get_cl (m := m) (k := k) (by omega)
            have ho := get_og (m := m) (k := k) (by omega)
            have hcl := H.lcl _ (List.mem_of_getElem? hc)
            have hol := H.lor _ (List.mem_of_getElem? ho)
            have hcf : slices_ContainsFunc_int64 (og m k) (fun y => survivor_wellFormed_1 y m k) = some ((og m k).any fun x => !decide (x ∈ cl m k)) :=
              ContainsFunc_int64_eq _ _ _ (fun y _ => by simp only [survivor_wellFormed_1, idx_get hc, Option.bind_some, Contains_int64_eq _ _ (show (cl m k).length ≤ 1073741824 by omega)]) (by omega)
            simp only [survivor_wellFormed_l1, if_pos (lt_true hx), idx_get hx, idx_get hc, idx_get ho, Option.bind_some, head_get (hne _ (List.mem_of_getElem? hc)), hcf, any_not_all, wrap_succ hlt (show m.Table.Rows.length ≤ 4611686018427387904 by have := H.nrows; omega), rowFits]
            by_cases a1 : x.ID = (cl m k).headD 0
            · by_cases a2 : (og m k).length = m.Table.Attrs.length
              · have a2' : ¬ (((((og m k).length : Int) != (m.Table.Attrs.length : Int))) = true) := by simp [a2]
                have a1' : ¬ ((x.ID != (cl m k).headD 0) = true) := by simp [a1]
                rw [if_neg a1', if_neg a2']
                simp only [a1, a2, decide_true, Bool.true_and]
                cases (og m k).all fun x => decide (x ∈ cl m k) <;> simp
              · have a2' : (((((og m k).length : Int) != (m.Table.Attrs.length : Int))) = true) := by simp; omega
                have a1' : ¬ ((x.ID != (cl m k).headD 0) = true) := by simp [a1]
                rw [if_neg a1', if_pos a2']
                simp [a2]
            · have a1' : ((x.ID != (cl m k).headD 0) = true) := by rw [bne_iff_ne]; exact a1
              rw [if_pos a1']
              simp only [a1, decide_false, Bool.false_and, Bool.false_eq_true, if_false]
          have h := LoopF_allk m.Table.Rows (survivor_wellFormed_l1 m) (rowFits m) false
            (fun k x hx hk hp => by rw [hB k x hx, if_pos hp]) (fun k x hx hp => by rw [hB k x hx, hp]; rfl) (by simp [survivor_wellFormed_l1]) m.Table.Rows 0 rfl (Nat.zero_le _)
          simp only [Int.natCast_zero] at h
          simp only [h4, if_true, h, Option.bind_some, h1, h2, h3, decide_true, Bool.true_and]
          cases allFrom (rowFits m) 0 m.Table.Rows <;> rfl
        · simp only [Bool.not_eq_true] at h4
          simp [h1, h2, h3, h4]
      · have h3' : ¬ ((m.Origins.length : Int) = m.Table.Rows.length) := by omega
        simp [h1, h2, h3, h3']
    · have h2' : ¬ ((m.Clusters.length : Int) = m.Table.Rows.length) := by omega
      simp [h1, h2, h2']
  · simp [h1]

theorem WellFormed_eq (m : Merged) (H : MerOk m) : drossref55_WellFormed m = some (wfB m) := by
  simp only [drossref55_WellFormed, ref_Valid_table m.Table H.tab, Option.bind_some, wfB]
  by_cases h1 : tableErr m.Table = 0
  · by_cases h2 : m.Clusters.length = m.Table.Rows.length
    · by_cases h3 : m.Origins.length = m.Table.Rows.length
      · have e1 : ¬ ((tableErr m.Table != 0) = true) := by simp [h1]
        have e2 : ¬ (((m.Clusters.length : Int) != (m.Table.Rows.length : Int)) = true) := by simp [h2]
        have e3 : ¬ (((m.Origins.length : Int) != (m.Table.Rows.length : Int)) = true) := by simp [h3]
        rw [if_neg e1, if_neg e2, if_neg e3, once_eq m.Clusters H.ncl H.lcl]
        simp only [Option.bind_some]
        by_cases h4 : onceB [] m.Clusters = true
        · have hne := onceB_ne h4
          have hB : ∀ (k : Nat) (x : Row), m.Table.Rows[k]? = some x → drossref55_WellFormed_l4 m (k : Int) = if rowFits m k x then some (.next ((k + 1 : Nat) : Int)) else some (.done (.inr false)) := by
            intro k x hx
            have hlt := lt_of_get hx
            have hc := get_cl (m := m) (k := k) (by omega)
            have ho := get_og (m := m) (k := k) (by omega)
            have hcl := H.lcl _ (List.mem_of_getElem? hc)
            have hol := H.lor _ (List.mem_of_getElem? ho)
            have hin := LoopF_all (og m k) (drossref55_WellFormed_l3 m k) (fun x => decide (x ∈ cl m k)) false
              (fun j y hj hjk hp => by
                simp only [decide_eq_true_eq] at hp
                simp only [drossref55_WellFormed_l3, idx_get ho, idx_get hc, Option.bind_some, if_pos (lt_true hj), idx_get hj, Has_eq _ y (show (cl m k).length ≤ 4611686018427387904 by omega), hp, decide_true, if_true, wrap_succ hjk (show (og m k).length ≤ 4611686018427387904 by omega)])
              (fun j y hj hp => by
                simp only [decide_eq_false_iff_not] at hp
                simp only [drossref55_WellFormed_l3, idx_get ho, idx_get hc, Option.bind_some, if_pos (lt_true hj), idx_get hj, Has_eq _ y (show (cl m k).length ≤ 4611686018427387904 by omega), hp, decide_false, Bool.false_eq_true, if_false])
              (by simp [drossref55_WellFormed_l3, idx_get ho])
            have hkc : (k : Int) < (m.Clusters.length : Int) := by omega
            simp only [drossref55_WellFormed_l4, if_pos hkc, idx_get hx, idx_get hc, idx_get ho, Option.bind_some, head_get (hne _ (List.mem_of_getElem? hc)), hin, wrap_succ hlt (show m.Table.Rows.length ≤ 4611686018427387904 by have := H.nrows; omega), rowFits]
            by_cases a1 : x.ID = (cl m k).headD 0
            · by_cases a2 : (og m k).length = m.Table.Attrs.length
              · have a2' : ¬ (((((og m k).length : Int) != (m.Table.Attrs.length : Int))) = true) := by simp [a2]
                have a1' : ¬ ((x.ID != (cl m k).headD 0) = true) := by simp [a1]
                rw [if_neg a1', if_neg a2']
                simp only [a1, a2, decide_true, Bool.true_and]
                cases (og m k).all fun x => decide (x ∈ cl m k) <;> simp
              · have a2' : (((((og m k).length : Int) != (m.Table.Attrs.length : Int))) = true) := by simp; omega
                have a1' : ¬ ((x.ID != (cl m k).headD 0) = true) := by simp [a1]
                rw [if_neg a1', if_pos a2']
                simp [a2]
            · have a1' : ((x.ID != (cl m k).headD 0) = true) := by rw [bne_iff_ne]; exact a1
              rw [if_pos a1']
              simp only [a1, decide_false, Bool.false_and, Bool.false_eq_true, if_false]
          have h := LoopF_allk m.Table.Rows (drossref55_WellFormed_l4 m) (rowFits m) false
            (fun k x hx hk hp => by rw [hB k x hx, if_pos hp]) (fun k x hx hp => by rw [hB k x hx, hp]; rfl) (by simp [drossref55_WellFormed_l4, h2]) m.Table.Rows 0 rfl (Nat.zero_le _)
          simp only [Int.natCast_zero] at h
          simp only [h4, if_true, h, Option.bind_some, h1, h2, h3, decide_true, Bool.true_and]
          cases allFrom (rowFits m) 0 m.Table.Rows <;> rfl
        · simp only [Bool.not_eq_true] at h4
          simp [h1, h2, h3, h4]
      · have h3' : ¬ ((m.Origins.length : Int) = m.Table.Rows.length) := by omega
        simp [h1, h2, h3, h3']
    · have h2' : ¬ ((m.Clusters.length : Int) = m.Table.Rows.length) := by omega
      simp [h1, h2, h2']
  · simp [h1]
end Go.Proofs.Ytdmddoljldjjeaa
/- SurvivorChoose answers true. -/
set_option linter.unusedVariables false
namespace Go.Proofs.Ytdmddoljldjjeaa
open Go Go.Ab
theorem rowsOk_of {rows : List Row} (h : okL okRow rows) : RowsOk rows := by
  refine ⟨by have := h.1; omega, fun r hr => ?_, fun r hr v hv => ?_⟩
  · have := (h.2 r hr).2.1; omega
  · have : okS v.Str := ((h.2 r hr).2.2 v hv).2.2
    unfold okS at this; omega
theorem SurvivorChoose_holds (rows : List Row) (attr rule : Int) (h : okL okRow rows) (_ : okI .i64 attr) (_ : okI .i64 rule) : drosslaw55_SurvivorChoose rows attr rule = some true :=
  SurvivorChoose_true rows attr rule (rowsOk_of h) awake_true
end Go.Proofs.Ytdmddoljldjjeaa
/- SurvivorSource answers true. -/
set_option linter.unusedVariables false
set_option linter.unusedSimpArgs false
namespace Go.Proofs.Ytdmddoljldjjeaa
open Go Go.Ab
theorem findIdx_lt {α : Type} (p : α → Bool) : ∀ (l : List α) {i : Nat}, l.findIdx? p = some i → i < l.length
  | [], i, h => by simp at h
  | x :: r, i, h => by
    rw [List.findIdx?_cons] at h
    split at h
    · cases h; simp
    · cases hr : r.findIdx? p with
      | none => rw [hr] at h; cases h
      | some j =>
        rw [hr] at h
        simp only [Option.map_some, Option.some.injEq] at h
        subst h
        have := findIdx_lt p r hr
        simp; omega
theorem wf_facts {m : Merged} (h : wfB m = true) : tableErr m.Table = 0 ∧ m.Clusters.length = m.Table.Rows.length ∧ m.Origins.length = m.Table.Rows.length ∧ onceB [] m.Clusters = true ∧
    ∀ (k : Nat) (r : Row), m.Table.Rows[k]? = some r → rowFits m k r = true := by
  simp only [wfB, Bool.and_eq_true, decide_eq_true_eq] at h
  obtain ⟨h1, h2, h3, h4, h5⟩ := h
  refine ⟨h1, h2, h3, h4, fun k r hr => ?_⟩
  have := allFrom_get h5 hr
  rwa [Nat.zero_add] at this
/-- what both answer -/
def sourceB (m : Merged) (c : CellRef) : CellRef × Int :=
  if wfB m = false then (⟨0, 0⟩, 1)
  else match m.Table.Rows.findIdx? (fun r => r.ID == c.ID) with
    | none => (⟨0, 0⟩, 4)
    | some i => if c.Attr < 0 ∨ (m.Table.Attrs.length : Int) ≤ c.Attr then (⟨0, 0⟩, 6) else (⟨(og m i).getD c.Attr.toNat 0, c.Attr⟩, 0)
theorem Source_eq (m : Merged) (c : CellRef) (H : MerOk m) : survivor_Source m c = some (sourceB m c) ∧ drossref55_Source m c = some (sourceB m c) := by
  simp only [survivor_Source, drossref55_Source, wellFormed_eq m H, WellFormed_eq m H, Option.bind_some, sourceB]
  by_cases h : wfB m = true
  · obtain ⟨_, h2, h3, _, h5⟩ := wf_facts h
    simp only [h, if_true, table_Find_eq _ _ H.tab.rows, ref_Find_eq _ _ H.tab.rows, Option.bind_some, findB, Bool.true_eq_false, if_false]
    cases hf : m.Table.Rows.findIdx? (fun r => r.ID == c.ID) with
    | none => simp
    | some i =>
      have hi := findIdx_lt _ _ hf
      have ho := get_og (m := m) (k := i) (by omega)
      have hfit := h5 i _ (List.getElem?_eq_getElem hi)
      simp only [rowFits, Bool.and_eq_true, decide_eq_true_eq] at hfit
      simp only [if_true]
      by_cases a1 : c.Attr < 0
      · simp [a1]
      · by_cases a2 : (m.Table.Attrs.length : Int) ≤ c.Attr
        · simp [a1, a2]
        · have hg : idx (og m i) c.Attr = some ((og m i).getD c.Attr.toNat 0) := by
            unfold idx
            rw [if_pos (by omega)]
            have : c.Attr.toNat < (og m i).length := by omega
            simp [List.getD, List.getElem?_eq_getElem this]
          simp only [ge_iff_le, a1, a2, if_false, idx_get ho, Option.bind_some, hg, or_self, and_self]
  · simp only [Bool.not_eq_true] at h
    simp [h]
theorem few_eq (t : Table) : drosslaw55_few t = some (decide (t.Rows.length ≤ 8) && decide (t.Attrs.length ≤ 20)) := by
  simp only [drosslaw55_few]
  by_cases h : t.Rows.length ≤ 8
  · have h' : (t.Rows.length : Int) ≤ 8 := by omega
    rw [if_pos h']
    simp only [h, decide_true, Bool.true_and]
    congr 1
    rw [Bool.eq_iff_iff]; simp; omega
  · have h' : ¬ (t.Rows.length : Int) ≤ 8 := by omega
    rw [if_neg h']
    simp [h]
def briefB (m : Merged) : Bool := (decide (m.Table.Rows.length ≤ 8) && decide (m.Table.Attrs.length ≤ 20)) && (decide (m.Clusters.length ≤ 10) && decide (m.Origins.length ≤ 10))
theorem brief_eq (m : Merged) : drosslaw55_brief m = some (briefB m) := by
  simp only [drosslaw55_brief, few_eq, Option.bind_some, briefB]
  rcases Bool.eq_false_or_eq_true (decide (m.Table.Rows.length ≤ 8) && decide (m.Table.Attrs.length ≤ 20)) with h | h
  · rw [if_pos h, h]
    by_cases h2 : m.Clusters.length ≤ 10
    · have h' : (m.Clusters.length : Int) ≤ 10 := by omega
      rw [if_pos h']
      simp only [h2, decide_true, Bool.true_and]
      congr 1
      rw [Bool.eq_iff_iff]; simp; omega
    · have h' : ¬ (m.Clusters.length : Int) ≤ 10 := by omega
      rw [if_neg h']
      simp [h2]
  · rw [h]; simp
theorem SurvivorSource_holds (m : Merged) (c : CellRef) (h : okMerged m) (_ : okCellRef c) : drosslaw55_SurvivorSource m c = some true := by
  have H := merOk_of h
  obtain ⟨e1, e2⟩ := Source_eq m c H
  simp only [drosslaw55_SurvivorSource, awake_true, brief_eq, Option.bind_some, if_true, e1, e2]
  cases briefB m <;> simp
end Go.Proofs.Ytdmddoljldjjeaa
/- Which merged tables merge a table: both ways of telling agree. -/
set_option linter.unusedVariables false
set_option linter.unusedSimpArgs false
namespace Go.Proofs.Ytdmddoljldjjeaa
open Go Go.Ab
theorem allFrom_iff {α : Type} (p : Nat → α → Bool) : ∀ (l : List α) (k : Nat), allFrom p k l = true ↔ ∀ (j : Nat) (x : α), l[j]? = some x → p (k + j) x = true
  | [], k => by simp [allFrom]
  | y :: r, k => by
    simp only [allFrom, Bool.and_eq_true, allFrom_iff p r (k + 1)]
    constructor
    · rintro ⟨h1, h2⟩ j x hx
      cases j with
      | zero => simp at hx; subst hx; exact h1
      | succ j =>
        have := h2 j x (by simpa using hx)
        rwa [Nat.add_assoc, Nat.add_comm 1] at this
    · intro h
      refine ⟨h 0 y rfl, fun j x hx => ?_⟩
      have := h (j + 1) x (by simpa using hx)
      rwa [Nat.add_assoc, Nat.add_comm 1]
theorem allFrom_same {α : Type} [DecidableEq α] (a b : List α) (h : a.length = b.length) : allFrom (fun k x => decide (b[k]? = some x)) 0 a = decide (a = b) := by
  rw [Bool.eq_iff_iff, allFrom_iff, decide_eq_true_eq]
  simp only [Nat.zero_add, decide_eq_true_eq]
  constructor
  · intro hh
    apply List.ext_getElem? 
    intro i
    by_cases hi : i < a.length
    · rw [List.getElem?_eq_getElem hi]
      exact (hh i _ (List.getElem?_eq_getElem hi)).symm
    · rw [List.getElem?_eq_none (by omega), List.getElem?_eq_none (by omega)]
  · rintro rfl j x hx; exact hx
theorem Strings_eq (a b : List (List UInt8)) (ha : a.length ≤ 1073741824) : drossref03_Strings a b = some (decide (a = b)) := by
  simp only [drossref03_Strings]
  by_cases hl : a.length = b.length
  · have e : ¬ (((a.length : Int) != (b.length : Int)) = true) := by simp [hl]
    have h := LoopF_allk a (drossref03_Strings_l1 a b) (fun k x => decide (b[k]? = some x)) false
      (fun k x hx hk hp => by
        simp only [decide_eq_true_eq] at hp
        simp only [drossref03_Strings_l1, if_pos (lt_true hx), idx_get hx, idx_get hp, Option.bind_some, beq_self_eq_true, if_true, wrap_succ hk (show a.length ≤ 4611686018427387904 by omega)])
      (fun k x hx hp => by
        have hk := lt_of_get hx
        have hb : b[k]? = some (b[k]'(by omega)) := List.getElem?_eq_getElem (by omega)
        rw [hb] at hp
        simp only [Option.some.injEq, decide_eq_false_iff_not] at hp
        have hp' : ¬ ((x == b[k]'(by omega)) = true) := by rw [beq_iff_eq]; exact fun e => hp e.symm
        simp only [drossref03_Strings_l1, if_pos (lt_true hx), idx_get hx, idx_get hb, Option.bind_some, if_neg hp'])
      (by simp [drossref03_Strings_l1]) a 0 rfl (Nat.zero_le _)
    simp only [Int.natCast_zero, allFrom_same a b hl] at h
    rw [if_neg e, h]
    by_cases hab : a = b <;> simp [hab]
  · have e : (((a.length : Int) != (b.length : Int)) = true) := by rw [bne_iff_ne]; omega
    rw [if_pos e]
    have : a ≠ b := fun h => hl (by rw [h])
    simp [this]
theorem Equal_string_eq (a b : List (List UInt8)) (ha : a.length ≤ 1073741824) : slices_Equal_string a b = some (decide (a = b)) := Strings_eq a b ha

theorem ContainsFunc_Row_eq (l : List Row) (f : Row → Option Bool) (p : Row → Bool) (hf : ∀ x ∈ l, f x = some (p x)) (hl : l.length ≤ 1073741824) : slices_ContainsFunc_Row l f = some (l.any p) := by
  simp only [slices_ContainsFunc_Row, IndexFunc_Row_eq l f p hf hl, Option.bind_some]
  exact congrArg some (posI_any p l)

/-- the IDs of a table -/
def ids (t : Table) : List Int := t.Rows.map (·.ID)
def divA (t : Table) (cs : List (List Int)) : Bool := onceB [] cs && (decide (cs.flatten.length = t.Rows.length) && (ids t).all fun x => decide (x ∈ cs.flatten))
def divB (t : Table) (cs : List (List Int)) : Bool := onceB [] cs && (decide (cs.flatten.length = t.Rows.length) && cs.flatten.all fun x => decide (x ∈ ids t))
theorem divides_eq (t : Table) (cs : List (List Int)) (hr : t.Rows.length ≤ 1073741824) (hl : cs.length ≤ 1073741824) (hc : ∀ c ∈ cs, c.length ≤ 1073741824) : survivor_divides t cs = some (divA t cs) := by
  obtain ⟨m, h1, h2⟩ := disjoint_eq cs hl hc
  simp only [survivor_divides, h1, Option.bind_some, divA]
  by_cases h : onceB [] cs = true
  · obtain ⟨h3, h4⟩ := h2 h
    simp only [h, if_true, h4, Bool.true_and]
    by_cases h5 : cs.flatten.length = t.Rows.length
    · have e : ¬ (((cs.flatten.length : Int) != (t.Rows.length : Int)) = true) := by simp [h5]
      rw [if_neg e, ContainsFunc_Row_eq t.Rows (fun y => survivor_divides_1 y m) (fun y => !decide (y.ID ∈ cs.flatten)) (fun y _ => by
        simp only [survivor_divides_1, h3 y.ID]
        by_cases hy : y.ID ∈ cs.flatten <;> simp [hy]) hr]
      simp only [Option.bind_some, any_not_all, Bool.not_not, h5, decide_true, Bool.true_and, ids, List.all_map, Function.comp_def]
    · have e : (((cs.flatten.length : Int) != (t.Rows.length : Int)) = true) := by rw [bne_iff_ne]; omega
      rw [if_pos e]
      simp only [h5, decide_false, Bool.false_and, Bool.and_false]
  · simp only [Bool.not_eq_true] at h
    simp only [h, Bool.false_eq_true, if_false, Bool.false_and]
theorem findB_snd (t : Table) (id : Int) : (findB t id).2 = decide (id ∈ ids t) := by
  unfold findB ids
  cases h : t.Rows.findIdx? (fun r => r.ID == id) with
  | none =>
    rw [List.findIdx?_eq_none_iff] at h
    simp only [List.mem_map]
    symm
    rw [decide_eq_false_iff_not]
    rintro ⟨r, hr, he⟩
    have := h r hr
    simp [he] at this
  | some i =>
    have hi := findIdx_lt _ _ h
    symm
    rw [decide_eq_true_eq, List.mem_map]
    have hp : (fun r : Row => r.ID == id) (t.Rows[i]'hi) = true := by
      rw [List.findIdx?_eq_some_iff_getElem] at h
      exact h.2.1
    exact ⟨_, List.getElem_mem hi, by simpa using hp⟩
theorem findB_get (t : Table) (id : Int) (h : id ∈ ids t) : ∃ (i : Nat) (r : Row), findB t id = ((i : Int), true) ∧ t.Rows[i]? = some r ∧ r.ID = id := by
  have h2 := findB_snd t id
  simp only [h, decide_true] at h2
  unfold findB at h2 ⊢
  cases hf : t.Rows.findIdx? (fun r => r.ID == id) with
  | none => rw [hf] at h2; cases h2
  | some i =>
    have hi := findIdx_lt _ _ hf
    rw [List.findIdx?_eq_some_iff_getElem] at hf
    exact ⟨i, _, rfl, List.getElem?_eq_getElem hi, by simpa using hf.2.1⟩
theorem Of_loop (t : Table) (cs : List (List Int)) (hr : t.Rows.length ≤ 1073741824) (hl : cs.length ≤ 1048576) (hc : ∀ c ∈ cs, c.length ≤ 1048576) : ∀ (r : List (List Int)) (k n : Nat), cs.drop k = r → k ≤ cs.length → n ≤ k * 1048576 →
    LoopF (drossref55_Of_l4 t cs) ((n : Int), (k : Int)) = some (if r.flatten.all (fun x => decide (x ∈ ids t)) then .inl ((n + r.flatten.length : Nat) : Int) else .inr false) := by
  intro r
  induction r with
  | nil =>
    intro k n hd hk hn
    have hk' : k = cs.length := by
      have := congrArg List.length hd
      simp at this; omega
    subst hk'
    exact Loop_done (by simp [drossref55_Of_l4])
  | cons c r ih =>
    intro k n hd hk hn
    have hx : cs[k]? = some c := by
      have := congrArg (·[0]?) hd
      simpa [List.getElem?_drop] using this
    have hd' : cs.drop (k + 1) = r := by rw [← List.drop_drop, hd]; rfl
    have hlt := lt_of_get hx
    have hcl := hc c (List.mem_of_getElem? hx)
    have hin := LoopF_all c (drossref55_Of_l3 t cs k) (fun x => decide (x ∈ ids t)) false
      (fun j x hj hjk hp => by
        simp only [decide_eq_true_eq] at hp
        simp only [drossref55_Of_l3, idx_get hx, Option.bind_some, if_pos (lt_true hj), idx_get hj, ref_Find_eq t x hr, findB_snd, hp, decide_true, if_true, wrap_succ hjk (show c.length ≤ 4611686018427387904 by omega)])
      (fun j x hj hp => by
        simp only [decide_eq_false_iff_not] at hp
        simp only [drossref55_Of_l3, idx_get hx, Option.bind_some, if_pos (lt_true hj), idx_get hj, ref_Find_eq t x hr, findB_snd, hp, decide_false, Bool.false_eq_true, if_false])
      (by simp [drossref55_Of_l3, idx_get hx])
    by_cases ha : (c.all fun x => decide (x ∈ ids t)) = true
    · rw [if_pos ha] at hin
      have hw : IntKind.i64.wrap ((n : Int) + (c.length : Int)) = ((n + c.length : Nat) : Int) := by
        rw [wrap_i64 (by omega) (by omega)]; omega
      rw [Loop_next (s' := (((n + c.length : Nat) : Int), ((k + 1 : Nat) : Int))) (by simp only [drossref55_Of_l4, if_pos (lt_true hx), idx_get hx, Option.bind_some, hin, hw, wrap_succ hlt (show cs.length ≤ 4611686018427387904 by omega)]),
        ih (k + 1) (n + c.length) hd' hlt (by omega)]
      simp only [List.flatten_cons, List.all_append, ha, Bool.true_and, List.length_append, Nat.add_assoc]
    · rw [if_neg ha] at hin
      rw [Loop_done (t := .inr false) (by simp only [drossref55_Of_l4, if_pos (lt_true hx), idx_get hx, Option.bind_some, hin])]
      simp only [Bool.not_eq_true] at ha
      simp only [List.flatten_cons, List.all_append, ha, Bool.false_and, Bool.false_eq_true, if_false]
theorem Of_eq (t : Table) (cs : List (List Int)) (hr : t.Rows.length ≤ 1073741824) (hl : cs.length ≤ 1048576) (hc : ∀ c ∈ cs, c.length ≤ 1048576) : drossref55_Of t cs = some (divB t cs) := by
  have h := Of_loop t cs hr hl hc cs 0 0 rfl (Nat.zero_le _) (by omega)
  simp only [Int.natCast_zero, Nat.zero_add] at h
  simp only [drossref55_Of, once_eq cs hl hc, Option.bind_some, h, divB]
  cases onceB [] cs
  · rfl
  · simp only [if_true, Bool.true_and]
    cases cs.flatten.all (fun x => decide (x ∈ ids t))
    · simp
    · simp only [if_true, Bool.and_true]
      congr 1
      rw [Bool.eq_iff_iff, beq_iff_eq, decide_eq_true_eq]; omega

/-! ### the two ways of dividing agree for a table whose IDs ascend -/
theorem nodup_sub_len : ∀ {l l' : List Int}, l.Nodup → (∀ x ∈ l, x ∈ l') → l.length ≤ l'.length
  | [], l', _, _ => Nat.zero_le _
  | x :: r, l', hn, hs => by
    rw [List.nodup_cons] at hn
    have hx : x ∈ l' := hs x (by simp)
    have h := nodup_sub_len (l' := l'.erase x) hn.2 (fun y hy => by
      have hne : y ≠ x := fun e => hn.1 (e ▸ hy)
      rw [List.mem_erase_of_ne hne]
      exact hs y (by simp [hy]))
    rw [List.length_erase_of_mem hx] at h
    have : 0 < l'.length := List.length_pos_of_mem hx
    simp; omega
theorem nodup_swap {l l' : List Int} (h1 : l.Nodup) (h3 : l.length = l'.length) (hs : ∀ x ∈ l, x ∈ l') (x : Int) (hx : x ∈ l') : x ∈ l := by
  apply Classical.byContradiction
  intro hn
  have h := nodup_sub_len (l := x :: l) (l' := l') (List.nodup_cons.2 ⟨hn, h1⟩) (fun y hy => by
    rcases List.mem_cons.1 hy with e | e
    · subst e; exact hx
    · exact hs y e)
  simp at h; omega
theorem rowsCode_zero (n : Nat) : ∀ (l : List Row) (a : Int), rowsCode n a l = 0 → (∀ r ∈ l, a < r.ID ∧ r.Values.length = n) ∧ (l.map (·.ID)).Nodup
  | [], a, _ => ⟨fun r hr => by simp at hr, by simp⟩
  | r :: l, a, h => by
    simp only [rowsCode] at h
    by_cases h1 : r.ID ≤ a
    · rw [if_pos h1] at h; cases h
    · rw [if_neg h1] at h
      by_cases h2 : r.Values.length = n
      · rw [if_neg (by simp [h2])] at h
        by_cases h3 : r.Values.all valid = true
        · rw [if_pos h3] at h
          obtain ⟨h4, h5⟩ := rowsCode_zero n l r.ID h
          refine ⟨fun q hq => ?_, ?_⟩
          · rcases List.mem_cons.1 hq with e | e
            · subst e; exact ⟨by omega, h2⟩
            · have := h4 q e; exact ⟨by omega, this.2⟩
          · rw [List.map_cons, List.nodup_cons]
            refine ⟨fun hm => ?_, h5⟩
            obtain ⟨q, hq, he⟩ := List.mem_map.1 hm
            have := (h4 q hq).1
            omega
        · rw [if_neg h3] at h; cases h
      · rw [if_pos h2] at h; cases h
theorem tableErr_zero {t : Table} (h : tableErr t = 0) : (∀ r ∈ t.Rows, r.Values.length = t.Attrs.length) ∧ (ids t).Nodup := by
  unfold tableErr at h
  split at h
  · cases h
  · split at h
    · cases h
    · split at h
      · cases h
      · split at h
        · cases h
        · obtain ⟨h1, h2⟩ := rowsCode_zero _ _ _ h
          exact ⟨fun r hr => (h1 r hr).2, h2⟩
theorem asc_nodup {l : List Int} (h : ascB l = true) : l.Nodup := by
  rw [List.nodup_iff_pairwise_ne, List.pairwise_iff_getElem]
  intro i j hi hj hij
  have := asc_lt h i j hij (List.getElem?_eq_getElem hi) (List.getElem?_eq_getElem hj)
  omega
theorem once_nodup : ∀ {cs : List (List Int)} {all : List Int}, onceB all cs = true → cs.flatten.Nodup ∧ ∀ x ∈ cs.flatten, x ∉ all
  | [], all, _ => ⟨by simp, fun x hx => by simp at hx⟩
  | c :: cs, all, h => by
    simp only [onceB, Bool.and_eq_true, List.all_eq_true, Bool.not_eq_true', decide_eq_false_iff_not] at h
    obtain ⟨⟨h1, h2⟩, h3⟩ := h
    obtain ⟨h4, h5⟩ := once_nodup h3
    refine ⟨?_, fun x hx => ?_⟩
    · rw [List.flatten_cons, List.nodup_append]
      exact ⟨asc_nodup h1, h4, fun a ha b hb e => h5 b hb (by simp [← e, ha])⟩
    · rw [List.flatten_cons, List.mem_append] at hx
      rcases hx with e | e
      · exact h2 x e
      · exact fun hh => h5 x e (by simp [hh])
theorem once_apart : ∀ {cs : List (List Int)} {all : List Int}, onceB all cs = true → ∀ (i j : Nat) (a b : List Int) (x : Int), cs[i]? = some a → cs[j]? = some b → x ∈ a → x ∈ b → i = j
  | [], all, _, i, j, a, b, x, hi, _, _, _ => by simp at hi
  | c :: cs, all, h, i, j, a, b, x, hi, hj, ha, hb => by
    simp only [onceB, Bool.and_eq_true] at h
    obtain ⟨_, h3⟩ := h
    have h5 := (once_nodup h3).2
    cases i with
    | zero =>
      cases j with
      | zero => rfl
      | succ j =>
        simp at hi hj
        subst hi
        exact absurd (show x ∈ all ++ c by simp [ha]) (h5 x (List.mem_flatten.2 ⟨b, List.mem_of_getElem? hj, hb⟩))
    | succ i =>
      cases j with
      | zero =>
        simp at hi hj
        subst hj
        exact absurd (show x ∈ all ++ c by simp [hb]) (h5 x (List.mem_flatten.2 ⟨a, List.mem_of_getElem? hi, ha⟩))
      | succ j =>
        simp at hi hj
        rw [once_apart h3 i j a b x hi hj ha hb]
theorem div_same {t : Table} (h : tableErr t = 0) (cs : List (List Int)) : divA t cs = divB t cs := by
  obtain ⟨_, h2⟩ := tableErr_zero h
  unfold divA divB
  by_cases h1 : onceB [] cs = true
  · obtain ⟨h3, _⟩ := once_nodup h1
    by_cases h4 : cs.flatten.length = t.Rows.length
    · have h5 : (ids t).length = cs.flatten.length := by rw [h4]; simp [ids]
      simp only [h1, h4, decide_true, Bool.true_and]
      rw [Bool.eq_iff_iff, List.all_eq_true, List.all_eq_true]
      simp only [decide_eq_true_eq]
      exact ⟨fun hs x hx => nodup_swap h2 h5 hs x hx, fun hs x hx => nodup_swap h3 h5.symm hs x hx⟩
    · simp only [h4, decide_false, Bool.false_and, Bool.and_false]
  · simp only [Bool.not_eq_true] at h1
    simp only [h1, Bool.false_and]
end Go.Proofs.Ytdmddoljldjjeaa
/- Merging: both ways agree; what it gives. -/
set_option linter.unusedVariables false
set_option linter.unusedSimpArgs false
namespace Go.Proofs.Ytdmddoljldjjeaa
open Go Go.Ab
def rowV (t : Table) (i : Nat) : List Value := (t.Rows.getD i ⟨0, []⟩).Values
def valAt (t : Table) (i j : Nat) : Value := (rowV t i).getD j ⟨0, 0, []⟩
/-- the value that a table holds at an ID and a column -/
def atID (t : Table) (id : Int) (j : Nat) : Value := valAt t (findB t id).1.toNat j
def rowMer (t m : Table) (og : List Int) (k : Nat) : Bool := allFrom (fun j x => decide (atID t x j = valAt m k j)) 0 og
def mergesB (t : Table) (m : Merged) : Bool :=
  wfB m && (decide (t.Name = m.Table.Name) && (decide (t.Attrs = m.Table.Attrs) && (divA t m.Clusters && allFrom (fun k x => rowMer t m.Table x k) 0 m.Origins)))
theorem get_row {t : Table} {k : Nat} (h : k < t.Rows.length) : t.Rows[k]? = some (t.Rows.getD k ⟨0, []⟩) := by simp [List.getD, List.getElem?_eq_getElem h]
theorem get_val {t : Table} {k j : Nat} (h : j < (rowV t k).length) : (t.Rows.getD k ⟨0, []⟩).Values[j]? = some (valAt t k j) := by
  unfold valAt
  show (rowV t k)[j]? = _
  rw [List.getElem?_eq_getElem h, List.getD, List.getElem?_eq_getElem h]; rfl
theorem rowV_len {t : Table} (h : tableErr t = 0) {k : Nat} (hk : k < t.Rows.length) : (rowV t k).length = t.Attrs.length :=
  (tableErr_zero h).1 _ (List.mem_of_getElem? (get_row hk))
structure MF (t : Table) (m : Merged) : Prop where
  tv : tableErr t = 0
  mv : tableErr m.Table = 0
  ncl : m.Clusters.length = m.Table.Rows.length
  nor : m.Origins.length = m.Table.Rows.length
  once : onceB [] m.Clusters = true
  fits : ∀ (k : Nat) (r : Row), m.Table.Rows[k]? = some r → rowFits m k r = true
  attrs : t.Attrs = m.Table.Attrs
  ids : ∀ x, x ∈ ids t ↔ x ∈ m.Clusters.flatten
theorem mf_of {t : Table} {m : Merged} (ht : tableErr t = 0) (hw : wfB m = true) (ha : t.Attrs = m.Table.Attrs) (hd : divA t m.Clusters = true) : MF t m := by
  obtain ⟨h1, h2, h3, h4, h5⟩ := wf_facts hw
  refine ⟨ht, h1, h2, h3, h4, h5, ha, fun x => ?_⟩
  have hd' : divB t m.Clusters = true := by rw [← div_same ht]; exact hd
  simp only [divA, divB, Bool.and_eq_true, List.all_eq_true, decide_eq_true_eq] at hd hd'
  exact ⟨hd.2.2 x, hd'.2.2 x⟩
theorem og_len {t : Table} {m : Merged} (M : MF t m) {k : Nat} (hk : k < m.Table.Rows.length) : (og m k).length = m.Table.Attrs.length ∧ ∀ x ∈ og m k, x ∈ ids t := by
  have := M.fits k _ (get_row hk)
  simp only [rowFits, Bool.and_eq_true, List.all_eq_true, decide_eq_true_eq] at this
  refine ⟨this.2.1, fun x hx => (M.ids x).2 ?_⟩
  have hc := get_cl (m := m) (k := k) (by have := M.ncl; omega)
  exact List.mem_flatten.2 ⟨_, List.mem_of_getElem? hc, this.2.2 x hx⟩
theorem id_get {t : Table} (h : tableErr t = 0) {x : Int} (hx : x ∈ ids t) : ∃ i : Nat, (findB t x).1 = (i : Int) ∧ t.Rows[i]? = some (t.Rows.getD i ⟨0, []⟩) ∧ (rowV t i).length = t.Attrs.length ∧ ∀ j, atID t x j = valAt t i j := by
  obtain ⟨i, r, h1, h2, h3⟩ := findB_get t x hx
  have hi := lt_of_get h2
  exact ⟨i, by rw [h1], get_row hi, rowV_len h hi, fun j => by unfold atID; rw [h1]; rfl⟩

theorem merges_row {t : Table} {m : Merged} (M : MF t m) (H : MerOk m) (T : TabOk t) (k : Nat) (hk : k < m.Table.Rows.length) :
    LoopF (survivor_merges_l3 t m k (m.Table.Rows.getD k ⟨0, []⟩)) 0 = some (if rowMer t m.Table (og m k) k then .inl () else .inr false) ∧
    LoopF (drossref55_Merging_l3 t m k) 0 = some (if rowMer t m.Table (og m k) k then .inl () else .inr false) := by
  obtain ⟨ho1, ho2⟩ := og_len M hk
  have ho := get_og (m := m) (k := k) (by have := M.nor; omega)
  have hlen : (rowV m.Table k).length = (og m k).length := by rw [rowV_len M.mv hk, ho1]
  have hL := H.lor _ (List.mem_of_getElem? ho)
  have hA := M.attrs
  have hrl : (m.Table.Rows.getD k ⟨0, []⟩).Values.length = (og m k).length := hlen
  refine ⟨?_, ?_⟩
  · have h := LoopF_allk (og m k) (survivor_merges_l3 t m k (m.Table.Rows.getD k ⟨0, []⟩)) (fun j x => decide (atID t x j = valAt m.Table k j)) false
      (fun j x hj hjk hp => by
        obtain ⟨i, e1, e2, e3, e4⟩ := id_get M.tv (ho2 x (List.mem_of_getElem? hj))
        simp only [decide_eq_true_eq] at hp
        have g1 := get_val (t := m.Table) (k := k) (j := j) (by omega)
        have g2 := get_val (t := t) (k := i) (j := j) (by rw [e3, hA, ← ho1]; exact hjk)
        rw [← e4 j] at g2
        have hv : ((atID t x j).Kind == (valAt m.Table k j).Kind && ((atID t x j).Num == (valAt m.Table k j).Num && (atID t x j).Str == (valAt m.Table k j).Str)) = true := (veq_iff _ _).2 hp
        have hlt : (j : Int) < (((m.Table.Rows.getD k ⟨0, []⟩).Values.length : Nat) : Int) := by omega
        simp only [survivor_merges_l3, if_pos hlt, idx_get g1, idx_get ho, idx_get hj, Option.bind_some, table_Find_eq t x T.rows, e1, idx_get e2, idx_get g2, if_pos hv, wrap_succ hjk (show (og m k).length ≤ 4611686018427387904 by omega)])
      (fun j x hj hp => by
        obtain ⟨i, e1, e2, e3, e4⟩ := id_get M.tv (ho2 x (List.mem_of_getElem? hj))
        have hjk := lt_of_get hj
        simp only [decide_eq_false_iff_not] at hp
        have g1 := get_val (t := m.Table) (k := k) (j := j) (by omega)
        have g2 := get_val (t := t) (k := i) (j := j) (by rw [e3, hA, ← ho1]; exact hjk)
        rw [← e4 j] at g2
        have hv : ¬ (((atID t x j).Kind == (valAt m.Table k j).Kind && ((atID t x j).Num == (valAt m.Table k j).Num && (atID t x j).Str == (valAt m.Table k j).Str)) = true) := fun e => hp ((veq_iff _ _).1 e)
        have hlt : (j : Int) < (((m.Table.Rows.getD k ⟨0, []⟩).Values.length : Nat) : Int) := by omega
        simp only [survivor_merges_l3, if_pos hlt, idx_get g1, idx_get ho, idx_get hj, Option.bind_some, table_Find_eq t x T.rows, e1, idx_get e2, idx_get g2, if_neg hv])
      (by
        have : ¬ (((og m k).length : Int) < (((m.Table.Rows.getD k ⟨0, []⟩).Values.length : Nat) : Int)) := by omega
        simp only [survivor_merges_l3, if_neg this]) (og m k) 0 rfl (Nat.zero_le _)
    simp only [Int.natCast_zero] at h
    exact h
  · have h := LoopF_allk (og m k) (drossref55_Merging_l3 t m k) (fun j x => decide (atID t x j = valAt m.Table k j)) false
      (fun j x hj hjk hp => by
        obtain ⟨i, e1, e2, e3, e4⟩ := id_get M.tv (ho2 x (List.mem_of_getElem? hj))
        simp only [decide_eq_true_eq] at hp
        have g1 := get_val (t := m.Table) (k := k) (j := j) (by omega)
        have g2 := get_val (t := t) (k := i) (j := j) (by rw [e3, hA, ← ho1]; exact hjk)
        rw [← e4 j] at g2
        have hs := T.short _ (List.mem_of_getElem? e2) _ (List.mem_of_getElem? g2)
        have hv : ¬ ((vcmp (atID t x j) (valAt m.Table k j) != 0) = true) := by rw [hp]; simp [(vcmp_eq _ _).2 rfl]
        simp only [drossref55_Merging_l3, if_pos (lt_true hj), idx_get g1, idx_get ho, idx_get hj, Option.bind_some, ref_Find_eq t x T.rows, e1, idx_get e2, idx_get g2, idx_get (get_row hk), ref_Compare_eq _ _ hs, if_neg hv, wrap_succ hjk (show (og m k).length ≤ 4611686018427387904 by omega)])
      (fun j x hj hp => by
        obtain ⟨i, e1, e2, e3, e4⟩ := id_get M.tv (ho2 x (List.mem_of_getElem? hj))
        have hjk := lt_of_get hj
        simp only [decide_eq_false_iff_not] at hp
        have g1 := get_val (t := m.Table) (k := k) (j := j) (by omega)
        have g2 := get_val (t := t) (k := i) (j := j) (by rw [e3, hA, ← ho1]; exact hjk)
        rw [← e4 j] at g2
        have hs := T.short _ (List.mem_of_getElem? e2) _ (List.mem_of_getElem? g2)
        have hv : ((vcmp (atID t x j) (valAt m.Table k j) != 0) = true) := by rw [bne_iff_ne]; exact fun e => hp ((vcmp_eq _ _).1 e)
        simp only [drossref55_Merging_l3, if_pos (lt_true hj), idx_get g1, idx_get ho, idx_get hj, Option.bind_some, ref_Find_eq t x T.rows, e1, idx_get e2, idx_get g2, idx_get (get_row hk), ref_Compare_eq _ _ hs, if_pos hv])
      (by simp [drossref55_Merging_l3, idx_get ho]) (og m k) 0 rfl (Nat.zero_le _)
    simp only [Int.natCast_zero] at h
    exact h
theorem get_og' {m : Merged} {k : Nat} {x : List Int} (h : m.Origins[k]? = some x) : x = og m k := by
  have := get_og (lt_of_get h)
  rw [h] at this
  exact Option.some.inj this
theorem merges_eq (t : Table) (m : Merged) (ht : tableErr t = 0) (H : MerOk m) (T : TabOk t) (hat : t.Attrs.length ≤ 1073741824) :
    survivor_merges t m = some (mergesB t m) ∧ drossref55_Merging t m = some (mergesB t m) := by
  have hat' : m.Table.Attrs.length ≤ 1073741824 := by have := H.nattrs; omega
  have hdl : ∀ c ∈ m.Clusters, c.length ≤ 1073741824 := fun c hc => by have := H.lcl c hc; omega
  have hnc := H.ncl
  simp only [survivor_merges, drossref55_Merging, wellFormed_eq m H, WellFormed_eq m H, Option.bind_some, mergesB, Equal_string_eq _ _ hat, Strings_eq _ _ hat', divides_eq t m.Clusters T.rows (by omega) hdl, Of_eq t m.Clusters T.rows hnc H.lcl, ← div_same ht]
  by_cases h1 : wfB m = true
  · by_cases h2 : t.Name = m.Table.Name
    · by_cases h3 : t.Attrs = m.Table.Attrs
      · by_cases h4 : divA t m.Clusters = true
        · have M := mf_of ht h1 h3 h4
          have ha := LoopF_allk m.Origins (survivor_merges_l4 t m) (fun k x => rowMer t m.Table x k) false
            (fun k x hx hk hp => by
              have hk' : k < m.Table.Rows.length := by have := M.nor; omega
              obtain ⟨e1, e2⟩ := merges_row M H T k hk'
              obtain rfl := get_og' hx
              rw [if_pos hp] at e1
              have hlt : (k : Int) < (m.Table.Rows.length : Int) := by omega
              simp only [survivor_merges_l4, if_pos hlt, idx_get (get_row hk'), Option.bind_some, e1, wrap_succ hk (show m.Origins.length ≤ 4611686018427387904 by have := H.nor; omega)])
            (fun k x hx hp => by
              have hk := lt_of_get hx
              have hk' : k < m.Table.Rows.length := by have := M.nor; omega
              obtain ⟨e1, e2⟩ := merges_row M H T k hk'
              obtain rfl := get_og' hx
              rw [if_neg (by rw [hp]; simp)] at e1
              have hlt : (k : Int) < (m.Table.Rows.length : Int) := by omega
              simp only [survivor_merges_l4, if_pos hlt, idx_get (get_row hk'), Option.bind_some, e1])
            (by
              have : ¬ ((m.Origins.length : Int) < (m.Table.Rows.length : Int)) := by have := M.nor; omega
              simp only [survivor_merges_l4, if_neg this]) m.Origins 0 rfl (Nat.zero_le _)
          have hb := LoopF_allk m.Origins (drossref55_Merging_l4 t m) (fun k x => rowMer t m.Table x k) false
            (fun k x hx hk hp => by
              have hk' : k < m.Table.Rows.length := by have := M.nor; omega
              obtain ⟨e1, e2⟩ := merges_row M H T k hk'
              obtain rfl := get_og' hx
              rw [if_pos hp] at e2
              simp only [drossref55_Merging_l4, if_pos (lt_true hx), Option.bind_some, e2, wrap_succ hk (show m.Origins.length ≤ 4611686018427387904 by have := H.nor; omega)])
            (fun k x hx hp => by
              have hk := lt_of_get hx
              have hk' : k < m.Table.Rows.length := by have := M.nor; omega
              obtain ⟨e1, e2⟩ := merges_row M H T k hk'
              obtain rfl := get_og' hx
              rw [if_neg (by rw [hp]; simp)] at e2
              simp only [drossref55_Merging_l4, if_pos (lt_true hx), Option.bind_some, e2])
            (by simp [drossref55_Merging_l4]) m.Origins 0 rfl (Nat.zero_le _)
          simp only [Int.natCast_zero] at ha hb
          have e2 : (t.Name == m.Table.Name) = true := by simp [h2]
          have e2' : (m.Table.Name == t.Name) = true := by simp [h2]
          have e3' : m.Table.Attrs = t.Attrs := h3.symm
          have d3 : decide (m.Table.Attrs = t.Attrs) = true := by simp [h3]
          have d4 : decide (t.Attrs = m.Table.Attrs) = true := by simp [h3]
          have d5 : decide (t.Name = m.Table.Name) = true := by simp [h2]
          simp only [h1, h4, e2, e2', if_true, d3, d4, d5, Bool.true_and, ha, hb, Option.bind_some]
          cases allFrom (fun k x => rowMer t m.Table x k) 0 m.Origins <;> exact ⟨rfl, rfl⟩
        · simp only [Bool.not_eq_true] at h4
          simp [h1, h2, h3, h4]
      · have h3' : ¬ m.Table.Attrs = t.Attrs := fun e => h3 e.symm
        simp [h1, h2, h3, h3']
    · have h2' : ¬ m.Table.Name = t.Name := fun e => h2 e.symm
      simp [h1, h2, h2']
  · simp only [Bool.not_eq_true] at h1
    simp [h1]
end Go.Proofs.Ytdmddoljldjjeaa
/- The cells that a merging loses. -/
set_option linter.unusedVariables false
set_option linter.unusedSimpArgs false
namespace Go.Proofs.Ytdmddoljldjjeaa
open Go Go.Ab
/-- the lost cells of a row: those that hold a value other than the merged row -/
def cellsOf (mr : List Value) (id : Int) : Nat → List Value → List CellRef
  | _, [] => []
  | k, v :: l => (if v.Kind ≠ 0 ∧ v ≠ mr.getD k ⟨0, 0, []⟩ then [⟨id, (k : Int)⟩] else []) ++ cellsOf mr id (k + 1) l
theorem cellsOf_len (mr : List Value) (id : Int) : ∀ (l : List Value) (k : Nat), (cellsOf mr id k l).length ≤ l.length
  | [], k => Nat.le_refl _
  | v :: l, k => by
    simp only [cellsOf, List.length_append, List.length_cons]
    have := cellsOf_len mr id l (k + 1)
    split <;> simp <;> omega
def clIdx (m : Merged) (id : Int) : Nat := (m.Clusters.findIdx? (fun c => decide (id ∈ c))).getD 0
theorem clIdx_of {m : Merged} {id : Int} (h : id ∈ m.Clusters.flatten) : clIdx m id < m.Clusters.length ∧ id ∈ cl m (clIdx m id) := by
  obtain ⟨c, hc, hi⟩ := List.mem_flatten.1 h
  unfold clIdx
  cases hf : m.Clusters.findIdx? (fun c => decide (id ∈ c)) with
  | none =>
    rw [List.findIdx?_eq_none_iff] at hf
    have := hf c hc
    simp [hi] at this
  | some i =>
    have hlt := findIdx_lt _ _ hf
    rw [List.findIdx?_eq_some_iff_getElem] at hf
    have h2 := hf.2.1
    simp only [decide_eq_true_eq] at h2
    refine ⟨hlt, ?_⟩
    have := get_cl hlt
    rw [List.getElem?_eq_getElem hlt, Option.some.injEq] at this
    simp only [Option.getD_some]
    rw [← this]; exact h2
theorem cl_uniq {m : Merged} (h : onceB [] m.Clusters = true) {id : Int} {i j : Nat} (hi : i < m.Clusters.length) (hj : j < m.Clusters.length) (h1 : id ∈ cl m i) (h2 : id ∈ cl m j) : i = j :=
  once_apart h i j _ _ id (get_cl hi) (get_cl hj) h1 h2

/-! ### the map from IDs to clusters -/
theorem at_inner (m : Merged) (i : Nat) (c : List Int) (hl : c.length ≤ 1073741824) : ∀ (r : List Int) (k : Nat) (a : List (Int × Int)), c.drop k = r → k ≤ c.length →
    ∃ a', LoopF (survivor_Lost_l3 i c) (a, (k : Int)) = some a' ∧ (∀ x, x ∈ r → mget a' x = some (i : Int)) ∧ (∀ x, mget a x = some (i : Int) → mget a' x = some (i : Int)) ∧ (∀ x, x ∉ r → mget a' x = mget a x) := by
  intro r
  induction r with
  | nil =>
    intro k a hd hk
    have hk' : k = c.length := by
      have := congrArg List.length hd
      simp at this; omega
    subst hk'
    exact ⟨a, Loop_done (by simp [survivor_Lost_l3]), fun x hx => (by simp at hx), fun x h => h, fun x _ => rfl⟩
  | cons x r ih =>
    intro k a hd hk
    have hx : c[k]? = some x := by
      have := congrArg (·[0]?) hd
      simpa [List.getElem?_drop] using this
    have hd' : c.drop (k + 1) = r := by rw [← List.drop_drop, hd]; rfl
    have hlt := lt_of_get hx
    obtain ⟨a', h1, h2, h3, h4⟩ := ih (k + 1) (mset a x (i : Int)) hd' hlt
    refine ⟨a', ?_, fun y hy => ?_, fun y hy => ?_, fun y hy => ?_⟩
    · rw [Loop_next (s' := (mset a x (i : Int), ((k + 1 : Nat) : Int))) (by simp only [survivor_Lost_l3, if_pos (lt_true hx), idx_get hx, Option.bind_some, wrap_succ hlt (show c.length ≤ 4611686018427387904 by omega)])]
      exact h1
    · rcases List.mem_cons.1 hy with e | e
      · subst e
        exact h3 y (by rw [mget_mset]; simp)
      · exact h2 y e
    · refine h3 y ?_
      rw [mget_mset]
      split
      · rfl
      · exact hy
    · simp only [List.mem_cons, not_or] at hy
      rw [h4 y hy.2, mget_mset, if_neg hy.1]
theorem at_outer (m : Merged) (hl : m.Clusters.length ≤ 1048576) (hc : ∀ c ∈ m.Clusters, c.length ≤ 1048576) (ho : onceB [] m.Clusters = true) : ∀ (n k : Nat) (a : List (Int × Int)), n = m.Clusters.length - k → k ≤ m.Clusters.length → (∀ i x, i < k → x ∈ cl m i → mget a x = some (i : Int)) →
    ∃ a', LoopF (survivor_Lost_l4 m) (a, (k : Int)) = some a' ∧ (∀ i x, i < m.Clusters.length → x ∈ cl m i → mget a' x = some (i : Int)) := by
  intro n
  induction n with
  | zero =>
    intro k a hn hk hi
    have hk' : k = m.Clusters.length := by omega
    subst hk'
    exact ⟨a, Loop_done (by simp [survivor_Lost_l4]), hi⟩
  | succ n ih =>
    intro k a hn hk hi
    have hlt : k < m.Clusters.length := by omega
    have hx := get_cl hlt
    have hcl := hc _ (List.mem_of_getElem? hx)
    obtain ⟨a', h1, h2, h3, h4⟩ := at_inner m k (cl m k) (by omega) (cl m k) 0 a rfl (Nat.zero_le _)
    simp only [Int.natCast_zero] at h1
    obtain ⟨a'', h5, h6⟩ := ih (k + 1) a' (by omega) hlt (fun i x hik hxi => by
      by_cases e : i = k
      · subst e; exact h2 x hxi
      · rw [h4 x (fun hh => e (cl_uniq ho (by omega) hlt hxi hh))]
        exact hi i x (by omega) hxi)
    refine ⟨a'', ?_, h6⟩
    rw [Loop_next (s' := (a', ((k + 1 : Nat) : Int))) (by simp only [survivor_Lost_l4, if_pos (lt_true hx), idx_get hx, Option.bind_some, h1, wrap_succ hlt (show m.Clusters.length ≤ 4611686018427387904 by omega)])]
    exact h5

/-! ### the cells of one row -/
theorem cells_loop {B : List CellRef × Int → Option (LS (List CellRef × Int) (List CellRef))} (vs mr : List Value) (id : Int)
    (hB : ∀ (k : Nat) (out : List CellRef) v, vs[k]? = some v → out.length ≤ 1000000 → B (out, (k : Int)) = some (.next (if v.Kind ≠ 0 ∧ v ≠ mr.getD k ⟨0, 0, []⟩ then out ++ [⟨id, (k : Int)⟩] else out, ((k + 1 : Nat) : Int))))
    (hE : ∀ out, B (out, (vs.length : Int)) = some (.done out)) : ∀ (r : List Value) (k : Nat) (out : List CellRef), vs.drop k = r → k ≤ vs.length → out.length + r.length ≤ 1000000 → LoopF B (out, (k : Int)) = some (out ++ cellsOf mr id k r) := by
  intro r
  induction r with
  | nil =>
    intro k out hd hk ho
    have hk' : k = vs.length := by
      have := congrArg List.length hd
      simp at this; omega
    subst hk'
    rw [Loop_done (hE out)]
    simp [cellsOf]
  | cons v r ih =>
    intro k out hd hk ho
    have hx : vs[k]? = some v := by
      have := congrArg (·[0]?) hd
      simpa [List.getElem?_drop] using this
    have hd' : vs.drop (k + 1) = r := by rw [← List.drop_drop, hd]; rfl
    have hlt := lt_of_get hx
    simp only [List.length_cons] at ho
    rw [Loop_next (hB k out v hx (by omega)), ih (k + 1) _ hd' hlt (by split <;> (try simp) <;> omega)]
    simp only [cellsOf]
    split <;> simp
theorem lost_row {t : Table} {m : Merged} (M : MF t m) (T : TabOk t) (at' : List (Int × Int)) (hat : ∀ i x, i < m.Clusters.length → x ∈ cl m i → mget at' x = some (i : Int)) (k : Nat) (hk : k < t.Rows.length) (hna : t.Attrs.length ≤ 20)
    (c : Nat) (hc : c < m.Clusters.length) (hcl : (t.Rows.getD k ⟨0, []⟩).ID ∈ cl m c) (out : List CellRef) (ho : out.length ≤ 900000) :
    LoopF (survivor_Lost_l7 m at' (t.Rows.getD k ⟨0, []⟩)) (out, 0) = some (out ++ cellsOf (rowV m.Table c) (t.Rows.getD k ⟨0, []⟩).ID 0 (rowV t k)) ∧
    LoopF (drossref55_Lost_l11 t m k c) (out, 0) = some (out ++ cellsOf (rowV m.Table c) (t.Rows.getD k ⟨0, []⟩).ID 0 (rowV t k)) := by
  have hkl := rowV_len M.tv hk
  have hcr : c < m.Table.Rows.length := by have := M.ncl; omega
  have hcv := rowV_len M.mv hcr
  have hA := M.attrs
  have hg : (mget at' (t.Rows.getD k ⟨0, []⟩).ID).getD 0 = (c : Int) := by rw [hat c _ hc hcl]; rfl
  have hval : ∀ (j : Nat) v, (rowV t k)[j]? = some v → (m.Table.Rows.getD c ⟨0, []⟩).Values[j]? = some ((rowV m.Table c).getD j ⟨0, 0, []⟩) := fun j v hj => get_val (by have := lt_of_get hj; rw [hcv, ← hA, ← hkl]; exact this)
  have hbool : ∀ a b : Value, (!(a.Kind == b.Kind && (a.Num == b.Num && a.Str == b.Str))) = decide (a ≠ b) := fun a b => by
    have := veq_eq a b
    unfold veq at this
    rw [this]; simp
  refine ⟨?_, ?_⟩
  · have h := cells_loop (B := survivor_Lost_l7 m at' (t.Rows.getD k ⟨0, []⟩)) (rowV t k) (rowV m.Table c) (t.Rows.getD k ⟨0, []⟩).ID
      (fun j o v hj hol => by
        have hlt := lt_of_get hj
        have hw := wrap_succ hlt (show (rowV t k).length ≤ 4611686018427387904 by omega)
        have hj' : (t.Rows.getD k ⟨0, []⟩).Values[j]? = some v := hj
        have hroom : roomB (o.length + 1) 16 = true := room_le (by omega) (by omega)
        have hlt' : (j : Int) < (((t.Rows.getD k ⟨0, []⟩).Values.length : Nat) : Int) := lt_true hj'
        simp only [survivor_Lost_l7, if_pos hlt', idx_get hj', Option.bind_some, hg, idx_get (get_row hcr), idx_get (hval j v hj), hbool, hroom, if_true, hw]
        by_cases e1 : v.Kind = 0
        · have : ¬ ((v.Kind != 0) = true) := by simp [e1]
          rw [if_neg this]
          simp [e1]
        · have : ((v.Kind != 0) = true) := by simp [e1]
          rw [if_pos this]
          by_cases e2 : v = (rowV m.Table c).getD j ⟨0, 0, []⟩
          · simp only [← e2]; simp
          · simp only [Option.bind_some, e2, ne_eq, not_false_eq_true, decide_true, if_true, e1, and_self])
      (fun o => by
        have : ¬ (((rowV t k).length : Int) < (((t.Rows.getD k ⟨0, []⟩).Values.length : Nat) : Int)) := by unfold rowV; omega
        simp only [survivor_Lost_l7, if_neg this]) (rowV t k) 0 out rfl (Nat.zero_le _) (by omega)
    simp only [Int.natCast_zero] at h
    exact h
  · have h := cells_loop (B := drossref55_Lost_l11 t m k c) (rowV t k) (rowV m.Table c) (t.Rows.getD k ⟨0, []⟩).ID
      (fun j o v hj hol => by
        have hlt := lt_of_get hj
        have hw := wrap_succ hlt (show (rowV t k).length ≤ 4611686018427387904 by omega)
        have hj' : (t.Rows.getD k ⟨0, []⟩).Values[j]? = some v := hj
        have hs := T.short _ (List.mem_of_getElem? (get_row hk)) _ (List.mem_of_getElem? hj')
        have hroom : roomB (o.length + 1) 16 = true := room_le (by omega) (by omega)
        have hlt' : (j : Int) < (t.Attrs.length : Int) := by omega
        have hbc : ∀ b : Value, (vcmp v b != 0) = decide (v ≠ b) := fun b => by
          rw [Bool.eq_iff_iff, bne_iff_ne, decide_eq_true_eq, ne_eq, vcmp_eq]
        simp only [drossref55_Lost_l11, if_pos hlt', idx_get hj', Option.bind_some, idx_get (get_row hk), idx_get (get_row hcr), idx_get (hval j v hj), ref_Compare_eq _ _ hs, hbc, hroom, if_true, hw]
        by_cases e1 : v.Kind = 0
        · have : ¬ ((v.Kind != 0) = true) := by simp [e1]
          rw [if_neg this]
          simp [e1]
        · have : ((v.Kind != 0) = true) := by simp [e1]
          rw [if_pos this]
          by_cases e2 : v = (rowV m.Table c).getD j ⟨0, 0, []⟩
          · simp only [← e2]; simp
          · simp only [Option.bind_some, e2, ne_eq, not_false_eq_true, decide_true, if_true, e1, and_self])
      (fun o => by
        have : ¬ (((rowV t k).length : Int) < (t.Attrs.length : Int)) := by omega
        simp only [drossref55_Lost_l11, if_neg this]) (rowV t k) 0 out rfl (Nat.zero_le _) (by omega)
    simp only [Int.natCast_zero] at h
    exact h
/-- the reference walks all clusters: one holds the row -/
theorem ref_row {t : Table} {m : Merged} (M : MF t m) (T : TabOk t) (hnc : m.Clusters.length ≤ 1048576) (hlc : ∀ c ∈ m.Clusters, c.length ≤ 1048576) (k : Nat) (hk : k < t.Rows.length) (hna : t.Attrs.length ≤ 20)
    (c0 : Nat) (hc0 : c0 < m.Clusters.length) (hcl : (t.Rows.getD k ⟨0, []⟩).ID ∈ cl m c0) (out : List CellRef) (ho : out.length ≤ 900000) : ∀ (n k' : Nat), n = m.Clusters.length - k' → k' ≤ m.Clusters.length → ∀ o, (o = if k' ≤ c0 then out else out ++ cellsOf (rowV m.Table c0) (t.Rows.getD k ⟨0, []⟩).ID 0 (rowV t k)) →
    LoopF (drossref55_Lost_l12 t m k) (o, (k' : Int)) = some (out ++ cellsOf (rowV m.Table c0) (t.Rows.getD k ⟨0, []⟩).ID 0 (rowV t k)) := by
  intro n
  induction n with
  | zero =>
    intro k' hn hk' o hoo
    have e : k' = m.Clusters.length := by omega
    subst e
    rw [if_neg (by omega)] at hoo
    subst hoo
    exact Loop_done (by simp [drossref55_Lost_l12])
  | succ n ih =>
    intro k' hn hk' o hoo
    have hlt : k' < m.Clusters.length := by omega
    have hx := get_cl hlt
    have hcl' := hlc _ (List.mem_of_getElem? hx)
    have hw := wrap_succ hlt (show m.Clusters.length ≤ 4611686018427387904 by omega)
    have hat : ∃ a : List (Int × Int), ∀ i x, i < m.Clusters.length → x ∈ cl m i → mget a x = some (i : Int) := by
      obtain ⟨a, _, h⟩ := at_outer m hnc hlc M.once _ 0 [] rfl (Nat.zero_le _) (fun i x h => absurd h (Nat.not_lt_zero _))
      exact ⟨a, h⟩
    obtain ⟨a, hat⟩ := hat
    by_cases e : k' = c0
    · subst e
      rw [if_pos (Nat.le_refl _)] at hoo
      subst hoo
      rw [Loop_next (s' := (o ++ cellsOf (rowV m.Table k') (t.Rows.getD k ⟨0, []⟩).ID 0 (rowV t k), ((k' + 1 : Nat) : Int))) (by
        simp only [drossref55_Lost_l12, if_pos (lt_true hx), idx_get hx, idx_get (get_row hk), Option.bind_some, Has_eq _ _ (show (cl m k').length ≤ 4611686018427387904 by omega), hcl, decide_true, if_true, (lost_row M T a hat k hk hna k' hlt hcl o ho).2, hw])]
      exact ih (k' + 1) (by omega) hlt _ (by rw [if_neg (by omega)])
    · have hnm : (t.Rows.getD k ⟨0, []⟩).ID ∉ cl m k' := fun hh => e (cl_uniq M.once hlt hc0 hh hcl)
      rw [Loop_next (s' := (o, ((k' + 1 : Nat) : Int))) (by
        simp only [drossref55_Lost_l12, if_pos (lt_true hx), idx_get hx, idx_get (get_row hk), Option.bind_some, Has_eq _ _ (show (cl m k').length ≤ 4611686018427387904 by omega), hnm, decide_false, Bool.false_eq_true, if_false, hw])]
      refine ih (k' + 1) (by omega) hlt o ?_
      rw [hoo]
      by_cases h1 : k' ≤ c0
      · rw [if_pos h1, if_pos (by omega)]
      · rw [if_neg h1, if_neg (by omega)]

/-! ### all rows -/
def lostCells (t m : Table) (M : Merged) : List Row → List CellRef
  | [] => []
  | r :: l => cellsOf (rowV M.Table (clIdx M r.ID)) r.ID 0 r.Values ++ lostCells t m M l
theorem rows_cells {B : List CellRef × Int → Option (LS (List CellRef × Int) (List CellRef))} (t : Table) (m : Merged) (hn : t.Rows.length ≤ 8) (hna : t.Attrs.length ≤ 20) (hv : tableErr t = 0)
    (hB : ∀ (k : Nat) (out : List CellRef) r, t.Rows[k]? = some r → out.length ≤ 900000 → B (out, (k : Int)) = some (.next (out ++ cellsOf (rowV m.Table (clIdx m r.ID)) r.ID 0 r.Values, ((k + 1 : Nat) : Int))))
    (hE : ∀ out, B (out, (t.Rows.length : Int)) = some (.done out)) : ∀ (r : List Row) (k : Nat) (out : List CellRef), t.Rows.drop k = r → k ≤ t.Rows.length → out.length ≤ k * 20 → ∃ o, LoopF B (out, (k : Int)) = some o ∧ o = out ++ lostCells t t m r ∧ o.length ≤ 160 := by
  intro r
  induction r with
  | nil =>
    intro k out hd hk ho
    have hk' : k = t.Rows.length := by
      have := congrArg List.length hd
      simp at this; omega
    subst hk'
    exact ⟨out, Loop_done (hE out), by simp [lostCells], by omega⟩
  | cons x r ih =>
    intro k out hd hk ho
    have hx : t.Rows[k]? = some x := by
      have := congrArg (·[0]?) hd
      simpa [List.getElem?_drop] using this
    have hd' : t.Rows.drop (k + 1) = r := by rw [← List.drop_drop, hd]; rfl
    have hlt := lt_of_get hx
    have hlen := cellsOf_len (rowV m.Table (clIdx m x.ID)) x.ID x.Values 0
    have hxl := (tableErr_zero hv).1 x (List.mem_of_getElem? hx)
    obtain ⟨o, h1, h2, h3⟩ := ih (k + 1) (out ++ cellsOf (rowV m.Table (clIdx m x.ID)) x.ID 0 x.Values) hd' hlt (by simp; omega)
    refine ⟨o, by rw [Loop_next (hB k out x hx (by omega))]; exact h1, ?_, h3⟩
    rw [h2]; simp [lostCells]
theorem Cells_refl (a : List CellRef) (ha : a.length ≤ 1073741824) : drossref55_Cells a a = some true := by
  have h := LoopF_allk a (drossref55_Cells_l1 a a) (fun _ _ => true) false
    (fun k x hx hk _ => by
      simp only [drossref55_Cells_l1, if_pos (lt_true hx), idx_get hx, Option.bind_some, beq_self_eq_true, Bool.and_self, if_true, wrap_succ hk (show a.length ≤ 4611686018427387904 by omega)])
    (fun k x hx hp => by cases hp) (by simp [drossref55_Cells_l1]) a 0 rfl (Nat.zero_le _)
  have e : ∀ (l : List CellRef) (k : Nat), allFrom (fun _ _ => true) k l = true := fun l k => by rw [allFrom_iff]; intros; rfl
  simp only [Int.natCast_zero, e, if_true] at h
  simp only [drossref55_Cells, bne_self_eq_false, Bool.false_eq_true, if_false, h, Option.bind_some]
end Go.Proofs.Ytdmddoljldjjeaa
/- SurvivorLost answers true. -/
set_option linter.unusedVariables false
set_option linter.unusedSimpArgs false
namespace Go.Proofs.Ytdmddoljldjjeaa
open Go Go.Ab
theorem row_getD {t : Table} {k : Nat} {r : Row} (h : t.Rows[k]? = some r) : t.Rows.getD k ⟨0, []⟩ = r := by simp [List.getD, h]
theorem SurvivorLost_holds (t : Table) (m : Merged) (h : okTable t) (hm : okMerged m) : drosslaw55_SurvivorLost t m = some true := by
  have H := merOk_of hm
  have T := tabOk_of h
  have hat : t.Attrs.length ≤ 1073741824 := T.attrs
  simp only [drosslaw55_SurvivorLost, awake_true, few_eq, brief_eq, Option.bind_some, if_true]
  by_cases hf : (decide (t.Rows.length ≤ 8) && decide (t.Attrs.length ≤ 20)) = true
  · by_cases hb : briefB m = true
    · rw [hf, hb]
      simp only [if_true, Option.bind_some, Bool.not_true, Bool.false_eq_true, if_false, survivor_Lost, drossref55_Lost, table_Valid_table t T, ref_Valid_table t T]
      by_cases hv : tableErr t = 0
      · obtain ⟨e1, e2⟩ := merges_eq t m hv H T hat
        simp only [hv, bne_self_eq_false, Bool.false_eq_true, if_false, e1, e2, Option.bind_some]
        by_cases hmm : mergesB t m = true
        · simp only [Bool.and_eq_true, decide_eq_true_eq] at hf
          have hmm' := hmm
          simp only [mergesB, Bool.and_eq_true, decide_eq_true_eq] at hmm'
          have M := mf_of hv hmm'.1 hmm'.2.2.1 hmm'.2.2.2.1
          obtain ⟨a, ha1, ha2⟩ := at_outer m H.ncl H.lcl M.once _ 0 [] rfl (Nat.zero_le _) (fun i x h => absurd h (Nat.not_lt_zero _))
          simp only [Int.natCast_zero] at ha1
          have hidx : ∀ (k : Nat) r, t.Rows[k]? = some r → clIdx m r.ID < m.Clusters.length ∧ r.ID ∈ cl m (clIdx m r.ID) := fun k r hr =>
            clIdx_of ((M.ids r.ID).1 (List.mem_map.2 ⟨r, List.mem_of_getElem? hr, rfl⟩))
          obtain ⟨o1, h1, h2, h3⟩ := rows_cells (B := survivor_Lost_l8 t m a) t m hf.1 hf.2 hv (fun k out r hr ho => by
            have hk := lt_of_get hr
            obtain ⟨g1, g2⟩ := hidx k r hr
            have hrow := (lost_row M T a ha2 k hk hf.2 (clIdx m r.ID) g1 (by rw [row_getD hr]; exact g2) out ho).1
            unfold rowV at hrow
            rw [row_getD hr] at hrow
            simp only [survivor_Lost_l8, if_pos (lt_true hr), idx_get hr, Option.bind_some, hrow, wrap_succ hk (show t.Rows.length ≤ 4611686018427387904 by omega)]
            rfl) (fun out => by simp [survivor_Lost_l8]) t.Rows 0 [] rfl (Nat.zero_le _) (Nat.zero_le _)
          obtain ⟨o2, h4, h5, h6⟩ := rows_cells (B := drossref55_Lost_l13 t m) t m hf.1 hf.2 hv (fun k out r hr ho => by
            have hk := lt_of_get hr
            obtain ⟨g1, g2⟩ := hidx k r hr
            have hrow := ref_row M T H.ncl H.lcl k hk hf.2 (clIdx m r.ID) g1 (by rw [row_getD hr]; exact g2) out ho _ 0 rfl (Nat.zero_le _) out (by rw [if_pos (Nat.zero_le _)])
            simp only [Int.natCast_zero] at hrow
            unfold rowV at hrow
            rw [row_getD hr] at hrow
            simp only [drossref55_Lost_l13, if_pos (lt_true hr), Option.bind_some, hrow, wrap_succ hk (show t.Rows.length ≤ 4611686018427387904 by omega)]
            rfl) (fun out => by simp [drossref55_Lost_l13]) t.Rows 0 [] rfl (Nat.zero_le _) (Nat.zero_le _)
          simp only [Int.natCast_zero] at h1 h4
          have e : o2 = o1 := by rw [h2, h5]
          subst e
          simp only [hmm, if_true, ha1, h1, h4, Option.bind_some, beq_self_eq_true, Cells_refl o2 (by omega)]
        · simp only [Bool.not_eq_true] at hmm
          simp only [hmm, Bool.false_eq_true, if_false, Option.bind_some, beq_self_eq_true, if_true, Cells_refl [] (by simp)]
      · have e : (tableErr t != 0) = true := by rw [bne_iff_ne]; exact hv
        simp only [e, if_true, Option.bind_some, beq_self_eq_true, Cells_refl [] (by simp)]
    · simp only [Bool.not_eq_true] at hb
      rw [hf, hb]
      simp
  · simp only [Bool.not_eq_true] at hf
    rw [hf]
    simp
end Go.Proofs.Ytdmddoljldjjeaa

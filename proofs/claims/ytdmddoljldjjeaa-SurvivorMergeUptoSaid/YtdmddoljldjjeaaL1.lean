/- The Lean functions that the program's functions are lifted to, and the plain laws about them. -/
import Derived.Test.YtdmddoljldjjeaaA2
set_option linter.unusedVariables false
set_option linter.unusedSimpArgs false
namespace Go.Proofs.Ytdmddoljldjjeaa
open Go Go.Ab
structure Value where
  Kind : Int
  Num : Int
  Str : List UInt8
  deriving DecidableEq
structure Row where
  ID : Int
  Values : List Value
  deriving DecidableEq
structure Drossref55_Result where
  Value : Value
  Origin : Int
  deriving DecidableEq
structure Drossref55_Row where
  Row : Row
  Origins : List Int
  deriving DecidableEq
structure Table where
  Name : List UInt8
  Attrs : List (List UInt8)
  Rows : List Row
  deriving DecidableEq
structure Merged where
  Table : Table
  Clusters : List (List Int)
  Origins : List (List Int)
  deriving DecidableEq
structure CellRef where
  ID : Int
  Attr : Int
  deriving DecidableEq
noncomputable def survivor_checkRows_l1 (rows_1 : List Row) : Int → Option (LS (Int) ((Unit) ⊕ (Int))) := fun t10_10 =>
  if t10_10 < (rows_1.length : Int) then
  (idx rows_1 t10_10).bind fun (x_24 : Row) =>
  (rows_1[0]?).bind fun (x_26 : Row) =>
  if ((x_24.Values.length : Int) != (x_26.Values.length : Int)) = true then
  some (.done (.inr 6))
  else
  some (.next (IntKind.i64.wrap (t10_10 + 1)))
  else
  some (.done (.inl ()))
noncomputable def survivor_checkRows (rows_1 : List Row) : Option (Int) :=
  if ((rows_1.length : Int) == 0) = true then
  some 12
  else
  (LoopF (survivor_checkRows_l1 rows_1) 0).bind (fun o => match o with
  | .inl () =>
  some 0
  | .inr r_31 =>
  some r_31)
noncomputable def slices_IndexFunc_Value_l1 (s_35 : List Value) (f_36 : Value → Option (Bool)) : Int → Option (LS (Int) ((Unit) ⊕ (Int))) := fun t8_46 =>
  if t8_46 < (s_35.length : Int) then
  (idx s_35 t8_46).bind fun (x_56 : Value) =>
  (f_36 x_56).bind fun (r_58 : Bool) =>
  if r_58 = true then
  some (.done (.inr t8_46))
  else
  some (.next (IntKind.i64.wrap (t8_46 + 1)))
  else
  some (.done (.inl ()))
noncomputable def slices_IndexFunc_Value (s_35 : List Value) (f_36 : Value → Option (Bool)) : Option (Int) :=
  (LoopF (slices_IndexFunc_Value_l1 s_35 f_36) 0).bind (fun o => match o with
  | .inl () =>
  some (-1)
  | .inr r_63 =>
  some r_63)
noncomputable def slices_ContainsFunc_Value (s_67 : List Value) (f_68 : Value → Option (Bool)) : Option (Bool) :=
  (slices_IndexFunc_Value s_67 f_68).bind fun (r_71 : Int) =>
  some (decide (r_71 ≥ 0))
noncomputable def value_Valid (v_74 : Value) : Option (Bool) :=
  if (v_74.Kind == 0) = true then
  if (v_74.Num == 0) = true then
  some (v_74.Str == [])
  else
  some false
  else
  if (v_74.Kind == 1) = true then
  some (v_74.Str == [])
  else
  if (v_74.Kind == 2) = true then
  if (v_74.Num == 0) = true then
  some (decide ((v_74.Str.length : Int) ≤ 200))
  else
  some false
  else
  if (v_74.Kind == 3) = true then
  if v_74.Num ≥ 1 then
  some (v_74.Str == [])
  else
  some false
  else
  some false
noncomputable def survivor_checkValues_1 (v_83 : Value) : Option (Bool) :=
  (value_Valid v_83).bind fun (r_84 : Bool) =>
  some (!r_84)
noncomputable def survivor_checkValues_l1 (rows_87 : List Row) : (Int × Int) → Option (LS (Int × Int) ((Unit) ⊕ (Int))) := fun (last_99, t8_100) =>
  if t8_100 < (rows_87.length : Int) then
  (idx rows_87 t8_100).bind fun (x_116 : Row) =>
  if x_116.ID ≤ last_99 then
  some (.done (.inr 1))
  else
  (slices_ContainsFunc_Value x_116.Values (fun (y_119 : Value) => survivor_checkValues_1 y_119)).bind fun (r_120 : Bool) =>
  if r_120 = true then
  some (.done (.inr 1))
  else
  some (.next (x_116.ID, (IntKind.i64.wrap (t8_100 + 1))))
  else
  some (.done (.inl ()))
noncomputable def survivor_checkValues (rows_87 : List Row) : Option (Int) :=
  (LoopF (survivor_checkValues_l1 rows_87) (0, 0)).bind (fun o => match o with
  | .inl () =>
  some 0
  | .inr r_125 =>
  some r_125)
noncomputable def survivor_validRule (rule_129 : Int) : Option (Bool) :=
  if rule_129 ≥ 1 then
  some (decide (rule_129 ≤ 5))
  else
  some false
noncomputable def survivor_count_l1 (l_132 : List Value) (v_133 : Value) : (Int × Int) → Option (LS (Int × Int) (Int)) := fun (n_141, t10_142) =>
  if t10_142 < (l_132.length : Int) then
  (idx l_132 t10_142).bind fun (x_155 : Value) =>
  if ((x_155.Kind == v_133.Kind) && ((x_155.Num == v_133.Num) && (x_155.Str == v_133.Str))) = true then
  some (.next ((IntKind.i64.wrap (n_141 + 1)), (IntKind.i64.wrap (t10_142 + 1))))
  else
  some (.next (n_141, (IntKind.i64.wrap (t10_142 + 1))))
  else
  some (.done n_141)
noncomputable def survivor_count (l_132 : List Value) (v_133 : Value) : Option (Int) :=
  (LoopF (survivor_count_l1 l_132 v_133) (0, 0)).bind (fun n_150 =>
  some n_150)
noncomputable def cmp_Or_int_l1 (vals_162 : List Int) : Int → Option (LS (Int) ((Unit) ⊕ (Int))) := fun t8_170 =>
  if t8_170 < (vals_162.length : Int) then
  (idx vals_162 t8_170).bind fun (x_182 : Int) =>
  if (x_182 != 0) = true then
  some (.done (.inr x_182))
  else
  some (.next (IntKind.i64.wrap (t8_170 + 1)))
  else
  some (.done (.inl ()))
noncomputable def cmp_Or_int (vals_162 : List Int) : Option (Int) :=
  (LoopF (cmp_Or_int_l1 vals_162) 0).bind (fun o => match o with
  | .inl () =>
  some 0
  | .inr r_187 =>
  some r_187)
noncomputable def cmp_isNaN_int (x_191 : Int) : Option (Bool) :=
  some (x_191 != x_191)
noncomputable def cmp_Compare_int (x_193 : Int) (y_194 : Int) : Option (Int) :=
  (cmp_isNaN_int x_193).bind fun (r_197 : Bool) =>
  (cmp_isNaN_int y_194).bind fun (r_201 : Bool) =>
  if r_197 = true then
  if r_201 = true then
  some 0
  else
  some (-1)
  else
  if r_201 = true then
  some 1
  else
  if x_193 < y_194 then
  some (-1)
  else
  if x_193 > y_194 then
  some 1
  else
  some 0
noncomputable def cmp_isNaN_int64 (x_209 : Int) : Option (Bool) :=
  some (x_209 != x_209)
noncomputable def cmp_Compare_int64 (x_211 : Int) (y_212 : Int) : Option (Int) :=
  (cmp_isNaN_int64 x_211).bind fun (r_215 : Bool) =>
  (cmp_isNaN_int64 y_212).bind fun (r_219 : Bool) =>
  if r_215 = true then
  if r_219 = true then
  some 0
  else
  some (-1)
  else
  if r_219 = true then
  some 1
  else
  if x_211 < y_212 then
  some (-1)
  else
  if x_211 > y_212 then
  some 1
  else
  some 0
noncomputable def bytealg_CompareString (a_227 : List UInt8) (b_228 : List UInt8) : Option (Int) :=
  some (Lib.compareBytes a_227 b_228)
noncomputable def strings_Compare (a_232 : List UInt8) (b_233 : List UInt8) : Option (Int) :=
  (bytealg_CompareString a_232 b_233).bind fun (r_234 : Int) =>
  some r_234
noncomputable def value_Compare (a_237 : Value) (b_238 : Value) : Option (Int) :=
  (cmp_Compare_int a_237.Kind b_238.Kind).bind fun (r_239 : Int) =>
  (cmp_Compare_int64 a_237.Num b_238.Num).bind fun (r_241 : Int) =>
  (strings_Compare a_237.Str b_238.Str).bind fun (r_243 : Int) =>
  (cmp_Or_int [r_239, r_241, r_243]).bind fun (r_245 : Int) =>
  some r_245
noncomputable def survivor_better (l_248 : List Value) (v_249 : Value) (best_250 : Value) (rule_251 : Int) : Option (Bool) :=
  if (rule_251 == 2) = true then
  (survivor_count l_248 v_249).bind fun (r_253 : Int) =>
  (survivor_count l_248 best_250).bind fun (r_255 : Int) =>
  some (decide (r_253 > r_255))
  else
  if (rule_251 == 3) = true then
  if (v_249.Kind == 2) = true then
  if (best_250.Kind != 2) = true then
  some true
  else
  some (decide ((v_249.Str.length : Int) > (best_250.Str.length : Int)))
  else
  some false
  else
  if (rule_251 == 4) = true then
  (value_Compare v_249 best_250).bind fun (r_261 : Int) =>
  some (decide (r_261 < 0))
  else
  if (rule_251 == 5) = true then
  (value_Compare v_249 best_250).bind fun (r_264 : Int) =>
  some (decide (r_264 > 0))
  else
  some false
noncomputable def slices_IndexFunc_Row_l1 (s_267 : List Row) (f_268 : Row → Option (Bool)) : Int → Option (LS (Int) ((Unit) ⊕ (Int))) := fun t8_278 =>
  if t8_278 < (s_267.length : Int) then
  (idx s_267 t8_278).bind fun (x_288 : Row) =>
  (f_268 x_288).bind fun (r_290 : Bool) =>
  if r_290 = true then
  some (.done (.inr t8_278))
  else
  some (.next (IntKind.i64.wrap (t8_278 + 1)))
  else
  some (.done (.inl ()))
noncomputable def slices_IndexFunc_Row (s_267 : List Row) (f_268 : Row → Option (Bool)) : Option (Int) :=
  (LoopF (slices_IndexFunc_Row_l1 s_267 f_268) 0).bind (fun o => match o with
  | .inl () =>
  some (-1)
  | .inr r_295 =>
  some r_295)
noncomputable def survivor_choose_1 (r_299 : Row) (c_300 : Int) (c_301 : Value) : Option (Bool) :=
  (idx r_299.Values c_300).bind fun (x_302 : Value) =>
  some ((x_302.Kind == c_301.Kind) && ((x_302.Num == c_301.Num) && (x_302.Str == c_301.Str)))
noncomputable def survivor_choose_l1 (rows_305 : List Row) (attr_306 : Int) : (List Value × Int) → Option (LS (List Value × Int) (List Value)) := fun (l_320, t18_321) =>
  if t18_321 < (rows_305.length : Int) then
  (idx rows_305 t18_321).bind fun (x_339 : Row) =>
  (idx x_339.Values attr_306).bind fun (x_343 : Value) =>
  if (x_343.Kind != 0) = true then
  if roomB (l_320.length + 1) 32 = true then
  some (.next ((l_320 ++ [x_343]), (IntKind.i64.wrap (t18_321 + 1))))
  else none
  else
  some (.next (l_320, (IntKind.i64.wrap (t18_321 + 1))))
  else
  some (.done l_320)
noncomputable def survivor_choose_l2 (rule_307 : Int) (l_334 : List Value) : (Value × Int) → Option (LS (Value × Int) (Value)) := fun (best_369, t49_370) =>
  if t49_370 < (((l_334.length - 1) : Nat) : Int) then
  (idx ((l_334.drop 1).take (l_334.length - 1)) t49_370).bind fun (x_388 : Value) =>
  (survivor_better l_334 x_388 best_369 rule_307).bind fun (r_391 : Bool) =>
  if r_391 = true then
  some (.next (x_388, (IntKind.i64.wrap (t49_370 + 1))))
  else
  some (.next (best_369, (IntKind.i64.wrap (t49_370 + 1))))
  else
  some (.done best_369)
noncomputable def survivor_choose (rows_305 : List Row) (attr_306 : Int) (rule_307 : Int) : Option (Value × Int) :=
  (LoopF (survivor_choose_l1 rows_305 attr_306) ([], 0)).bind (fun l_334 =>
  if (((l_334.length : Nat) : Int) == 0) = true then
  (rows_305[0]?).bind fun (x_350 : Row) =>
  some ((Value.mk 0 0 []), x_350.ID)
  else
  (l_334[0]?).bind fun (x_354 : Value) =>
  if (1 : Int) ≤ ((l_334.length : Nat) : Int) then
  (LoopF (survivor_choose_l2 rule_307 l_334) (x_354, 0)).bind (fun best_382 =>
  (slices_IndexFunc_Row rows_305 (fun (y_399 : Row) => survivor_choose_1 y_399 attr_306 best_382)).bind fun (r_400 : Int) =>
  (idx rows_305 r_400).bind fun (x_402 : Row) =>
  some (best_382, x_402.ID))
  else none)
noncomputable def survivor_Choose (rows_407 : List Row) (attr_408 : Int) (rule_409 : Int) : Option (Value × Int × Int) :=
  (survivor_checkRows rows_407).bind fun (r_412 : Int) =>
  if (r_412 != 0) = true then
  some ((Value.mk 0 0 []), 0, r_412)
  else
  if attr_408 < 0 then
  some ((Value.mk 0 0 []), 0, 6)
  else
  (rows_407[0]?).bind fun (x_418 : Row) =>
  if attr_408 ≥ (x_418.Values.length : Int) then
  some ((Value.mk 0 0 []), 0, 6)
  else
  (survivor_checkValues rows_407).bind fun (r_423 : Int) =>
  if (r_423 != 0) = true then
  some ((Value.mk 0 0 []), 0, r_423)
  else
  (survivor_validRule rule_409).bind fun (r_426 : Bool) =>
  if r_426 = true then
  (survivor_choose rows_407 attr_408 rule_409).bind fun (r_431 : Value × Int) =>
  some (r_431.1, r_431.2, 0)
  else
  some ((Value.mk 0 0 []), 0, 1)
noncomputable def slices_IndexFunc_int_l1 (s_434 : List Int) (f_435 : Int → Option (Bool)) : Int → Option (LS (Int) ((Unit) ⊕ (Int))) := fun t8_445 =>
  if t8_445 < (s_434.length : Int) then
  (idx s_434 t8_445).bind fun (x_455 : Int) =>
  (f_435 x_455).bind fun (r_457 : Bool) =>
  if r_457 = true then
  some (.done (.inr t8_445))
  else
  some (.next (IntKind.i64.wrap (t8_445 + 1)))
  else
  some (.done (.inl ()))
noncomputable def slices_IndexFunc_int (s_434 : List Int) (f_435 : Int → Option (Bool)) : Option (Int) :=
  (LoopF (slices_IndexFunc_int_l1 s_434 f_435) 0).bind (fun o => match o with
  | .inl () =>
  some (-1)
  | .inr r_462 =>
  some r_462)
noncomputable def slices_ContainsFunc_int (s_466 : List Int) (f_467 : Int → Option (Bool)) : Option (Bool) :=
  (slices_IndexFunc_int s_466 f_467).bind fun (r_470 : Int) =>
  some (decide (r_470 ≥ 0))
noncomputable def survivor_Merge_1 (r_473 : Int) : Option (Bool) :=
  (survivor_validRule r_473).bind fun (r_474 : Bool) =>
  some (!r_474)
noncomputable def survivor_Merge_l1 (rows_477 : List Row) (rules_478 : List Int) : (List Value × List Int × Int) → Option (LS (List Value × List Int × Int) (List Value × List Int)) := fun (out_509, origins_510, t46_511) =>
  if t46_511 < (rules_478.length : Int) then
  (idx rules_478 t46_511).bind fun (x_531 : Int) =>
  (survivor_choose rows_477 t46_511 x_531).bind fun (r_535 : Value × Int) =>
  if roomB (out_509.length + 1) 32 = true then
  if roomB (origins_510.length + 1) 8 = true then
  some (.next ((out_509 ++ [r_535.1]), (origins_510 ++ [r_535.2]), (IntKind.i64.wrap (t46_511 + 1))))
  else none
  else none
  else
  some (.done (out_509, origins_510))
noncomputable def survivor_Merge (rows_477 : List Row) (rules_478 : List Int) : Option (Row × List Int × Int) :=
  (survivor_checkRows rows_477).bind fun (r_481 : Int) =>
  if (r_481 != 0) = true then
  some ((Row.mk 0 []), [], r_481)
  else
  (rows_477[0]?).bind fun (x_484 : Row) =>
  if ((rules_478.length : Int) != (x_484.Values.length : Int)) = true then
  some ((Row.mk 0 []), [], 6)
  else
  (survivor_checkValues rows_477).bind fun (r_489 : Int) =>
  if (r_489 != 0) = true then
  some ((Row.mk 0 []), [], r_489)
  else
  (slices_ContainsFunc_int rules_478 (fun (y_492 : Int) => survivor_Merge_1 y_492)).bind fun (r_493 : Bool) =>
  if r_493 = true then
  some ((Row.mk 0 []), [], 1)
  else
  (LoopF (survivor_Merge_l1 rows_477 rules_478) ([], [], 0)).bind (fun (out_525, origins_526) =>
  some ((Row.mk x_484.ID out_525), origins_526, 0))
noncomputable def drossref03_IDs_l1 (a_544 : List Int) (b_545 : List Int) : Int → Option (LS (Int) ((Unit) ⊕ (Bool))) := fun i_553 =>
  if i_553 < (a_544.length : Int) then
  (idx a_544 i_553).bind fun (x_561 : Int) =>
  (idx b_545 i_553).bind fun (x_563 : Int) =>
  if (x_561 != x_563) = true then
  some (.done (.inr false))
  else
  some (.next (IntKind.i64.wrap (i_553 + 1)))
  else
  some (.done (.inl ()))
noncomputable def drossref03_IDs (a_544 : List Int) (b_545 : List Int) : Option (Bool) :=
  if ((a_544.length : Int) != (b_545.length : Int)) = true then
  some false
  else
  (LoopF (drossref03_IDs_l1 a_544 b_545) 0).bind (fun o => match o with
  | .inl () =>
  some true
  | .inr r_568 =>
  some r_568)
noncomputable def drosslaw55_example_1 (s_572 : List UInt8) : Option (Value) :=
  some (Value.mk 2 0 s_572)
noncomputable def drosslaw55_example_2 (n_574 : Int) : Option (Value) :=
  some (Value.mk 1 n_574 [])
noncomputable def drosslaw55_example : Option (List Row) :=
  (drosslaw55_example_1 [74, 111]).bind fun (r_576 : Value) =>
  (drosslaw55_example_1 [74, 111, 101]).bind fun (r_578 : Value) =>
  (drosslaw55_example_2 7).bind fun (r_580 : Value) =>
  (drosslaw55_example_1 [74, 111]).bind fun (r_582 : Value) =>
  (drosslaw55_example_2 8).bind fun (r_584 : Value) =>
  some [(Row.mk 3 [r_576, (Value.mk 0 0 [])]), (Row.mk 4 [r_578, r_580]), (Row.mk 9 [r_582, r_584])]
noncomputable def drosslaw55_awake : Option (Bool) :=
  (drosslaw55_example ).bind fun (r_591 : List Row) =>
  (survivor_Choose r_591 0 3).bind fun (r_593 : Value × Int × Int) =>
  (drosslaw55_example ).bind fun (r_599 : List Row) =>
  (survivor_Merge r_599 [2, 1]).bind fun (r_601 : Row × List Int × Int) =>
  if (r_593.2.2 == 0) = true then
  if (r_601.2.2 == 0) = true then
  if (r_593.1.Str == [74, 111, 101]) = true then
  if (r_593.2.1 == 4) = true then
  if (r_601.1.ID == 3) = true then
  (r_601.1.Values[0]?).bind fun (x_610 : Value) =>
  if (x_610.Str == [74, 111]) = true then
  (r_601.1.Values[1]?).bind fun (x_615 : Value) =>
  if (x_615.Num == 7) = true then
  (drossref03_IDs r_601.2.1 [3, 4]).bind fun (r_618 : Bool) =>
  some r_618
  else
  some false
  else
  some false
  else
  some false
  else
  some false
  else
  some false
  else
  some false
  else
  some false
noncomputable def slices_Clone_Row (l : List Row) : Option (List Row) := if roomB l.length 32 = true then some l else none
noncomputable def drossref55_rowsError_l1 (rows_621 : List Row) : Int → Option (LS (Int) ((Unit) ⊕ (Int))) := fun i_627 =>
  if i_627 < (rows_621.length : Int) then
  (idx rows_621 i_627).bind fun (x_635 : Row) =>
  (rows_621[0]?).bind fun (x_637 : Row) =>
  if ((x_635.Values.length : Int) != (x_637.Values.length : Int)) = true then
  some (.done (.inr 6))
  else
  some (.next (IntKind.i64.wrap (i_627 + 1)))
  else
  some (.done (.inl ()))
noncomputable def drossref55_rowsError (rows_621 : List Row) : Option (Int) :=
  if ((rows_621.length : Int) == 0) = true then
  some 12
  else
  (LoopF (drossref55_rowsError_l1 rows_621) 0).bind (fun o => match o with
  | .inl () =>
  some 0
  | .inr r_642 =>
  some r_642)
noncomputable def drossref01_Valid (v_646 : Value) : Option (Bool) :=
  if (v_646.Kind == 0) = true then
  if (v_646.Num == 0) = true then
  some (v_646.Str == [])
  else
  some false
  else
  if (v_646.Kind == 1) = true then
  some (v_646.Str == [])
  else
  if (v_646.Kind == 2) = true then
  if (v_646.Num == 0) = true then
  some (decide ((v_646.Str.length : Int) ≤ 200))
  else
  some false
  else
  if (v_646.Kind == 3) = true then
  if v_646.Num ≥ 1 then
  some (v_646.Str == [])
  else
  some false
  else
  some false
noncomputable def drossref01_Valids_l1 (l_655 : List Value) : Int → Option (LS (Int) ((Unit) ⊕ (Bool))) := fun i_662 =>
  if i_662 < (l_655.length : Int) then
  (idx l_655 i_662).bind fun (x_670 : Value) =>
  (drossref01_Valid x_670).bind fun (r_672 : Bool) =>
  if r_672 = true then
  some (.next (IntKind.i64.wrap (i_662 + 1)))
  else
  some (.done (.inr false))
  else
  some (.done (.inl ()))
noncomputable def drossref01_Valids (l_655 : List Value) : Option (Bool) :=
  (LoopF (drossref01_Valids_l1 l_655) 0).bind (fun o => match o with
  | .inl () =>
  some true
  | .inr r_677 =>
  some r_677)
noncomputable def drossref55_valid_l1 (rows_681 : List Row) : (Int × Int) → Option (LS (Int × Int) ((Unit) ⊕ (Bool))) := fun (before_689, i_690) =>
  if i_690 < (rows_681.length : Int) then
  (idx rows_681 i_690).bind fun (x_699 : Row) =>
  if x_699.ID ≤ before_689 then
  some (.done (.inr false))
  else
  (drossref01_Valids x_699.Values).bind fun (r_702 : Bool) =>
  if r_702 = true then
  some (.next (x_699.ID, (IntKind.i64.wrap (i_690 + 1))))
  else
  some (.done (.inr false))
  else
  some (.done (.inl ()))
noncomputable def drossref55_valid (rows_681 : List Row) : Option (Bool) :=
  (LoopF (drossref55_valid_l1 rows_681) (0, 0)).bind (fun o => match o with
  | .inl () =>
  some true
  | .inr r_707 =>
  some r_707)
noncomputable def drossref01_sign (a_711 : Int) (b_712 : Int) : Option (Int) :=
  if a_711 < b_712 then
  some (-1)
  else
  if a_711 > b_712 then
  some 1
  else
  some 0
noncomputable def drossref01_strings_l1 (a_716 : List UInt8) (b_717 : List UInt8) : Int → Option (LS (Int) ((Unit) ⊕ (Int))) := fun i_731 =>
  if i_731 < (a_716.length : Int) then
  if i_731 < (b_717.length : Int) then
  (idx a_716 i_731).bind fun (c_751 : UInt8) =>
  (idx b_717 i_731).bind fun (c_753 : UInt8) =>
  if (((c_751.toNat : Nat) : Int) != ((c_753.toNat : Nat) : Int)) = true then
  (drossref01_sign (IntKind.i64.wrap ((c_751.toNat : Nat) : Int)) (IntKind.i64.wrap ((c_753.toNat : Nat) : Int))).bind fun (r_756 : Int) =>
  some (.done (.inr r_756))
  else
  some (.next (IntKind.i64.wrap (i_731 + 1)))
  else
  some (.done (.inl ()))
  else
  some (.done (.inl ()))
noncomputable def drossref01_strings (a_716 : List UInt8) (b_717 : List UInt8) : Option (Int) :=
  (LoopF (drossref01_strings_l1 a_716 b_717) 0).bind (fun o => match o with
  | .inl () =>
  (drossref01_sign (a_716.length : Int) (b_717.length : Int)).bind fun (r_760 : Int) =>
  some r_760
  | .inr r_762 =>
  some r_762)
noncomputable def drossref01_Compare (a_766 : Value) (b_767 : Value) : Option (Int) :=
  (drossref01_sign a_766.Kind b_767.Kind).bind fun (r_768 : Int) =>
  if (r_768 != 0) = true then
  some r_768
  else
  (drossref01_sign a_766.Num b_767.Num).bind fun (r_771 : Int) =>
  if (r_771 != 0) = true then
  some r_771
  else
  (drossref01_strings a_766.Str b_767.Str).bind fun (r_774 : Int) =>
  some r_774
noncomputable def drossref55_times_l1 (rows_777 : List Row) (attr_778 : Int) (v_779 : Value) : (Int × Int) → Option (LS (Int × Int) (Int)) := fun (n_788, i_789) =>
  if i_789 < (rows_777.length : Int) then
  (idx rows_777 i_789).bind fun (x_800 : Row) =>
  (idx x_800.Values attr_778).bind fun (x_802 : Value) =>
  (drossref01_Compare x_802 v_779).bind fun (r_804 : Int) =>
  if (r_804 == 0) = true then
  some (.next ((IntKind.i64.wrap (n_788 + 1)), (IntKind.i64.wrap (i_789 + 1))))
  else
  some (.next (n_788, (IntKind.i64.wrap (i_789 + 1))))
  else
  some (.done n_788)
noncomputable def drossref55_times (rows_777 : List Row) (attr_778 : Int) (v_779 : Value) : Option (Int) :=
  (LoopF (drossref55_times_l1 rows_777 attr_778 v_779) (0, 0)).bind (fun n_798 =>
  some n_798)
noncomputable def drossref55_better (rows_811 : List Row) (attr_812 : Int) (rule_813 : Int) (v_814 : Value) (old_815 : Value) : Option (Bool) :=
  if (rule_813 == 2) = true then
  (drossref55_times rows_811 attr_812 v_814).bind fun (r_817 : Int) =>
  (drossref55_times rows_811 attr_812 old_815).bind fun (r_819 : Int) =>
  some (decide (r_817 > r_819))
  else
  if (rule_813 == 3) = true then
  if (v_814.Kind == 2) = true then
  if (old_815.Kind != 2) = true then
  some true
  else
  some (decide ((v_814.Str.length : Int) > (old_815.Str.length : Int)))
  else
  some false
  else
  (drossref01_Compare v_814 old_815).bind fun (r_826 : Int) =>
  if (rule_813 == 4) = true then
  if r_826 < 0 then
  some true
  else
  if (rule_813 == 5) = true then
  some (decide (r_826 > 0))
  else
  some false
  else
  if (rule_813 == 5) = true then
  some (decide (r_826 > 0))
  else
  some false
noncomputable def drossref55_Pick_l1 (rows_833 : List Row) (attr_834 : Int) (rule_835 : Int) : (Drossref55_Result × Int) → Option (LS (Drossref55_Result × Int) (Drossref55_Result)) := fun (out_852, i_853) =>
  if i_853 < (rows_833.length : Int) then
  (idx rows_833 i_853).bind fun (x_882 : Row) =>
  (idx x_882.Values attr_834).bind fun (x_884 : Value) =>
  (show Option (Bool) from
  if (x_884.Kind != 0) = true then
  if (out_852.Origin == 0) = true then
  some true
  else
  (drossref55_better rows_833 attr_834 rule_835 x_884 out_852.Value).bind fun (r_895 : Bool) =>
  some r_895
  else
  some false).bind (fun t40_890 =>
  if t40_890 = true then
  some (.next ((Drossref55_Result.mk x_884 x_882.ID), (IntKind.i64.wrap (i_853 + 1))))
  else
  some (.next (out_852, (IntKind.i64.wrap (i_853 + 1)))))
  else
  some (.done out_852)
noncomputable def drossref55_Pick (rows_833 : List Row) (attr_834 : Int) (rule_835 : Int) : Option (Drossref55_Result) :=
  (LoopF (drossref55_Pick_l1 rows_833 attr_834 rule_835) ((Drossref55_Result.mk (Value.mk 0 0 []) 0), 0)).bind (fun out_876 =>
  if (out_876.Origin == 0) = true then
  (rows_833[0]?).bind fun (x_902 : Row) =>
  some (Drossref55_Result.mk out_876.Value x_902.ID)
  else
  some out_876)
noncomputable def drossref55_Choose (rows_906 : List Row) (attr_907 : Int) (rule_908 : Int) : Option (Drossref55_Result × Int) :=
  (drossref55_rowsError rows_906).bind fun (r_911 : Int) =>
  if (r_911 != 0) = true then
  some ((Drossref55_Result.mk (Value.mk 0 0 []) 0), r_911)
  else
  if attr_907 < 0 then
  some ((Drossref55_Result.mk (Value.mk 0 0 []) 0), 6)
  else
  (rows_906[0]?).bind fun (x_917 : Row) =>
  if attr_907 ≥ (x_917.Values.length : Int) then
  some ((Drossref55_Result.mk (Value.mk 0 0 []) 0), 6)
  else
  (drossref55_valid rows_906).bind fun (r_920 : Bool) =>
  if r_920 = true then
  if rule_908 < 1 then
  some ((Drossref55_Result.mk (Value.mk 0 0 []) 0), 1)
  else
  if rule_908 > 5 then
  some ((Drossref55_Result.mk (Value.mk 0 0 []) 0), 1)
  else
  (drossref55_Pick rows_906 attr_907 rule_908).bind fun (r_925 : Drossref55_Result) =>
  some (r_925, 0)
  else
  some ((Drossref55_Result.mk (Value.mk 0 0 []) 0), 1)
noncomputable def drosslaw55_SurvivorChoose (rows_928 : List Row) (attr_929 : Int) (rule_930 : Int) : Option (Bool) :=
  (show Option (Bool) from
  (drosslaw55_awake ).bind fun (r_937 : Bool) =>
  if r_937 = true then
  some (decide ((rows_928.length : Int) > 8))
  else
  some true).bind (fun t18_934 =>
  if t18_934 = true then
  (drosslaw55_awake ).bind fun (r_941 : Bool) =>
  some r_941
  else
  (slices_Clone_Row rows_928).bind fun (r_947 : List Row) =>
  (survivor_Choose r_947 attr_929 rule_930).bind fun (r_949 : Value × Int × Int) =>
  (drossref55_Choose rows_928 attr_929 rule_930).bind fun (r_953 : Drossref55_Result × Int) =>
  if (r_949.2.2 == r_953.2) = true then
  if ((r_949.1.Kind == r_953.1.Value.Kind) && ((r_949.1.Num == r_953.1.Value.Num) && (r_949.1.Str == r_953.1.Value.Str))) = true then
  some (r_949.2.1 == r_953.1.Origin)
  else
  some false
  else
  some false)
noncomputable def slices_Clone_int (l : List Int) : Option (List Int) := if roomB l.length 8 = true then some l else none
noncomputable def drossref55_Rules_l1 (l_959 : List Int) : Int → Option (LS (Int) ((Unit) ⊕ (Bool))) := fun i_965 =>
  if i_965 < (l_959.length : Int) then
  (idx l_959 i_965).bind fun (x_972 : Int) =>
  if x_972 < 1 then
  some (.done (.inr false))
  else
  if x_972 > 5 then
  some (.done (.inr false))
  else
  some (.next (IntKind.i64.wrap (i_965 + 1)))
  else
  some (.done (.inl ()))
noncomputable def drossref55_Rules (l_959 : List Int) : Option (Bool) :=
  (LoopF (drossref55_Rules_l1 l_959) 0).bind (fun o => match o with
  | .inl () =>
  some true
  | .inr r_978 =>
  some r_978)
noncomputable def drossref55_merge_l1 (rows_982 : List Row) (rules_983 : List Int) : (List Value × List Int × Int) → Option (LS (List Value × List Int × Int) (List Value × List Int)) := fun (out_1000, out_1001, i_1002) =>
  if i_1002 < (rules_983.length : Int) then
  (idx rules_983 i_1002).bind fun (x_1022 : Int) =>
  (drossref55_Pick rows_982 i_1002 x_1022).bind fun (r_1024 : Drossref55_Result) =>
  if roomB (out_1000.length + 1) 32 = true then
  if roomB (out_1001.length + 1) 8 = true then
  some (.next ((out_1000 ++ [r_1024.Value]), (out_1001 ++ [r_1024.Origin]), (IntKind.i64.wrap (i_1002 + 1))))
  else none
  else none
  else
  some (.done (out_1000, out_1001))
noncomputable def drossref55_merge (rows_982 : List Row) (rules_983 : List Int) : Option (Drossref55_Row) :=
  (rows_982[0]?).bind fun (x_986 : Row) =>
  (LoopF (drossref55_merge_l1 rows_982 rules_983) ([], [], 0)).bind (fun (out_1015, out_1016) =>
  some (Drossref55_Row.mk (Row.mk x_986.ID out_1015) out_1016))
noncomputable def drossref55_Merge (rows_1033 : List Row) (rules_1034 : List Int) : Option (Drossref55_Row × Int) :=
  (drossref55_rowsError rows_1033).bind fun (r_1037 : Int) =>
  if (r_1037 != 0) = true then
  some ((Drossref55_Row.mk (Row.mk 0 []) []), r_1037)
  else
  (rows_1033[0]?).bind fun (x_1040 : Row) =>
  if ((rules_1034.length : Int) != (x_1040.Values.length : Int)) = true then
  some ((Drossref55_Row.mk (Row.mk 0 []) []), 6)
  else
  (drossref55_valid rows_1033).bind fun (r_1043 : Bool) =>
  if r_1043 = true then
  (drossref55_Rules rules_1034).bind fun (r_1046 : Bool) =>
  if r_1046 = true then
  (drossref55_merge rows_1033 rules_1034).bind fun (r_1049 : Drossref55_Row) =>
  some (r_1049, 0)
  else
  some ((Drossref55_Row.mk (Row.mk 0 []) []), 1)
  else
  some ((Drossref55_Row.mk (Row.mk 0 []) []), 1)
noncomputable def drossref01_Lists_l1 (a_1052 : List Value) (b_1053 : List Value) : Int → Option (LS (Int) ((Unit) ⊕ (Int))) := fun i_1063 =>
  if i_1063 < (a_1052.length : Int) then
  if i_1063 < (b_1053.length : Int) then
  (idx a_1052 i_1063).bind fun (x_1075 : Value) =>
  (idx b_1053 i_1063).bind fun (x_1077 : Value) =>
  (drossref01_Compare x_1075 x_1077).bind fun (r_1079 : Int) =>
  if (r_1079 != 0) = true then
  some (.done (.inr r_1079))
  else
  some (.next (IntKind.i64.wrap (i_1063 + 1)))
  else
  some (.done (.inl ()))
  else
  some (.done (.inl ()))
noncomputable def drossref01_Lists (a_1052 : List Value) (b_1053 : List Value) : Option (Int) :=
  (LoopF (drossref01_Lists_l1 a_1052 b_1053) 0).bind (fun o => match o with
  | .inl () =>
  (drossref01_sign (a_1052.length : Int) (b_1053.length : Int)).bind fun (r_1084 : Int) =>
  some r_1084
  | .inr r_1086 =>
  some r_1086)
noncomputable def drossref01_Same (a_1090 : List Value) (b_1091 : List Value) : Option (Bool) :=
  (drossref01_Lists a_1090 b_1091).bind fun (r_1092 : Int) =>
  some (r_1092 == 0)
noncomputable def drossref03_EqualRows (a_1095 : Row) (b_1096 : Row) : Option (Bool) :=
  if (a_1095.ID == b_1096.ID) = true then
  (drossref01_Same a_1095.Values b_1096.Values).bind fun (r_1098 : Bool) =>
  some r_1098
  else
  some false
noncomputable def drosslaw55_SurvivorMerge (rows_1101 : List Row) (rules_1102 : List Int) : Option (Bool) :=
  (show Option (Bool) from
  (drosslaw55_awake ).bind fun (r_1110 : Bool) =>
  if r_1110 = true then
  if (rows_1101.length : Int) > 8 then
  some true
  else
  some (decide ((rules_1102.length : Int) > 20))
  else
  some true).bind (fun t21_1107 =>
  if t21_1107 = true then
  (drosslaw55_awake ).bind fun (r_1115 : Bool) =>
  some r_1115
  else
  (slices_Clone_Row rows_1101).bind fun (r_1123 : List Row) =>
  (slices_Clone_int rules_1102).bind fun (r_1125 : List Int) =>
  (survivor_Merge r_1123 r_1125).bind fun (r_1127 : Row × List Int × Int) =>
  (drossref55_Merge rows_1101 rules_1102).bind fun (r_1131 : Drossref55_Row × Int) =>
  if (r_1127.2.2 == r_1131.2) = true then
  (drossref03_EqualRows r_1127.1 r_1131.1.Row).bind fun (r_1134 : Bool) =>
  if r_1134 = true then
  (drossref03_IDs r_1127.2.1 r_1131.1.Origins).bind fun (r_1137 : Bool) =>
  some r_1137
  else
  some false
  else
  some false)
noncomputable def drosslaw55_few (t_1141 : Table) : Option (Bool) :=
  if (t_1141.Rows.length : Int) ≤ 8 then
  some (decide ((t_1141.Attrs.length : Int) ≤ 20))
  else
  some false
noncomputable def drosslaw55_brief (m_1144 : Merged) : Option (Bool) :=
  (drosslaw55_few m_1144.Table).bind fun (r_1145 : Bool) =>
  if r_1145 = true then
  if (m_1144.Clusters.length : Int) ≤ 10 then
  some (decide ((m_1144.Origins.length : Int) ≤ 10))
  else
  some false
  else
  some false
noncomputable def table_isName_l1 (s_1150 : List UInt8) : Int → Option (LS (Int) ((Unit) ⊕ (Bool))) := fun t19_1177 =>
  if t19_1177 < (s_1150.length : Int) then
  (idx s_1150 t19_1177).bind fun (c_1208 : UInt8) =>
  (show Option (Bool) from
  if ((c_1208.toNat : Nat) : Int) ≥ 97 then
  if ((c_1208.toNat : Nat) : Int) ≤ 122 then
  some true
  else
  if ((c_1208.toNat : Nat) : Int) ≥ 65 then
  if ((c_1208.toNat : Nat) : Int) ≤ 90 then
  some true
  else
  some (((c_1208.toNat : Nat) : Int) == 95)
  else
  some (((c_1208.toNat : Nat) : Int) == 95)
  else
  if ((c_1208.toNat : Nat) : Int) ≥ 65 then
  if ((c_1208.toNat : Nat) : Int) ≤ 90 then
  some true
  else
  some (((c_1208.toNat : Nat) : Int) == 95)
  else
  some (((c_1208.toNat : Nat) : Int) == 95)).bind (fun letter_1216 =>
  if letter_1216 = true then
  some (.next (IntKind.i64.wrap (t19_1177 + 1)))
  else
  if (t19_1177 == 0) = true then
  some (.done (.inr false))
  else
  if ((c_1208.toNat : Nat) : Int) < 48 then
  some (.done (.inr false))
  else
  if ((c_1208.toNat : Nat) : Int) > 57 then
  some (.done (.inr false))
  else
  some (.next (IntKind.i64.wrap (t19_1177 + 1))))
  else
  some (.done (.inl ()))
noncomputable def table_isName (s_1150 : List UInt8) : Option (Bool) :=
  if (s_1150 == []) = true then
  some false
  else
  if (s_1150.length : Int) > 24 then
  some false
  else
  if (s_1150 == [110, 117, 108, 108]) = true then
  some false
  else
  (LoopF (table_isName_l1 s_1150) 0).bind (fun o => match o with
  | .inl () =>
  some true
  | .inr r_1232 =>
  some r_1232)
noncomputable def slices_Index_string_l1 (s_1236 : List (List UInt8)) (v_1237 : List UInt8) : Int → Option (LS (Int) ((Unit) ⊕ (Int))) := fun t8_1243 =>
  if t8_1243 < (s_1236.length : Int) then
  (idx s_1236 t8_1243).bind fun (x_1251 : List UInt8) =>
  if (v_1237 == x_1251) = true then
  some (.done (.inr t8_1243))
  else
  some (.next (IntKind.i64.wrap (t8_1243 + 1)))
  else
  some (.done (.inl ()))
noncomputable def slices_Index_string (s_1236 : List (List UInt8)) (v_1237 : List UInt8) : Option (Int) :=
  (LoopF (slices_Index_string_l1 s_1236 v_1237) 0).bind (fun o => match o with
  | .inl () =>
  some (-1)
  | .inr r_1256 =>
  some r_1256)
noncomputable def slices_Contains_string (s_1260 : List (List UInt8)) (v_1261 : List UInt8) : Option (Bool) :=
  (slices_Index_string s_1260 v_1261).bind fun (r_1262 : Int) =>
  some (decide (r_1262 ≥ 0))
noncomputable def table_validValues_1 (v_1265 : Value) : Option (Bool) :=
  (value_Valid v_1265).bind fun (r_1266 : Bool) =>
  some (!r_1266)
noncomputable def table_validValues (l_1269 : List Value) : Option (Bool) :=
  (slices_ContainsFunc_Value l_1269 (fun (y_1270 : Value) => table_validValues_1 y_1270)).bind fun (r_1271 : Bool) =>
  some (!r_1271)
noncomputable def table_Valid_l1 (t_1274 : Table) : Int → Option (LS (Int) ((Unit) ⊕ (Int))) := fun t25_1294 =>
  if t25_1294 < (t_1274.Attrs.length : Int) then
  (idx t_1274.Attrs t25_1294).bind fun (x_1315 : List UInt8) =>
  (table_isName x_1315).bind fun (r_1317 : Bool) =>
  if r_1317 = true then
  if (0 : Int) ≤ t25_1294 then
  if t25_1294 ≤ (t_1274.Attrs.length : Int) then
  (slices_Contains_string (t_1274.Attrs.take (t25_1294.toNat)) x_1315).bind fun (r_1324 : Bool) =>
  if r_1324 = true then
  some (.done (.inr 1))
  else
  some (.next (IntKind.i64.wrap (t25_1294 + 1)))
  else none
  else none
  else
  some (.done (.inr 1))
  else
  some (.done (.inl ()))
noncomputable def table_Valid_l2 (t_1274 : Table) : (Int × Int) → Option (LS (Int × Int) ((Unit) ⊕ (Int))) := fun (last_1340, t45_1341) =>
  if t45_1341 < (t_1274.Rows.length : Int) then
  (idx t_1274.Rows t45_1341).bind fun (x_1357 : Row) =>
  if x_1357.ID ≤ last_1340 then
  some (.done (.inr 1))
  else
  if ((x_1357.Values.length : Int) != (t_1274.Attrs.length : Int)) = true then
  some (.done (.inr 6))
  else
  (table_validValues x_1357.Values).bind fun (r_1361 : Bool) =>
  if r_1361 = true then
  some (.next (x_1357.ID, (IntKind.i64.wrap (t45_1341 + 1))))
  else
  some (.done (.inr 1))
  else
  some (.done (.inl ()))
noncomputable def table_Valid (t_1274 : Table) : Option (Int) :=
  (table_isName t_1274.Name).bind fun (r_1275 : Bool) =>
  if r_1275 = true then
  if (t_1274.Attrs.length : Int) > 16 then
  some 3
  else
  if (t_1274.Rows.length : Int) > 1000 then
  some 3
  else
  (LoopF (table_Valid_l1 t_1274) 0).bind (fun o => match o with
  | .inl () =>
  (LoopF (table_Valid_l2 t_1274) (0, 0)).bind (fun o => match o with
  | .inl () =>
  some 0
  | .inr r_1366 =>
  some r_1366)
  | .inr r_1369 =>
  some r_1369)
  else
  some 1
noncomputable def survivor_ascending_l1 (l_1373 : List Int) : Int → Option (LS (Int) ((Unit) ⊕ (Bool))) := fun i_1380 =>
  if i_1380 < (l_1373.length : Int) then
  (idx l_1373 i_1380).bind fun (x_1388 : Int) =>
  (idx l_1373 (IntKind.i64.wrap (i_1380 - 1))).bind fun (x_1390 : Int) =>
  if x_1388 ≤ x_1390 then
  some (.done (.inr false))
  else
  some (.next (IntKind.i64.wrap (i_1380 + 1)))
  else
  some (.done (.inl ()))
noncomputable def survivor_ascending (l_1373 : List Int) : Option (Bool) :=
  (LoopF (survivor_ascending_l1 l_1373) 1).bind (fun o => match o with
  | .inl () =>
  some (decide ((l_1373.length : Int) > 0))
  | .inr r_1395 =>
  some r_1395)
noncomputable def slices_IndexFunc_int64_l1 (s_1399 : List Int) (f_1400 : Int → Option (Bool)) : Int → Option (LS (Int) ((Unit) ⊕ (Int))) := fun t8_1410 =>
  if t8_1410 < (s_1399.length : Int) then
  (idx s_1399 t8_1410).bind fun (x_1420 : Int) =>
  (f_1400 x_1420).bind fun (r_1422 : Bool) =>
  if r_1422 = true then
  some (.done (.inr t8_1410))
  else
  some (.next (IntKind.i64.wrap (t8_1410 + 1)))
  else
  some (.done (.inl ()))
noncomputable def slices_IndexFunc_int64 (s_1399 : List Int) (f_1400 : Int → Option (Bool)) : Option (Int) :=
  (LoopF (slices_IndexFunc_int64_l1 s_1399 f_1400) 0).bind (fun o => match o with
  | .inl () =>
  some (-1)
  | .inr r_1427 =>
  some r_1427)
noncomputable def slices_ContainsFunc_int64 (s_1431 : List Int) (f_1432 : Int → Option (Bool)) : Option (Bool) :=
  (slices_IndexFunc_int64 s_1431 f_1432).bind fun (r_1435 : Int) =>
  some (decide (r_1435 ≥ 0))
noncomputable def slices_Index_int64_l1 (s_1438 : List Int) (v_1439 : Int) : Int → Option (LS (Int) ((Unit) ⊕ (Int))) := fun t8_1445 =>
  if t8_1445 < (s_1438.length : Int) then
  (idx s_1438 t8_1445).bind fun (x_1453 : Int) =>
  if (v_1439 == x_1453) = true then
  some (.done (.inr t8_1445))
  else
  some (.next (IntKind.i64.wrap (t8_1445 + 1)))
  else
  some (.done (.inl ()))
noncomputable def slices_Index_int64 (s_1438 : List Int) (v_1439 : Int) : Option (Int) :=
  (LoopF (slices_Index_int64_l1 s_1438 v_1439) 0).bind (fun o => match o with
  | .inl () =>
  some (-1)
  | .inr r_1458 =>
  some r_1458)
noncomputable def slices_Contains_int64 (s_1462 : List Int) (v_1463 : Int) : Option (Bool) :=
  (slices_Index_int64 s_1462 v_1463).bind fun (r_1464 : Int) =>
  some (decide (r_1464 ≥ 0))
noncomputable def survivor_wellFormed_1 (id_1467 : Int) (c_1468 : Merged) (c_1469 : Int) : Option (Bool) :=
  (idx c_1468.Clusters c_1469).bind fun (x_1470 : List Int) =>
  (slices_Contains_int64 x_1470 id_1467).bind fun (r_1472 : Bool) =>
  some (!r_1472)
noncomputable def table_Find_1 (r_1481 : Row) (c_1482 : Int) : Option (Bool) :=
  some (r_1481.ID == c_1482)
noncomputable def table_Find (t_1484 : Table) (id_1485 : Int) : Option (Int × Bool) :=
  (slices_IndexFunc_Row t_1484.Rows (fun (y_1489 : Row) => table_Find_1 y_1489 id_1485)).bind fun (r_1490 : Int) =>
  some ((if 0 > r_1490 then 0 else r_1490), (decide (r_1490 ≥ 0)))
noncomputable def drossref03_letter (c_1513 : Int) : Option (Bool) :=
  if c_1513 ≥ 97 then
  if c_1513 ≤ 122 then
  some true
  else
  if c_1513 ≥ 65 then
  if c_1513 ≤ 90 then
  some true
  else
  some (c_1513 == 95)
  else
  some (c_1513 == 95)
  else
  if c_1513 ≥ 65 then
  if c_1513 ≤ 90 then
  some true
  else
  some (c_1513 == 95)
  else
  some (c_1513 == 95)
noncomputable def drossref03_Name_l1 (s_1521 : List UInt8) : Int → Option (LS (Int) ((Unit) ⊕ (Bool))) := fun i_1540 =>
  if i_1540 < (s_1521.length : Int) then
  (idx s_1521 i_1540).bind fun (c_1550 : UInt8) =>
  (drossref03_letter ((c_1550.toNat : Nat) : Int)).bind fun (r_1552 : Bool) =>
  if r_1552 = true then
  some (.next (IntKind.i64.wrap (i_1540 + 1)))
  else
  if ((c_1550.toNat : Nat) : Int) < 48 then
  some (.done (.inr false))
  else
  if ((c_1550.toNat : Nat) : Int) > 57 then
  some (.done (.inr false))
  else
  some (.next (IntKind.i64.wrap (i_1540 + 1)))
  else
  some (.done (.inl ()))
noncomputable def drossref03_Name (s_1521 : List UInt8) : Option (Bool) :=
  if ((s_1521.length : Int) == 0) = true then
  some false
  else
  if (s_1521.length : Int) > 24 then
  some false
  else
  (s_1521[0]?).bind fun (c_1526 : UInt8) =>
  (drossref03_letter ((c_1526.toNat : Nat) : Int)).bind fun (r_1528 : Bool) =>
  if r_1528 = true then
  if (s_1521 == [110, 117, 108, 108]) = true then
  some false
  else
  (LoopF (drossref03_Name_l1 s_1521) 0).bind (fun o => match o with
  | .inl () =>
  some true
  | .inr r_1559 =>
  some r_1559)
  else
  some false
noncomputable def drossref03_Attr_l1 (l_1563 : List (List UInt8)) (name_1564 : List UInt8) : Int → Option (LS (Int) ((Unit) ⊕ (Int))) := fun i_1569 =>
  if i_1569 < (l_1563.length : Int) then
  (idx l_1563 i_1569).bind fun (x_1575 : List UInt8) =>
  if (x_1575 == name_1564) = true then
  some (.done (.inr i_1569))
  else
  some (.next (IntKind.i64.wrap (i_1569 + 1)))
  else
  some (.done (.inl ()))
noncomputable def drossref03_Attr (l_1563 : List (List UInt8)) (name_1564 : List UInt8) : Option (Int) :=
  (LoopF (drossref03_Attr_l1 l_1563 name_1564) 0).bind (fun o => match o with
  | .inl () =>
  some (-1)
  | .inr r_1580 =>
  some r_1580)
noncomputable def drossref03_Names_l1 (l_1584 : List (List UInt8)) : Int → Option (LS (Int) ((Unit) ⊕ (Bool))) := fun i_1596 =>
  if i_1596 < (l_1584.length : Int) then
  (idx l_1584 i_1596).bind fun (x_1611 : List UInt8) =>
  (drossref03_Name x_1611).bind fun (r_1613 : Bool) =>
  if r_1613 = true then
  if (0 : Int) ≤ i_1596 then
  if i_1596 ≤ (l_1584.length : Int) then
  (drossref03_Attr (l_1584.take (i_1596.toNat)) x_1611).bind fun (r_1620 : Int) =>
  if r_1620 ≥ 0 then
  some (.done (.inr false))
  else
  some (.next (IntKind.i64.wrap (i_1596 + 1)))
  else none
  else none
  else
  some (.done (.inr false))
  else
  some (.done (.inl ()))
noncomputable def drossref03_Names (l_1584 : List (List UInt8)) : Option (Bool) :=
  (LoopF (drossref03_Names_l1 l_1584) 0).bind (fun o => match o with
  | .inl () =>
  some true
  | .inr r_1625 =>
  some r_1625)
noncomputable def drossref03_Valid_l1 (t_1629 : Table) : (Int × Int) → Option (LS (Int × Int) ((Unit) ⊕ (Int))) := fun (before_1648, i_1649) =>
  if i_1649 < (t_1629.Rows.length : Int) then
  (idx t_1629.Rows i_1649).bind fun (x_1663 : Row) =>
  if x_1663.ID ≤ before_1648 then
  some (.done (.inr 1))
  else
  if ((x_1663.Values.length : Int) != (t_1629.Attrs.length : Int)) = true then
  some (.done (.inr 6))
  else
  (drossref01_Valids x_1663.Values).bind fun (r_1667 : Bool) =>
  if r_1667 = true then
  some (.next (x_1663.ID, (IntKind.i64.wrap (i_1649 + 1))))
  else
  some (.done (.inr 1))
  else
  some (.done (.inl ()))
noncomputable def drossref03_Valid (t_1629 : Table) : Option (Int) :=
  (drossref03_Name t_1629.Name).bind fun (r_1630 : Bool) =>
  if r_1630 = true then
  if (t_1629.Attrs.length : Int) > 16 then
  some 3
  else
  if (t_1629.Rows.length : Int) > 1000 then
  some 3
  else
  (drossref03_Names t_1629.Attrs).bind fun (r_1635 : Bool) =>
  if r_1635 = true then
  (LoopF (drossref03_Valid_l1 t_1629) (0, 0)).bind (fun o => match o with
  | .inl () =>
  some 0
  | .inr r_1672 =>
  some r_1672)
  else
  some 1
  else
  some 1
noncomputable def drossref03_Has_l1 (l_1676 : List Int) (id_1677 : Int) : Int → Option (LS (Int) ((Unit) ⊕ (Bool))) := fun i_1682 =>
  if i_1682 < (l_1676.length : Int) then
  (idx l_1676 i_1682).bind fun (x_1688 : Int) =>
  if (x_1688 == id_1677) = true then
  some (.done (.inr true))
  else
  some (.next (IntKind.i64.wrap (i_1682 + 1)))
  else
  some (.done (.inl ()))
noncomputable def drossref03_Has (l_1676 : List Int) (id_1677 : Int) : Option (Bool) :=
  (LoopF (drossref03_Has_l1 l_1676 id_1677) 0).bind (fun o => match o with
  | .inl () =>
  some false
  | .inr r_1693 =>
  some r_1693)
noncomputable def drossref55_Cluster_l1 (l_1697 : List Int) : Int → Option (LS (Int) ((Unit) ⊕ (Bool))) := fun i_1704 =>
  if i_1704 < (l_1697.length : Int) then
  (idx l_1697 i_1704).bind fun (x_1712 : Int) =>
  (idx l_1697 (IntKind.i64.wrap (i_1704 - 1))).bind fun (x_1714 : Int) =>
  if x_1712 ≤ x_1714 then
  some (.done (.inr false))
  else
  some (.next (IntKind.i64.wrap (i_1704 + 1)))
  else
  some (.done (.inl ()))
noncomputable def drossref55_Cluster (l_1697 : List Int) : Option (Bool) :=
  (LoopF (drossref55_Cluster_l1 l_1697) 1).bind (fun o => match o with
  | .inl () =>
  some (decide ((l_1697.length : Int) > 0))
  | .inr r_1719 =>
  some r_1719)
noncomputable def drossref55_once_l3 (l_1723 : List (List Int)) (all_1761 : List Int) (i_1762 : Int) : Int → Option (LS (Int) ((Unit) ⊕ (Bool))) := fun k_1814 =>
  (idx l_1723 i_1762).bind fun (x_1823 : List Int) =>
  if k_1814 < (x_1823.length : Int) then
  (idx x_1823 k_1814).bind fun (x_1826 : Int) =>
  (drossref03_Has all_1761 x_1826).bind fun (r_1828 : Bool) =>
  if r_1828 = true then
  some (.done (.inr false))
  else
  some (.next (IntKind.i64.wrap (k_1814 + 1)))
  else
  some (.done (.inl ()))
noncomputable def drossref55_once_l4 (l_1723 : List (List Int)) : (List Int × Int) → Option (LS (List Int × Int) ((Unit) ⊕ (Bool))) := fun (all_1761, i_1762) =>
  if i_1762 < (l_1723.length : Int) then
  (idx l_1723 i_1762).bind fun (x_1801 : List Int) =>
  (drossref55_Cluster x_1801).bind fun (r_1803 : Bool) =>
  if r_1803 = true then
  (LoopF (drossref55_once_l3 l_1723 all_1761 i_1762) 0).bind (fun o => match o with
  | .inl () =>
  if roomB (all_1761.length + x_1801.length) 8 = true then
  some (.next ((all_1761 ++ x_1801), (IntKind.i64.wrap (i_1762 + 1))))
  else none
  | .inr r_1834 =>
  some (.done (.inr r_1834)))
  else
  some (.done (.inr false))
  else
  some (.done (.inl ()))
noncomputable def drossref55_once (l_1723 : List (List Int)) : Option (Bool) :=
  (LoopF (drossref55_once_l4 l_1723) ([], 0)).bind (fun o => match o with
  | .inl () =>
  some true
  | .inr r_1839 =>
  some r_1839)
noncomputable def drossref55_WellFormed_l3 (m_1843 : Merged) (i_1901 : Int) : Int → Option (LS (Int) ((Unit) ⊕ (Bool))) := fun k_1974 =>
  (idx m_1843.Origins i_1901).bind fun (x_1985 : List Int) =>
  if k_1974 < (x_1985.length : Int) then
  (idx m_1843.Clusters i_1901).bind fun (x_1988 : List Int) =>
  (idx x_1985 k_1974).bind fun (x_1990 : Int) =>
  (drossref03_Has x_1988 x_1990).bind fun (r_1992 : Bool) =>
  if r_1992 = true then
  some (.next (IntKind.i64.wrap (k_1974 + 1)))
  else
  some (.done (.inr false))
  else
  some (.done (.inl ()))
noncomputable def drossref55_WellFormed_l4 (m_1843 : Merged) : Int → Option (LS (Int) ((Unit) ⊕ (Bool))) := fun i_1901 =>
  if i_1901 < (m_1843.Clusters.length : Int) then
  (idx m_1843.Table.Rows i_1901).bind fun (x_1952 : Row) =>
  (idx m_1843.Clusters i_1901).bind fun (x_1954 : List Int) =>
  (x_1954[0]?).bind fun (x_1956 : Int) =>
  if (x_1952.ID != x_1956) = true then
  some (.done (.inr false))
  else
  (idx m_1843.Origins i_1901).bind fun (x_1961 : List Int) =>
  if ((x_1961.length : Int) != (m_1843.Table.Attrs.length : Int)) = true then
  some (.done (.inr false))
  else
  (LoopF (drossref55_WellFormed_l3 m_1843 i_1901) 0).bind (fun o => match o with
  | .inl () =>
  some (.next (IntKind.i64.wrap (i_1901 + 1)))
  | .inr r_1997 =>
  some (.done (.inr r_1997)))
  else
  some (.done (.inl ()))
noncomputable def drossref55_WellFormed (m_1843 : Merged) : Option (Bool) :=
  (drossref03_Valid m_1843.Table).bind fun (r_1844 : Int) =>
  if (r_1844 != 0) = true then
  some false
  else
  if ((m_1843.Clusters.length : Int) != (m_1843.Table.Rows.length : Int)) = true then
  some false
  else
  if ((m_1843.Origins.length : Int) != (m_1843.Table.Rows.length : Int)) = true then
  some false
  else
  (drossref55_once m_1843.Clusters).bind fun (r_1849 : Bool) =>
  if r_1849 = true then
  (LoopF (drossref55_WellFormed_l4 m_1843) 0).bind (fun o => match o with
  | .inl () =>
  some true
  | .inr r_2002 =>
  some r_2002)
  else
  some false
noncomputable def drossref03_Find_l1 (t_2006 : Table) (id_2007 : Int) : Int → Option (LS (Int) ((Unit) ⊕ (Int × Bool))) := fun i_2012 =>
  if i_2012 < (t_2006.Rows.length : Int) then
  (idx t_2006.Rows i_2012).bind fun (x_2018 : Row) =>
  if (x_2018.ID == id_2007) = true then
  some (.done (.inr (i_2012, true)))
  else
  some (.next (IntKind.i64.wrap (i_2012 + 1)))
  else
  some (.done (.inl ()))
noncomputable def drossref03_Find (t_2006 : Table) (id_2007 : Int) : Option (Int × Bool) :=
  (LoopF (drossref03_Find_l1 t_2006 id_2007) 0).bind (fun o => match o with
  | .inl () =>
  some (0, false)
  | .inr r_2023 =>
  some r_2023)
noncomputable def drossref55_Source (m_2027 : Merged) (c_2028 : CellRef) : Option (CellRef × Int) :=
  (drossref55_WellFormed m_2027).bind fun (r_2029 : Bool) =>
  if r_2029 = true then
  (drossref03_Find m_2027.Table c_2028.ID).bind fun (r_2034 : Int × Bool) =>
  if r_2034.2 = true then
  if c_2028.Attr < 0 then
  some ((CellRef.mk 0 0), 6)
  else
  if c_2028.Attr ≥ (m_2027.Table.Attrs.length : Int) then
  some ((CellRef.mk 0 0), 6)
  else
  (idx m_2027.Origins r_2034.1).bind fun (x_2039 : List Int) =>
  (idx x_2039 c_2028.Attr).bind fun (x_2041 : Int) =>
  some ((CellRef.mk x_2041 c_2028.Attr), 0)
  else
  some ((CellRef.mk 0 0), 4)
  else
  some ((CellRef.mk 0 0), 1)
noncomputable def slices_Equal_string_l1 (s1_2073 : List (List UInt8)) (s2_2074 : List (List UInt8)) : Int → Option (LS (Int) ((Unit) ⊕ (Bool))) := fun t13_2083 =>
  if t13_2083 < (s1_2073.length : Int) then
  (idx s1_2073 t13_2083).bind fun (x_2093 : List UInt8) =>
  (idx s2_2074 t13_2083).bind fun (x_2095 : List UInt8) =>
  if (x_2093 == x_2095) = true then
  some (.next (IntKind.i64.wrap (t13_2083 + 1)))
  else
  some (.done (.inr false))
  else
  some (.done (.inl ()))
noncomputable def slices_Equal_string (s1_2073 : List (List UInt8)) (s2_2074 : List (List UInt8)) : Option (Bool) :=
  if ((s1_2073.length : Int) != (s2_2074.length : Int)) = true then
  some false
  else
  (LoopF (slices_Equal_string_l1 s1_2073 s2_2074) 0).bind (fun o => match o with
  | .inl () =>
  some true
  | .inr r_2100 =>
  some r_2100)
noncomputable def slices_ContainsFunc_Row (s_2104 : List Row) (f_2105 : Row → Option (Bool)) : Option (Bool) :=
  (slices_IndexFunc_Row s_2104 f_2105).bind fun (r_2108 : Int) =>
  some (decide (r_2108 ≥ 0))
noncomputable def drossref03_Strings_l1 (a_2385 : List (List UInt8)) (b_2386 : List (List UInt8)) : Int → Option (LS (Int) ((Unit) ⊕ (Bool))) := fun i_2394 =>
  if i_2394 < (a_2385.length : Int) then
  (idx a_2385 i_2394).bind fun (x_2402 : List UInt8) =>
  (idx b_2386 i_2394).bind fun (x_2404 : List UInt8) =>
  if (x_2402 == x_2404) = true then
  some (.next (IntKind.i64.wrap (i_2394 + 1)))
  else
  some (.done (.inr false))
  else
  some (.done (.inl ()))
noncomputable def drossref03_Strings (a_2385 : List (List UInt8)) (b_2386 : List (List UInt8)) : Option (Bool) :=
  if ((a_2385.length : Int) != (b_2386.length : Int)) = true then
  some false
  else
  (LoopF (drossref03_Strings_l1 a_2385 b_2386) 0).bind (fun o => match o with
  | .inl () =>
  some true
  | .inr r_2409 =>
  some r_2409)
noncomputable def drossref55_Of_l3 (t_2413 : Table) (l_2414 : List (List Int)) (i_2454 : Int) : Int → Option (LS (Int) ((Unit) ⊕ (Bool))) := fun k_2504 =>
  (idx l_2414 i_2454).bind fun (x_2513 : List Int) =>
  if k_2504 < (x_2513.length : Int) then
  (idx x_2513 k_2504).bind fun (x_2516 : Int) =>
  (drossref03_Find t_2413 x_2516).bind fun (r_2518 : Int × Bool) =>
  if r_2518.2 = true then
  some (.next (IntKind.i64.wrap (k_2504 + 1)))
  else
  some (.done (.inr false))
  else
  some (.done (.inl ()))
noncomputable def drossref55_Of_l4 (t_2413 : Table) (l_2414 : List (List Int)) : (Int × Int) → Option (LS (Int × Int) ((Int) ⊕ (Bool))) := fun (n_2453, i_2454) =>
  if i_2454 < (l_2414.length : Int) then
  (idx l_2414 i_2454).bind fun (x_2494 : List Int) =>
  (LoopF (drossref55_Of_l3 t_2413 l_2414 i_2454) 0).bind (fun o => match o with
  | .inl () =>
  some (.next ((IntKind.i64.wrap (n_2453 + (x_2494.length : Int))), (IntKind.i64.wrap (i_2454 + 1))))
  | .inr r_2523 =>
  some (.done (.inr r_2523)))
  else
  some (.done (.inl n_2453))
noncomputable def drossref55_Of (t_2413 : Table) (l_2414 : List (List Int)) : Option (Bool) :=
  (drossref55_once l_2414).bind fun (r_2415 : Bool) =>
  if r_2415 = true then
  (LoopF (drossref55_Of_l4 t_2413 l_2414) (0, 0)).bind (fun o => match o with
  | .inl n_2490 =>
  some (n_2490 == (t_2413.Rows.length : Int))
  | .inr r_2528 =>
  some r_2528)
  else
  some false
noncomputable def drossref55_Merging_l3 (t_2532 : Table) (m_2533 : Merged) (i_2617 : Int) : Int → Option (LS (Int) ((Unit) ⊕ (Bool))) := fun k_2714 =>
  (idx m_2533.Origins i_2617).bind fun (x_2737 : List Int) =>
  if k_2714 < (x_2737.length : Int) then
  (idx x_2737 k_2714).bind fun (x_2744 : Int) =>
  (drossref03_Find t_2532 x_2744).bind fun (r_2746 : Int × Bool) =>
  (idx t_2532.Rows r_2746.1).bind fun (x_2748 : Row) =>
  (idx x_2748.Values k_2714).bind fun (x_2750 : Value) =>
  (idx m_2533.Table.Rows i_2617).bind fun (x_2752 : Row) =>
  (idx x_2752.Values k_2714).bind fun (x_2754 : Value) =>
  (drossref01_Compare x_2750 x_2754).bind fun (r_2756 : Int) =>
  if (r_2756 != 0) = true then
  some (.done (.inr false))
  else
  some (.next (IntKind.i64.wrap (k_2714 + 1)))
  else
  some (.done (.inl ()))
noncomputable def drossref55_Merging_l4 (t_2532 : Table) (m_2533 : Merged) : Int → Option (LS (Int) ((Unit) ⊕ (Bool))) := fun i_2617 =>
  if i_2617 < (m_2533.Origins.length : Int) then
  (LoopF (drossref55_Merging_l3 t_2532 m_2533 i_2617) 0).bind (fun o => match o with
  | .inl () =>
  some (.next (IntKind.i64.wrap (i_2617 + 1)))
  | .inr r_2761 =>
  some (.done (.inr r_2761)))
  else
  some (.done (.inl ()))
noncomputable def drossref55_Merging (t_2532 : Table) (m_2533 : Merged) : Option (Bool) :=
  (drossref55_WellFormed m_2533).bind fun (r_2534 : Bool) =>
  if r_2534 = true then
  if (m_2533.Table.Name == t_2532.Name) = true then
  (drossref03_Strings m_2533.Table.Attrs t_2532.Attrs).bind fun (r_2538 : Bool) =>
  if r_2538 = true then
  (drossref55_Of t_2532 m_2533.Clusters).bind fun (r_2541 : Bool) =>
  if r_2541 = true then
  (LoopF (drossref55_Merging_l4 t_2532 m_2533) 0).bind (fun o => match o with
  | .inl () =>
  some true
  | .inr r_2766 =>
  some r_2766)
  else
  some false
  else
  some false
  else
  some false
  else
  some false
noncomputable def drossref55_Lost_l11 (t_2770 : Table) (m_2771 : Merged) (i_3163 : Int) (c_3674 : Int) : (List CellRef × Int) → Option (LS (List CellRef × Int) (List CellRef)) := fun (out_3846, k_3847) =>
  if k_3847 < (t_2770.Attrs.length : Int) then
  (idx t_2770.Rows i_3163).bind fun (x_3891 : Row) =>
  (idx x_3891.Values k_3847).bind fun (x_3893 : Value) =>
  (show Option (Bool) from
  if (x_3893.Kind != 0) = true then
  (idx m_2771.Table.Rows c_3674).bind fun (x_3912 : Row) =>
  (idx x_3912.Values k_3847).bind fun (x_3916 : Value) =>
  (drossref01_Compare x_3893 x_3916).bind fun (r_3918 : Int) =>
  some (r_3918 != 0)
  else
  some false).bind (fun t81_3906 =>
  if t81_3906 = true then
  if roomB (out_3846.length + 1) 16 = true then
  some (.next ((out_3846 ++ [(CellRef.mk x_3891.ID k_3847)]), (IntKind.i64.wrap (k_3847 + 1))))
  else none
  else
  some (.next (out_3846, (IntKind.i64.wrap (k_3847 + 1)))))
  else
  some (.done out_3846)
noncomputable def drossref55_Lost_l12 (t_2770 : Table) (m_2771 : Merged) (i_3163 : Int) : (List CellRef × Int) → Option (LS (List CellRef × Int) (List CellRef)) := fun (out_3673, c_3674) =>
  if c_3674 < (m_2771.Clusters.length : Int) then
  (idx m_2771.Clusters c_3674).bind fun (x_3802 : List Int) =>
  (idx t_2770.Rows i_3163).bind fun (x_3804 : Row) =>
  (drossref03_Has x_3802 x_3804.ID).bind fun (r_3806 : Bool) =>
  if r_3806 = true then
  (LoopF (drossref55_Lost_l11 t_2770 m_2771 i_3163 c_3674) (out_3673, 0)).bind (fun out_3885 =>
  some (.next (out_3885, (IntKind.i64.wrap (c_3674 + 1)))))
  else
  some (.next (out_3673, (IntKind.i64.wrap (c_3674 + 1))))
  else
  some (.done out_3673)
noncomputable def drossref55_Lost_l13 (t_2770 : Table) (m_2771 : Merged) : (List CellRef × Int) → Option (LS (List CellRef × Int) (List CellRef)) := fun (out_3162, i_3163) =>
  if i_3163 < (t_2770.Rows.length : Int) then
  (LoopF (drossref55_Lost_l12 t_2770 m_2771 i_3163) (out_3162, 0)).bind (fun out_3800 =>
  some (.next (out_3800, (IntKind.i64.wrap (i_3163 + 1)))))
  else
  some (.done out_3162)
noncomputable def drossref55_Lost (t_2770 : Table) (m_2771 : Merged) : Option (List CellRef × Int) :=
  (drossref03_Valid t_2770).bind fun (r_2774 : Int) =>
  if (r_2774 != 0) = true then
  some ([], r_2774)
  else
  (drossref55_Merging t_2770 m_2771).bind fun (r_2777 : Bool) =>
  if r_2777 = true then
  (LoopF (drossref55_Lost_l13 t_2770 m_2771) ([], 0)).bind (fun out_3546 =>
  some (out_3546, 0))
  else
  some ([], 1)
noncomputable def drossref55_Cells_l1 (a_3933 : List CellRef) (b_3934 : List CellRef) : Int → Option (LS (Int) ((Unit) ⊕ (Bool))) := fun i_3942 =>
  if i_3942 < (a_3933.length : Int) then
  (idx a_3933 i_3942).bind fun (x_3950 : CellRef) =>
  (idx b_3934 i_3942).bind fun (x_3952 : CellRef) =>
  if ((x_3950.ID == x_3952.ID) && (x_3950.Attr == x_3952.Attr)) = true then
  some (.next (IntKind.i64.wrap (i_3942 + 1)))
  else
  some (.done (.inr false))
  else
  some (.done (.inl ()))
noncomputable def drossref55_Cells (a_3933 : List CellRef) (b_3934 : List CellRef) : Option (Bool) :=
  if ((a_3933.length : Int) != (b_3934.length : Int)) = true then
  some false
  else
  (LoopF (drossref55_Cells_l1 a_3933 b_3934) 0).bind (fun o => match o with
  | .inl () =>
  some true
  | .inr r_3957 =>
  some r_3957)
end Go.Proofs.Ytdmddoljldjjeaa
/- Loops over lists, in plain Lean. -/
set_option linter.unusedVariables false
set_option linter.unusedSimpArgs false
namespace Go.Ab
open Go

/-- a loop over a list: f says how to go on or how it ends -/
def foldR {α β τ : Type} (f : β → α → β ⊕ τ) (fin : β → τ) : List α → β → τ
  | [], b => fin b
  | x :: r, b => match f b x with
    | .inl b' => foldR f fin r b'
    | .inr t => t

theorem LoopF_foldR {α β σ τ : Type} (l : List α) (S : β → Int → σ) (B : σ → Option (LS σ τ)) (f : β → α → β ⊕ τ) (fin : β → τ) (I : Nat → β → Prop)
    (hs : ∀ (k : Nat) b x, l[k]? = some x → I k b → (∀ b', f b x = .inl b' → B (S b k) = some (.next (S b' (k + 1 : Nat))) ∧ I (k + 1) b') ∧ (∀ t, f b x = .inr t → B (S b k) = some (.done t)))
    (he : ∀ b, I l.length b → B (S b l.length) = some (.done (fin b))) :
    ∀ (r : List α) (k : Nat) (b : β), l.drop k = r → k ≤ l.length → I k b → LoopF B (S b k) = some (foldR f fin r b) := by
  intro r
  induction r with
  | nil =>
    intro k b hd hk hI
    have : k = l.length := by
      have := congrArg List.length hd
      simp at this; omega
    subst this
    exact Loop_done (he b hI)
  | cons x r ih =>
    intro k b hd hk hI
    have hx : l[k]? = some x := by
      have := congrArg (·[0]?) hd
      simpa [List.getElem?_drop] using this
    have hlt : k < l.length := (List.getElem?_eq_some_iff.1 hx).1
    have hd' : l.drop (k + 1) = r := by
      rw [← List.drop_drop, hd]; rfl
    obtain ⟨h1, h2⟩ := hs k b x hx hI
    cases hf : f b x with
    | inl b' =>
      obtain ⟨h3, h4⟩ := h1 b' hf
      rw [Loop_next h3, ih (k + 1) b' hd' hlt h4]
      simp [foldR, hf]
    | inr t =>
      rw [Loop_done (h2 t hf)]
      simp [foldR, hf]

theorem LoopF_list {α β σ τ : Type} (l : List α) (S : β → Int → σ) (B : σ → Option (LS σ τ)) (f : β → α → β ⊕ τ) (fin : β → τ) (I : Nat → β → Prop) {b0 : β} {s0 : σ} (h0 : s0 = S b0 0) (hI : I 0 b0)
    (hs : ∀ (k : Nat) b x, l[k]? = some x → k < l.length → I k b → (∀ b', f b x = .inl b' → B (S b k) = some (.next (S b' (k + 1 : Nat))) ∧ I (k + 1) b') ∧ (∀ t, f b x = .inr t → B (S b k) = some (.done t)))
    (he : ∀ b, I l.length b → B (S b l.length) = some (.done (fin b))) : LoopF B s0 = some (foldR f fin l b0) := by
  subst h0
  exact LoopF_foldR l S B f fin I (fun k b x hx => hs k b x hx (lt_of_get hx)) he l 0 b0 rfl (Nat.zero_le _) hI

theorem wrap_succ {k n : Nat} (h : k < n) (hn : n ≤ 4611686018427387904) : IntKind.i64.wrap ((k : Int) + 1) = ((k + 1 : Nat) : Int) := by
  rw [wrap_i64 (by omega) (by omega)]; omega
theorem wrap_nat {k : Nat} (h : k < 4611686018427387904) : IntKind.i64.wrap ((k : Int) + 1) = ((k + 1 : Nat) : Int) := by
  rw [wrap_i64 (by omega) (by omega)]; omega
theorem wrap_u8 (c : UInt8) : IntKind.i64.wrap ((c.toNat : Nat) : Int) = ((c.toNat : Nat) : Int) := by
  have := c.toNat_lt
  exact wrap_i64 (by omega) (by omega)
theorem room_le {n b : Nat} (h : n ≤ 1073741824) (hb : b ≤ 65536) : roomB n b = true := by
  unfold roomB
  have : n * b ≤ 1073741824 * 65536 := Nat.mul_le_mul h hb
  simp only [decide_eq_true_eq]
  omega
theorem idx_get {α : Type} {l : List α} {k : Nat} {x : α} (h : l[k]? = some x) : idx l (k : Int) = some x := by rw [idx_nat, h]
theorem lt_true {α : Type} {l : List α} {k : Nat} {x : α} (h : l[k]? = some x) : ((k : Int) < (l.length : Int)) := by have := lt_of_get h; omega

/-! ### kinds of loops -/
theorem foldR_all {α : Type} (p : α → Bool) : ∀ l : List α, foldR (fun (_ : Unit) x => if p x then Sum.inl () else Sum.inr (Sum.inr false)) (fun _ => (Sum.inl () : Unit ⊕ Bool)) l () = if l.all p then .inl () else .inr false
  | [] => rfl
  | x :: r => by
    simp only [foldR, List.all_cons]
    rcases Bool.eq_false_or_eq_true (p x) with h | h <;> simp [h, foldR_all p r]
theorem foldl_of {α β : Type} (g : β → α → β) : ∀ (l : List α) (b : β), foldR (fun b x => (Sum.inl (g b x) : β ⊕ β)) id l b = l.foldl g b
  | [], _ => rfl
  | x :: r, b => by simp only [foldR, List.foldl_cons]; exact foldl_of g r _
theorem foldl_of' {α β τ : Type} (g : β → α → β) (fin : β → τ) : ∀ (l : List α) (b : β), foldR (fun b x => (Sum.inl (g b x) : β ⊕ τ)) fin l b = fin (l.foldl g b)
  | [], _ => rfl
  | x :: r, b => by simp only [foldR, List.foldl_cons]; exact foldl_of' g fin r _
end Go.Ab
namespace Go.Ab
open Go
theorem LoopF_all {α ρ : Type} (l : List α) (B : Int → Option (LS Int (Unit ⊕ ρ))) (p : α → Bool) (bad : ρ)
    (h1 : ∀ (k : Nat) x, l[k]? = some x → k < l.length → p x = true → B k = some (.next (k + 1 : Nat))) (h2 : ∀ (k : Nat) x, l[k]? = some x → p x = false → B k = some (.done (.inr bad))) (h3 : B l.length = some (.done (.inl ()))) :
    LoopF B 0 = some (if l.all p then .inl () else .inr bad) := by
  have h := LoopF_list l (fun (_ : Unit) i => i) B (fun (_ : Unit) x => if p x then Sum.inl () else Sum.inr (Sum.inr bad)) (fun _ => Sum.inl ()) (fun _ _ => True) (b0 := ()) (s0 := 0) rfl trivial
    (fun k b x hx hk _ => by
      constructor
      · intro b' hf
        refine ⟨?_, trivial⟩
        rcases Bool.eq_false_or_eq_true (p x) with hp | hp
        · exact h1 k x hx hk hp
        · simp [hp] at hf
      · intro t hf
        rcases Bool.eq_false_or_eq_true (p x) with hp | hp
        · simp [hp] at hf
        · simp [hp] at hf; subst hf; exact h2 k x hx hp)
    (fun b _ => h3)
  rw [h]
  congr 1
  clear h h1 h2 h3
  induction l with
  | nil => rfl
  | cons x r ih => rcases Bool.eq_false_or_eq_true (p x) with hp | hp <;> simp [foldR, hp, ih]
theorem LoopF_find {α : Type} (l : List α) (B : Int → Option (LS Int (Unit ⊕ Int))) (p : α → Bool)
    (h1 : ∀ (k : Nat) x, l[k]? = some x → k < l.length → p x = false → B k = some (.next (k + 1 : Nat))) (h2 : ∀ (k : Nat) x, l[k]? = some x → p x = true → B k = some (.done (.inr k))) (h3 : B l.length = some (.done (.inl ()))) :
    LoopF B 0 = some (match l.findIdx? p with | some i => .inr (i : Int) | none => .inl ()) := by
  have key : ∀ (r : List α) (k : Nat), l.drop k = r → k ≤ l.length → LoopF B (k : Int) = some (match r.findIdx? p with | some i => .inr ((k + i : Nat) : Int) | none => .inl ()) := by
    intro r
    induction r with
    | nil =>
      intro k hd hk
      have : k = l.length := by
        have := congrArg List.length hd
        simp at this; omega
      subst this
      exact Loop_done h3
    | cons x r ih =>
      intro k hd hk
      have hx : l[k]? = some x := by
        have := congrArg (·[0]?) hd
        simpa [List.getElem?_drop] using this
      have hd' : l.drop (k + 1) = r := by rw [← List.drop_drop, hd]; rfl
      rcases Bool.eq_false_or_eq_true (p x) with hp | hp
      · rw [Loop_done (h2 k x hx hp)]
        simp [List.findIdx?_cons, hp]
      · rw [Loop_next (h1 k x hx (lt_of_get hx) hp), ih (k + 1) hd' (lt_of_get hx)]
        simp only [List.findIdx?_cons, hp]
        cases r.findIdx? p with
        | none => rfl
        | some i => simp; omega
  have := key l 0 (by simp) (Nat.zero_le _)
  simpa using this
/-- a loop that goes to the end of a list -/
theorem LoopF_foldl {α β σ τ : Type} (l : List α) (S : β → Int → σ) (B : σ → Option (LS σ τ)) (g : β → α → β) (fin : β → τ) (I : Nat → β → Prop) {b0 : β} {s0 : σ} (h0 : s0 = S b0 0) (hI : I 0 b0)
    (hs : ∀ (k : Nat) b x, l[k]? = some x → k < l.length → I k b → B (S b k) = some (.next (S (g b x) (k + 1 : Nat))) ∧ I (k + 1) (g b x))
    (he : ∀ b, I l.length b → B (S b l.length) = some (.done (fin b))) : LoopF B s0 = some (fin (l.foldl g b0)) := by
  rw [LoopF_list l S B (fun b x => Sum.inl (g b x)) fin I h0 hI (fun k b x hx hk hi => ⟨fun b' hb => by cases hb; exact hs k b x hx hk hi, fun t ht => by cases ht⟩) he, foldl_of']
/-- what holds after a loop that goes to the end -/
theorem foldl_inv {α β : Type} (g : β → α → β) (I : Nat → β → Prop) (l : List α) : ∀ (r : List α) (k : Nat) (b : β), l.drop k = r → I k b → (∀ k b x, l[k]? = some x → I k b → I (k + 1) (g b x)) → k ≤ l.length → I l.length (r.foldl g b) := by
  intro r
  induction r with
  | nil =>
    intro k b hd hI _ hk
    have : k = l.length := by
      have := congrArg List.length hd
      simp at this; omega
    subst this; exact hI
  | cons x r ih =>
    intro k b hd hI hs hk
    have hx : l[k]? = some x := by
      have := congrArg (·[0]?) hd
      simpa [List.getElem?_drop] using this
    exact ih (k + 1) _ (by rw [← List.drop_drop, hd]; rfl) (hs k b x hx hI) hs (lt_of_get hx)
end Go.Ab
namespace Go.Ab
open Go
/-! ### what is known of the arguments -/
def okI (k : IntKind) (n : Int) : Prop := (Lit.int k n).wf = true
def okS (s : List UInt8) : Prop := s.length ≤ 1048576
def okL {α : Type} (ok : α → Prop) (l : List α) : Prop := l.length ≤ 1048576 ∧ ∀ x ∈ l, ok x
end Go.Ab
set_option linter.unusedVariables false
namespace Go.Proofs.Ytdmddoljldjjeaa
open Go Go.Ab
def okValue (x : Value) : Prop := (okI .i64) x.Kind ∧ (okI .i64) x.Num ∧ okS x.Str
def okRow (x : Row) : Prop := (okI .i64) x.ID ∧ (okL okValue) x.Values
def okDrossref55_Result (x : Drossref55_Result) : Prop := okValue x.Value ∧ (okI .i64) x.Origin
def okDrossref55_Row (x : Drossref55_Row) : Prop := okRow x.Row ∧ (okL (okI .i64)) x.Origins
def okTable (x : Table) : Prop := okS x.Name ∧ (okL okS) x.Attrs ∧ (okL okRow) x.Rows
def okMerged (x : Merged) : Prop := okTable x.Table ∧ (okL (okL (okI .i64))) x.Clusters ∧ (okL (okL (okI .i64))) x.Origins
def okCellRef (x : CellRef) : Prop := (okI .i64) x.ID ∧ (okI .i64) x.Attr
end Go.Proofs.Ytdmddoljldjjeaa
/- The values of the program and of the reference: valid ones, their order. -/
set_option linter.unusedVariables false
set_option linter.unusedSimpArgs false
namespace Go.Proofs.Ytdmddoljldjjeaa
open Go Go.Ab

def valid (v : Value) : Bool := decide ((v.Kind = 0 ∧ v.Num = 0 ∧ v.Str = []) ∨ (v.Kind = 1 ∧ v.Str = []) ∨ (v.Kind = 2 ∧ v.Num = 0 ∧ v.Str.length ≤ 200) ∨ (v.Kind = 3 ∧ 1 ≤ v.Num ∧ v.Str = []))
theorem value_Valid_eq (v : Value) : value_Valid v = some (valid v) := by
  simp only [value_Valid, valid]
  repeat' split
  all_goals simp_all
  all_goals (try omega)
  all_goals (try (rw [Bool.eq_iff_iff]; simp <;> omega))
theorem ref_Valid_eq (v : Value) : drossref01_Valid v = some (valid v) := by
  simp only [drossref01_Valid, valid]
  repeat' split
  all_goals simp_all
  all_goals (try omega)
  all_goals (try (rw [Bool.eq_iff_iff]; simp <;> omega))

theorem ref_Valids_eq (l : List Value) (hl : l.length ≤ 1073741824) : drossref01_Valids l = some (l.all valid) := by
  have h := LoopF_list l (fun (_ : Unit) i => i) (drossref01_Valids_l1 l) (fun (_ : Unit) x => if valid x then Sum.inl () else Sum.inr (Sum.inr false)) (fun _ => Sum.inl ()) (fun _ _ => True) (b0 := ()) (s0 := 0) rfl trivial
    (fun k b x hx hk _ => by
      constructor
      · intro b' hf
        refine ⟨?_, trivial⟩
        have hv : valid x = true := by
          by_cases hc : valid x = true
          · exact hc
          · simp [hc] at hf
        simp [drossref01_Valids_l1, lt_true hx, idx_get hx, ref_Valid_eq, hv, wrap_succ hk (by omega)]
      · intro t hf
        have hv : valid x = false := by
          by_cases hc : valid x = true
          · simp [hc] at hf
          · simpa using hc
        simp [hv] at hf
        subst hf
        simp [drossref01_Valids_l1, lt_true hx, idx_get hx, ref_Valid_eq, hv])
    (fun b _ => by simp [drossref01_Valids_l1])
  simp only [drossref01_Valids]
  rw [h, foldR_all]
  cases h2 : l.all valid <;> simp [h2]

def sgn (a b : Int) : Int := if a < b then -1 else if b < a then 1 else 0
theorem ref_sign_eq (a b : Int) : drossref01_sign a b = some (sgn a b) := by
  simp only [drossref01_sign, sgn]
  split <;> (try split) <;> simp_all
theorem cmp_int_eq (a b : Int) : cmp_Compare_int a b = some (sgn a b) := by
  simp only [cmp_Compare_int, cmp_isNaN_int, sgn]
  simp
  split <;> (try split) <;> simp_all
theorem cmp_int64_eq (a b : Int) : cmp_Compare_int64 a b = some (sgn a b) := by
  simp only [cmp_Compare_int64, cmp_isNaN_int64, sgn]
  simp
  split <;> (try split) <;> simp_all

def strc : List UInt8 → List UInt8 → Int
  | [], [] => 0
  | [], _ :: _ => -1
  | _ :: _, [] => 1
  | a :: x, b :: y => if a = b then strc x y else sgn a.toNat b.toNat
theorem compareBytes_eq : ∀ a b : List UInt8, Lib.compareBytes a b = strc a b
  | [], [] => rfl
  | [], _ :: _ => rfl
  | _ :: _, [] => rfl
  | x :: a, y :: b => by
    simp only [Lib.compareBytes, strc, sgn, compareBytes_eq a b, UInt8.lt_iff_toNat_lt, ← UInt8.toNat_inj]
    split <;> split <;> (try split) <;> (try split) <;> omega
theorem strings_Compare_eq (a b : List UInt8) : strings_Compare a b = some (strc a b) := by
  simp [strings_Compare, bytealg_CompareString, compareBytes_eq]
theorem sgn_ne {a b : Int} (h : a ≠ b) : sgn a b ≠ 0 := by
  unfold sgn; split <;> (try split) <;> omega
theorem sgn_self (a : Int) : sgn a a = 0 := by unfold sgn; simp

/-- what the reference's loop finds in two strings -/
theorem strings_loop (a b : List UInt8) (ha : a.length ≤ 1073741824) : ∀ (r : List UInt8) (k : Nat), a.drop k = r → k ≤ a.length → k ≤ b.length → 
    (∃ o, LoopF (drossref01_strings_l1 a b) (k : Int) = some o ∧ (match o with | .inl () => sgn (r.length) ((b.drop k).length) = strc r (b.drop k) | .inr z => z = strc r (b.drop k))) := by
  intro r
  induction r with
  | nil =>
    intro k hd hk hkb
    have hk' : k = a.length := by
      have := congrArg List.length hd
      simp at this; omega
    subst hk'
    refine ⟨.inl (), Loop_done (by simp [drossref01_strings_l1]), ?_⟩
    cases hb : b.drop a.length with
    | nil => rfl
    | cons y s => simp [strc, sgn]
  | cons x r ih =>
    intro k hd hk hkb
    have hx : a[k]? = some x := by
      have := congrArg (·[0]?) hd
      simpa [List.getElem?_drop] using this
    have hd' : a.drop (k + 1) = r := by rw [← List.drop_drop, hd]; rfl
    have hlt := lt_of_get hx
    cases hb : b.drop k with
    | nil =>
      have hkb' : k = b.length := by
        have := congrArg List.length hb
        simp at this; omega
      subst hkb'
      refine ⟨.inl (), Loop_done (by simp [drossref01_strings_l1]), ?_⟩
      simp [strc, sgn]; omega
    | cons y s =>
      have hy : b[k]? = some y := by
        have := congrArg (·[0]?) hb
        simpa [List.getElem?_drop] using this
      have hb' : b.drop (k + 1) = s := by rw [← List.drop_drop, hb]; rfl
      by_cases hxy : x = y
      · subst hxy
        have h1 : drossref01_strings_l1 a b (k : Int) = some (.next ((k + 1 : Nat) : Int)) := by
          simp [drossref01_strings_l1, lt_true hx, lt_true hy, idx_get hx, idx_get hy, wrap_succ hlt (by omega)]
        obtain ⟨o, h2, h3⟩ := ih (k + 1) hd' hlt (lt_of_get hy)
        refine ⟨o, by rw [Loop_next h1]; exact h2, ?_⟩
        rw [hb'] at h3
        cases o with
        | inl u =>
          simp only at h3 ⊢
          rw [strc, if_pos rfl, ← h3]
          simp only [List.length_cons, sgn]
          split <;> split <;> (try split) <;> (try split) <;> omega
        | inr z =>
          simp only at h3 ⊢
          rw [strc, if_pos rfl, ← h3]
      · have hne : (((x.toNat : Nat) : Int) != ((y.toNat : Nat) : Int)) = true := by
          simp only [bne_iff_ne, ne_eq, Int.natCast_inj, UInt8.toNat_inj]
          exact hxy
        refine ⟨.inr (sgn x.toNat y.toNat), Loop_done ?_, ?_⟩
        · simp only [drossref01_strings_l1, if_pos (lt_true hx), if_pos (lt_true hy), idx_get hx, idx_get hy, Option.bind_some, if_pos hne, wrap_u8, ref_sign_eq]
        · simp only [strc, if_neg hxy]
theorem ref_strings_eq (a b : List UInt8) (ha : a.length ≤ 1073741824) : drossref01_strings a b = some (strc a b) := by
  obtain ⟨o, h1, h2⟩ := strings_loop a b ha a 0 (by simp) (Nat.zero_le _) (Nat.zero_le _)
  simp only [drossref01_strings]
  have h1' : LoopF (drossref01_strings_l1 a b) 0 = some o := h1
  rw [h1']
  cases o with
  | inl u =>
    simp only [List.drop_zero] at h2
    simp [ref_sign_eq, h2]
  | inr z =>
    simp only [List.drop_zero] at h2
    simp [h2]

def vcmp (a b : Value) : Int := if sgn a.Kind b.Kind ≠ 0 then sgn a.Kind b.Kind else if sgn a.Num b.Num ≠ 0 then sgn a.Num b.Num else strc a.Str b.Str
theorem ref_Compare_eq (a b : Value) (ha : a.Str.length ≤ 1073741824) : drossref01_Compare a b = some (vcmp a b) := by
  simp only [drossref01_Compare, ref_sign_eq, ref_strings_eq _ _ ha, vcmp, Option.bind_some]
  split <;> (try split) <;> (try split) <;> simp_all
theorem Or3_eq (a b c : Int) : cmp_Or_int [a, b, c] = some (if a ≠ 0 then a else if b ≠ 0 then b else c) := by
  simp only [cmp_Or_int]
  have w0 : IntKind.i64.wrap 1 = 1 := by decide
  have w1 : IntKind.i64.wrap 2 = 2 := by decide
  have w2 : IntKind.i64.wrap 3 = 3 := by decide
  by_cases h1 : a = 0
  · by_cases h2 : b = 0
    · by_cases h3 : c = 0
      · rw [Loop_next (s' := 1) (by simp [cmp_Or_int_l1, idx, h1, w0]), Loop_next (s' := 2) (by simp [cmp_Or_int_l1, idx, h2, w1]), Loop_next (s' := 3) (by simp [cmp_Or_int_l1, idx, h3, w2]), Loop_done (t := .inl ()) (by simp [cmp_Or_int_l1])]
        simp [h1, h2, h3]
      · rw [Loop_next (s' := 1) (by simp [cmp_Or_int_l1, idx, h1, w0]), Loop_next (s' := 2) (by simp [cmp_Or_int_l1, idx, h2, w1]), Loop_done (t := .inr c) (by simp [cmp_Or_int_l1, idx, h3])]
        simp [h1, h2]
    · rw [Loop_next (s' := 1) (by simp [cmp_Or_int_l1, idx, h1, w0]), Loop_done (t := .inr b) (by simp [cmp_Or_int_l1, idx, h2])]
      simp [h1, h2]
  · rw [Loop_done (t := .inr a) (by simp [cmp_Or_int_l1, idx, h1])]
    simp [h1]
theorem value_Compare_eq (a b : Value) : value_Compare a b = some (vcmp a b) := by
  simp only [value_Compare, cmp_int_eq, cmp_int64_eq, strings_Compare_eq, Option.bind_some, Or3_eq, vcmp]

theorem strc_eq : ∀ a b : List UInt8, strc a b = 0 ↔ a = b
  | [], [] => by simp [strc]
  | [], _ :: _ => by simp [strc]
  | _ :: _, [] => by simp [strc]
  | x :: a, y :: b => by
    simp only [strc]
    by_cases h : x = y
    · subst h; simp [strc_eq a b]
    · have : sgn x.toNat y.toNat ≠ 0 := sgn_ne (by simpa [Int.natCast_inj, UInt8.toNat_inj] using h)
      simp [h, this]
theorem sgn_zero (a b : Int) : sgn a b = 0 ↔ a = b := by
  unfold sgn; split <;> (try split) <;> omega
theorem vcmp_eq (a b : Value) : vcmp a b = 0 ↔ a = b := by
  unfold vcmp
  cases a; cases b
  simp only [Value.mk.injEq]
  split
  · rename_i h; simp only [ne_eq, sgn_zero] at h; simp [sgn_zero, h]
  · rename_i h; simp only [ne_eq, sgn_zero, Decidable.not_not] at h
    split
    · rename_i h2; simp only [ne_eq, sgn_zero] at h2; simp [sgn_zero, h2]
    · rename_i h2; simp only [ne_eq, sgn_zero, Decidable.not_not] at h2
      simp [strc_eq, h, h2]
def veq (a b : Value) : Bool := (a.Kind == b.Kind) && ((a.Num == b.Num) && (a.Str == b.Str))
theorem veq_iff (a b : Value) : veq a b = true ↔ a = b := by
  cases a; cases b; simp [veq]
theorem veq_eq (a b : Value) : veq a b = decide (a = b) := by
  rw [Bool.eq_iff_iff, veq_iff]; simp
end Go.Proofs.Ytdmddoljldjjeaa
/- The rows of the merging. -/
set_option linter.unusedVariables false
set_option linter.unusedSimpArgs false
namespace Go.Proofs.Ytdmddoljldjjeaa
open Go Go.Ab

def rowsErr : List Row → Int
  | [] => 12
  | r :: l => if (r :: l).all (fun x => x.Values.length == r.Values.length) then 0 else 6
theorem checkRows_eq (rows : List Row) (hl : rows.length ≤ 1073741824) : survivor_checkRows rows = some (rowsErr rows) := by
  cases rows with
  | nil => rfl
  | cons r l =>
    have h := LoopF_all (r :: l) (survivor_checkRows_l1 (r :: l)) (fun x => x.Values.length == r.Values.length) 6
      (fun k x hx hk hp => by
        have hp' : ¬ (((x.Values.length : Int) != (r.Values.length : Int)) = true) := by simp at hp ⊢; omega
        simp only [survivor_checkRows_l1, if_pos (lt_true hx), idx_get hx, Option.bind_some, List.getElem?_cons_zero, if_neg hp', wrap_succ hk (by omega)])
      (fun k x hx hp => by
        have hp' : (((x.Values.length : Int) != (r.Values.length : Int)) = true) := by simp at hp ⊢; omega
        simp only [survivor_checkRows_l1, if_pos (lt_true hx), idx_get hx, Option.bind_some, List.getElem?_cons_zero, if_pos hp'])
      (by simp [survivor_checkRows_l1])
    have hn : ¬ ((((r :: l).length : Int) == 0) = true) := by simp; omega
    simp only [survivor_checkRows, if_neg hn, h, Option.bind_some, rowsErr]
    cases ((r :: l).all fun x => x.Values.length == r.Values.length) <;> rfl
theorem rowsError_eq (rows : List Row) (hl : rows.length ≤ 1073741824) : drossref55_rowsError rows = some (rowsErr rows) := by
  cases rows with
  | nil => rfl
  | cons r l =>
    have h := LoopF_all (r :: l) (drossref55_rowsError_l1 (r :: l)) (fun x => x.Values.length == r.Values.length) 6
      (fun k x hx hk hp => by
        have hp' : ¬ (((x.Values.length : Int) != (r.Values.length : Int)) = true) := by simp at hp ⊢; omega
        simp only [drossref55_rowsError_l1, if_pos (lt_true hx), idx_get hx, Option.bind_some, List.getElem?_cons_zero, if_neg hp', wrap_succ hk (by omega)])
      (fun k x hx hp => by
        have hp' : (((x.Values.length : Int) != (r.Values.length : Int)) = true) := by simp at hp ⊢; omega
        simp only [drossref55_rowsError_l1, if_pos (lt_true hx), idx_get hx, Option.bind_some, List.getElem?_cons_zero, if_pos hp'])
      (by simp [drossref55_rowsError_l1])
    have hn : ¬ ((((r :: l).length : Int) == 0) = true) := by simp; omega
    simp only [drossref55_rowsError, if_neg hn, h, Option.bind_some, rowsErr]
    cases ((r :: l).all fun x => x.Values.length == r.Values.length) <;> rfl

theorem IndexFunc_Value_eq (l : List Value) (f : Value → Option Bool) (p : Value → Bool) (hf : ∀ x ∈ l, f x = some (p x)) (hl : l.length ≤ 1073741824) : slices_IndexFunc_Value l f = some (match l.findIdx? p with | some i => (i : Int) | none => -1) := by
  have h := LoopF_find l (slices_IndexFunc_Value_l1 l f) p
    (fun k x hx hk hp => by simp [slices_IndexFunc_Value_l1, lt_true hx, idx_get hx, hf x (List.mem_of_getElem? hx), hp, wrap_succ hk (by omega)])
    (fun k x hx hp => by simp [slices_IndexFunc_Value_l1, lt_true hx, idx_get hx, hf x (List.mem_of_getElem? hx), hp])
    (by simp [slices_IndexFunc_Value_l1])
  simp only [slices_IndexFunc_Value, h, Option.bind_some]
  cases l.findIdx? p <;> rfl
theorem IndexFunc_Row_eq (l : List Row) (f : Row → Option Bool) (p : Row → Bool) (hf : ∀ x ∈ l, f x = some (p x)) (hl : l.length ≤ 1073741824) : slices_IndexFunc_Row l f = some (match l.findIdx? p with | some i => (i : Int) | none => -1) := by
  have h := LoopF_find l (slices_IndexFunc_Row_l1 l f) p
    (fun k x hx hk hp => by simp [slices_IndexFunc_Row_l1, lt_true hx, idx_get hx, hf x (List.mem_of_getElem? hx), hp, wrap_succ hk (by omega)])
    (fun k x hx hp => by simp [slices_IndexFunc_Row_l1, lt_true hx, idx_get hx, hf x (List.mem_of_getElem? hx), hp])
    (by simp [slices_IndexFunc_Row_l1])
  simp only [slices_IndexFunc_Row, h, Option.bind_some]
  cases l.findIdx? p <;> rfl
theorem findIdx_any {α : Type} (p : α → Bool) (l : List α) : decide ((match l.findIdx? p with | some i => ((i : Nat) : Int) | none => -1) ≥ 0) = l.any p := by
  cases h : l.findIdx? p with
  | none =>
    rw [List.findIdx?_eq_none_iff] at h
    have : l.any p = false := by rw [List.any_eq_false]; intro x hx; simp [h x hx]
    rw [this]; rfl
  | some i =>
    have : l.any p = true := by
      rw [List.findIdx?_eq_some_iff_getElem] at h
      obtain ⟨hi, hp, _⟩ := h
      rw [List.any_eq_true]
      exact ⟨_, List.getElem_mem hi, hp⟩
    rw [this]; simp
theorem ContainsFunc_Value_eq (l : List Value) (f : Value → Option Bool) (p : Value → Bool) (hf : ∀ x ∈ l, f x = some (p x)) (hl : l.length ≤ 1073741824) : slices_ContainsFunc_Value l f = some (l.any p) := by
  simp only [slices_ContainsFunc_Value, IndexFunc_Value_eq l f p hf hl, Option.bind_some, findIdx_any]

/-- the IDs ascend from a number on, and all values are valid -/
def okRows : Int → List Row → Bool
  | _, [] => true
  | a, r :: l => decide (a < r.ID) && r.Values.all valid && okRows r.ID l
theorem foldR_ok {ρ : Type} (bad : ρ) : ∀ (l : List Row) (a : Int), foldR (fun (a : Int) (r : Row) => if decide (a < r.ID) && r.Values.all valid then Sum.inl r.ID else Sum.inr (Sum.inr bad)) (fun _ => (Sum.inl () : Unit ⊕ ρ)) l a = if okRows a l then .inl () else .inr bad
  | [], _ => rfl
  | r :: l, a => by
    simp only [foldR, okRows]
    rcases Bool.eq_false_or_eq_true (decide (a < r.ID) && r.Values.all valid) with h | h
    · simp only [h, if_true, Bool.true_and]; exact foldR_ok bad l r.ID
    · simp [h]
theorem checkValues_eq (rows : List Row) (hl : rows.length ≤ 1073741824) (hv : ∀ r ∈ rows, r.Values.length ≤ 1073741824) : survivor_checkValues rows = some (if okRows 0 rows then 0 else 1) := by
  have h := LoopF_list rows (fun (a : Int) i => (a, i)) (survivor_checkValues_l1 rows) (fun (a : Int) (r : Row) => if decide (a < r.ID) && r.Values.all valid then Sum.inl r.ID else Sum.inr (Sum.inr 1)) (fun _ => Sum.inl ()) (fun _ _ => True) (b0 := 0) (s0 := (0, 0)) rfl trivial
    (fun k a x hx hk _ => by
      have hc : slices_ContainsFunc_Value x.Values (fun y => survivor_checkValues_1 y) = some (x.Values.any fun v => !valid v) :=
        ContainsFunc_Value_eq _ _ _ (fun y _ => by simp [survivor_checkValues_1, value_Valid_eq]) (hv x (List.mem_of_getElem? hx))
      have ha : (x.Values.any fun v => !valid v) = !x.Values.all valid := by simp [List.all_eq_not_any_not]
      rw [ha] at hc
      have hB : survivor_checkValues_l1 rows (a, (k : Int)) = if decide (a < x.ID) && x.Values.all valid then some (.next (x.ID, ((k + 1 : Nat) : Int))) else some (.done (.inr 1)) := by
        simp only [survivor_checkValues_l1, if_pos (lt_true hx), idx_get hx, Option.bind_some, hc, wrap_succ hk (by omega)]
        by_cases h1 : a < x.ID
        · have : ¬ x.ID ≤ a := by omega
          simp only [if_neg this, h1, decide_true, Bool.true_and]
          cases x.Values.all valid <;> simp
        · have : x.ID ≤ a := by omega
          simp [this, h1]
      constructor
      · intro b' hf
        refine ⟨?_, trivial⟩
        split at hf
        · cases hf; rw [hB]; simp_all
        · cases hf
      · intro t hf
        split at hf
        · cases hf
        · cases hf; rw [hB]; simp_all)
    (fun b _ => by simp [survivor_checkValues_l1])
  simp only [survivor_checkValues, h, foldR_ok, Option.bind_some]
  cases okRows 0 rows <;> rfl
theorem ref_valid_eq (rows : List Row) (hl : rows.length ≤ 1073741824) (hv : ∀ r ∈ rows, r.Values.length ≤ 1073741824) : drossref55_valid rows = some (okRows 0 rows) := by
  have h := LoopF_list rows (fun (a : Int) i => (a, i)) (drossref55_valid_l1 rows) (fun (a : Int) (r : Row) => if decide (a < r.ID) && r.Values.all valid then Sum.inl r.ID else Sum.inr (Sum.inr false)) (fun _ => Sum.inl ()) (fun _ _ => True) (b0 := 0) (s0 := (0, 0)) rfl trivial
    (fun k a x hx hk _ => by
      have hc := ref_Valids_eq x.Values (hv x (List.mem_of_getElem? hx))
      have hB : drossref55_valid_l1 rows (a, (k : Int)) = if decide (a < x.ID) && x.Values.all valid then some (.next (x.ID, ((k + 1 : Nat) : Int))) else some (.done (.inr false)) := by
        simp only [drossref55_valid_l1, if_pos (lt_true hx), idx_get hx, Option.bind_some, hc, wrap_succ hk (by omega)]
        by_cases h1 : a < x.ID
        · have : ¬ x.ID ≤ a := by omega
          simp only [if_neg this, h1, decide_true, Bool.true_and]
        · have : x.ID ≤ a := by omega
          simp [this, h1]
      constructor
      · intro b' hf
        refine ⟨?_, trivial⟩
        split at hf
        · cases hf; rw [hB]; simp_all
        · cases hf
      · intro t hf
        split at hf
        · cases hf
        · cases hf; rw [hB]; simp_all)
    (fun b _ => by simp [drossref55_valid_l1])
  simp only [drossref55_valid, h, foldR_ok, Option.bind_some]
  cases okRows 0 rows <;> rfl
end Go.Proofs.Ytdmddoljldjjeaa
/- The choice of a value. -/
set_option linter.unusedVariables false
set_option linter.unusedSimpArgs false
namespace Go.Proofs.Ytdmddoljldjjeaa
open Go Go.Ab

/-! ### the order of values -/
theorem sgn_lt (a b : Int) : sgn a b < 0 ↔ a < b := by unfold sgn; split <;> (try split) <;> omega
theorem sgn_gt (a b : Int) : 0 < sgn a b ↔ b < a := by unfold sgn; split <;> (try split) <;> omega
theorem sgn_neg (a b : Int) : sgn b a = - sgn a b := by unfold sgn; split <;> (try split) <;> (try split) <;> omega
theorem strc_neg : ∀ a b : List UInt8, strc b a = - strc a b
  | [], [] => rfl
  | [], _ :: _ => rfl
  | _ :: _, [] => rfl
  | x :: a, y :: b => by
    simp only [strc]
    by_cases h : x = y
    · subst h; simp [strc_neg a b]
    · have h' : ¬ y = x := fun e => h e.symm
      simp only [if_neg h, if_neg h']; exact sgn_neg _ _
theorem strc_trans : ∀ a b c : List UInt8, strc a b < 0 → strc b c < 0 → strc a c < 0
  | [], [], _, h, _ => by simp [strc] at h
  | [], _ :: _, [], _, h => by simp [strc] at h
  | [], _ :: _, _ :: _, _, _ => by simp [strc]
  | _ :: _, [], _, h, _ => by simp [strc] at h
  | _ :: _, _ :: _, [], _, h => by simp [strc] at h
  | x :: a, y :: b, z :: c, h1, h2 => by
    simp only [strc] at h1 h2 ⊢
    have ix : ∀ p q : UInt8, p = q ↔ (p.toNat : Int) = q.toNat := fun p q => by rw [Int.natCast_inj, UInt8.toNat_inj]
    by_cases hxy : x = y
    · subst hxy
      by_cases hxz : x = z
      · subst hxz
        simp only [if_pos] at h1 h2 ⊢
        exact strc_trans a b c h1 h2
      · simp only [if_neg hxz] at h2 ⊢
        exact h2
    · simp only [if_neg hxy, sgn_lt] at h1
      by_cases hyz : y = z
      · subst hyz
        simp only [if_neg hxy, sgn_lt]; exact h1
      · simp only [if_neg hyz, sgn_lt] at h2
        have hxz : ¬ x = z := by rw [ix]; omega
        simp only [if_neg hxz, sgn_lt]; omega
theorem vcmp_lt (a b : Value) : vcmp a b < 0 ↔ a.Kind < b.Kind ∨ (a.Kind = b.Kind ∧ (a.Num < b.Num ∨ (a.Num = b.Num ∧ strc a.Str b.Str < 0))) := by
  unfold vcmp
  split
  · rename_i h; rw [ne_eq, sgn_zero] at h; rw [sgn_lt]; omega
  · rename_i h; rw [ne_eq, sgn_zero, Decidable.not_not] at h
    split
    · rename_i h2; rw [ne_eq, sgn_zero] at h2; rw [sgn_lt]; omega
    · rename_i h2; rw [ne_eq, sgn_zero, Decidable.not_not] at h2
      constructor
      · intro h3; exact .inr ⟨h, .inr ⟨h2, h3⟩⟩
      · rintro (h3 | ⟨_, h3 | ⟨_, h3⟩⟩)
        · omega
        · omega
        · exact h3
theorem vcmp_trans (a b c : Value) (h1 : vcmp a b < 0) (h2 : vcmp b c < 0) : vcmp a c < 0 := by
  rw [vcmp_lt] at *
  rcases h1 with h1 | ⟨h1, h1' | ⟨h1', h1''⟩⟩ <;> rcases h2 with h2 | ⟨h2, h2' | ⟨h2', h2''⟩⟩ <;> try omega
  exact .inr ⟨by omega, .inr ⟨by omega, strc_trans _ _ _ h1'' h2''⟩⟩
theorem vcmp_neg (a b : Value) : vcmp b a = - vcmp a b := by
  unfold vcmp
  rw [sgn_neg a.Kind, sgn_neg a.Num, strc_neg a.Str]
  split <;> (try split) <;> (try split) <;> (try split) <;> omega
theorem vcmp_self (a : Value) : vcmp a a = 0 := (vcmp_eq a a).2 rfl

/-! ### which value is preferred -/
def betterB (cnt : Value → Int) (rule : Int) (v b : Value) : Bool :=
  if rule = 2 then decide (cnt v > cnt b) else if rule = 3 then decide (v.Kind = 2) && (decide (b.Kind ≠ 2) || decide ((v.Str.length : Int) > b.Str.length))
  else if rule = 4 then decide (vcmp v b < 0) else if rule = 5 then decide (vcmp v b > 0) else false
theorem better_irr (cnt : Value → Int) (rule : Int) (v : Value) : betterB cnt rule v v = false := by
  unfold betterB
  repeat' split
  all_goals simp [vcmp_self]
theorem better_trans (cnt : Value → Int) (rule : Int) (y v b : Value) (h1 : betterB cnt rule y v = true) (h2 : betterB cnt rule v b = true) : betterB cnt rule y b = true := by
  unfold betterB at *
  split at h1
  · rename_i hr; simp only [hr, if_true, decide_eq_true_eq] at *; omega
  · rename_i hr
    simp only [if_neg hr] at h2 ⊢
    split at h1
    · rename_i hr; simp only [hr, if_true, decide_eq_true_eq, Bool.and_eq_true, Bool.or_eq_true] at *
      obtain ⟨a1, a2⟩ := h1
      obtain ⟨b1, b2⟩ := h2
      refine ⟨a1, ?_⟩
      rcases b2 with b2 | b2
      · exact .inl b2
      · rcases a2 with a2 | a2
        · exact absurd b1 a2
        · exact .inr (by omega)
    · rename_i hr
      simp only [if_neg hr] at h2 ⊢
      split at h1
      · rename_i hr; simp only [hr, if_true, decide_eq_true_eq] at *; exact vcmp_trans _ _ _ h1 h2
      · rename_i hr
        simp only [if_neg hr] at h2 ⊢
        split at h1
        · rename_i hr; simp only [hr, if_true, decide_eq_true_eq] at *
          rw [vcmp_neg b] at *
          have e1 : vcmp b v < 0 := by have := vcmp_neg v b; omega
          have e2 : vcmp v y < 0 := by have := vcmp_neg y v; omega
          have := vcmp_trans _ _ _ e1 e2
          have := vcmp_neg b y
          omega
        · cases h1

theorem count_eq (l : List Value) (v : Value) (hl : l.length ≤ 1073741824) : survivor_count l v = some ((l.countP (veq · v) : Nat) : Int) := by
  have h := LoopF_foldl l (fun (n : Nat) i => ((n : Int), i)) (survivor_count_l1 l v) (fun n x => n + if veq x v then 1 else 0) (fun n => (n : Int)) (fun k n => n ≤ k) (b0 := 0) (s0 := (0, 0)) rfl (Nat.le_refl _)
    (fun k n x hx hk hI => by
      have e1 : IntKind.i64.wrap ((n : Int) + 1) = ((n + 1 : Nat) : Int) := wrap_nat (by omega)
      refine ⟨?_, by split <;> omega⟩
      rcases Bool.eq_false_or_eq_true (veq x v) with hv | hv
      · have hv' := hv
        unfold veq at hv'
        simp only [survivor_count_l1, if_pos (lt_true hx), idx_get hx, Option.bind_some, hv', if_true, e1, wrap_succ hk (by omega), hv]
      · have hv' := hv
        unfold veq at hv'
        simp only [survivor_count_l1, if_pos (lt_true hx), idx_get hx, Option.bind_some, hv', Bool.false_eq_true, if_false, e1, wrap_succ hk (by omega), hv, Nat.add_zero])
    (fun n _ => by simp [survivor_count_l1])
  simp only [survivor_count, h, Option.bind_some]
  congr 2
  have : ∀ (r : List Value) (n : Nat), r.foldl (fun n x => n + if veq x v then 1 else 0) n = n + r.countP (veq · v) := by
    intro r
    induction r with
    | nil => intro n; rfl
    | cons x r ih => intro n; rw [List.foldl_cons, ih, List.countP_cons]; omega
  rw [this]; simp

theorem better_eq (l : List Value) (v b : Value) (rule : Int) (hl : l.length ≤ 1073741824) : survivor_better l v b rule = some (betterB (fun x => ((l.countP (veq · x) : Nat) : Int)) rule v b) := by
  simp only [survivor_better, count_eq _ _ hl, value_Compare_eq, Option.bind_some, betterB]
  by_cases h2 : rule = 2
  · simp [h2]
  · by_cases h3 : rule = 3
    · simp only [h3]
      by_cases hk : v.Kind = 2 <;> by_cases hb : b.Kind = 2 <;> simp [hk, hb]
    · by_cases h4 : rule = 4
      · simp [h4]
      · by_cases h5 : rule = 5
        · simp [h5]
        · simp [h2, h3, h4, h5]

def cellV (r : Row) (a : Nat) : Value := r.Values.getD a ⟨0, 0, []⟩
theorem cellV_eq {r : Row} {a : Nat} {y : Value} (h : r.Values[a]? = some y) : cellV r a = y := by simp [cellV, h]
def Has (rows : List Row) (a : Nat) : Prop := ∀ r ∈ rows, r.Values[a]? = some (cellV r a)
def Short (rows : List Row) : Prop := ∀ r ∈ rows, ∀ v ∈ r.Values, v.Str.length ≤ 1073741824

theorem times_eq (rows : List Row) (a : Nat) (v : Value) (hl : rows.length ≤ 1073741824) (ha : Has rows a) (hs : Short rows) : drossref55_times rows a v = some (((rows.map (cellV · a)).countP (veq · v) : Nat) : Int) := by
  have h := LoopF_foldl rows (fun (n : Nat) i => ((n : Int), i)) (drossref55_times_l1 rows a v) (fun n x => n + if veq (cellV x a) v then 1 else 0) (fun n => (n : Int)) (fun k n => n ≤ k) (b0 := 0) (s0 := (0, 0)) rfl (Nat.le_refl _)
    (fun k n x hx hk hI => by
      have e1 : IntKind.i64.wrap ((n : Int) + 1) = ((n + 1 : Nat) : Int) := wrap_nat (by omega)
      refine ⟨?_, by split <;> omega⟩
      have hm := List.mem_of_getElem? hx
      have hc := ha x hm
      have hsh := hs x hm _ (List.mem_of_getElem? hc)
      simp only [drossref55_times_l1, if_pos (lt_true hx), idx_get hx, idx_get hc, Option.bind_some, ref_Compare_eq _ _ hsh, wrap_succ hk (by omega), e1]
      by_cases hv : cellV x a = v
      · have e2 : veq (cellV x a) v = true := (veq_iff _ _).2 hv
        have e3 : (vcmp (cellV x a) v == 0) = true := by simp [vcmp_eq, hv]
        simp only [e2, e3, if_true]
      · have e2 : veq (cellV x a) v = false := by rw [Bool.eq_false_iff]; exact fun h => hv ((veq_iff _ _).1 h)
        have e3 : ¬ (vcmp (cellV x a) v == 0) = true := by simp [vcmp_eq, hv]
        simp only [e2, if_neg e3, Bool.false_eq_true, if_false, Nat.add_zero])
    (fun n _ => by simp [drossref55_times_l1])
  simp only [drossref55_times, h, Option.bind_some]
  congr 2
  have : ∀ (r : List Row) (n : Nat), r.foldl (fun n x => n + if veq (cellV x a) v then 1 else 0) n = n + (r.map (cellV · a)).countP (veq · v) := by
    intro r
    induction r with
    | nil => intro n; rfl
    | cons x r ih => intro n; rw [List.foldl_cons, ih, List.map_cons, List.countP_cons]; omega
  rw [this]; simp

theorem ref_better_eq (rows : List Row) (a : Nat) (rule : Int) (v b : Value) (hl : rows.length ≤ 1073741824) (ha : Has rows a) (hs : Short rows) (hv : v.Str.length ≤ 1073741824) :
    drossref55_better rows a rule v b = some (betterB (fun x => (((rows.map (cellV · a)).countP (veq · x) : Nat) : Int)) rule v b) := by
  simp only [drossref55_better, times_eq _ _ _ hl ha hs, ref_Compare_eq _ _ hv, Option.bind_some, betterB]
  by_cases h2 : rule = 2
  · simp [h2]
  · by_cases h3 : rule = 3
    · simp only [h3]
      by_cases hk : v.Kind = 2 <;> by_cases hb : b.Kind = 2 <;> simp [hk, hb]
    · by_cases h4 : rule = 4
      · simp only [h4]
        by_cases hc : vcmp v b < 0 <;> simp [hc]
      · by_cases h5 : rule = 5
        · simp [h5]
        · simp [h2, h3, h4, h5]
end Go.Proofs.Ytdmddoljldjjeaa
/- Choose is the reference's Choose. -/
set_option linter.unusedVariables false
set_option linter.unusedSimpArgs false
namespace Go.Proofs.Ytdmddoljldjjeaa
open Go Go.Ab

/-- the greatest element that comes first, with the place where it was found -/
def pickF {β : Type} (B : Value → Value → Bool) (o : Value × β) (x : Value × β) : Value × β := if B x.1 o.1 then x else o
theorem pickF_first {β : Type} (B : Value → Value → Bool) (irr : ∀ v, B v v = false) (tr : ∀ y v b, B y v = true → B v b = true → B y b = true) : ∀ (r P : List (Value × β)) (o : Value × β),
    P.find? (fun p => p.1 == o.1) = some o → (∀ p ∈ P, B p.1 o.1 = false) → (P ++ r).find? (fun p => p.1 == (r.foldl (pickF B) o).1) = some (r.foldl (pickF B) o)
  | [], P, o, h1, _ => by simpa using h1
  | x :: r, P, o, h1, h2 => by
    have e : P ++ x :: r = (P ++ [x]) ++ r := by simp
    rw [e, List.foldl_cons]
    refine pickF_first B irr tr r (P ++ [x]) _ ?_ ?_
    · unfold pickF
      split
      · rename_i hb
        rw [List.find?_append]
        have : P.find? (fun p => p.1 == x.1) = none := by
          rw [List.find?_eq_none]
          intro p hp
          intro he
          have he' : p.1 = x.1 := by simpa using he
          have := h2 p hp
          rw [he', hb] at this; cases this
        rw [this]
        simp
      · rw [List.find?_append, h1]; rfl
    · intro p hp
      unfold pickF
      rcases List.mem_append.1 hp with hp | hp
      · split
        · rename_i hb
          rw [Bool.eq_false_iff]
          intro hy
          have := tr _ _ _ hy hb
          rw [h2 p hp] at this; cases this
        · exact h2 p hp
      · simp only [List.mem_singleton] at hp
        subst hp
        split
        · exact irr _
        · rename_i hb; simpa using hb
theorem foldl_fst {β : Type} (B : Value → Value → Bool) : ∀ (r : List (Value × β)) (o : Value × β), (r.foldl (pickF B) o).1 = (r.map (·.1)).foldl (fun b v => if B v b then v else b) o.1
  | [], _ => rfl
  | x :: r, o => by
    rw [List.foldl_cons, foldl_fst B r, List.map_cons, List.foldl_cons]
    congr 1
    unfold pickF; split <;> rfl

def nn (rows : List Row) (a : Nat) : List Row := rows.filter fun r => (cellV r a).Kind != 0
theorem nn_map (rows : List Row) (a : Nat) : (nn rows a).map (cellV · a) = (rows.map (cellV · a)).filter (fun v => v.Kind != 0) := by
  unfold nn
  rw [List.filter_map]; rfl

/-- the outcome of both -/
def chosen (rows : List Row) (a : Nat) (rule : Int) : Value × Int :=
  match nn rows a with
  | [] => (⟨0, 0, []⟩, (rows[0]?.map (·.ID)).getD 0)
  | r :: l => (l.map fun x => (cellV x a, x.ID)).foldl (pickF (betterB (fun x => (((rows.map (cellV · a)).countP (veq · x) : Nat) : Int)) rule)) (cellV r a, r.ID)

theorem findIdx_find {α : Type} (p : α → Bool) (l : List α) {x : α} (h : l.find? p = some x) : ∃ i, l.findIdx? p = some i ∧ l[i]? = some x := by
  induction l with
  | nil => cases h
  | cons y r ih =>
    rw [List.find?_cons] at h
    rw [List.findIdx?_cons]
    split at h
    · rename_i hp; cases h; exact ⟨0, by simp [hp], rfl⟩
    · rename_i hp
      obtain ⟨i, h1, h2⟩ := ih h
      exact ⟨i + 1, by simp [hp, h1], by simpa using h2⟩

theorem count_nn (vals : List Value) (x : Value) (hx : x.Kind ≠ 0) : (vals.filter (fun v => v.Kind != 0)).countP (veq · x) = vals.countP (veq · x) := by
  rw [List.countP_filter]
  apply List.countP_congr
  intro v _
  by_cases hv : veq v x = true
  · have := (veq_iff _ _).1 hv
    subst this
    simp [hv, hx]
  · simp [hv]
theorem betterB_congr {c d : Value → Int} {rule : Int} {v b : Value} (h1 : c v = d v) (h2 : c b = d b) : betterB c rule v b = betterB d rule v b := by
  unfold betterB; rw [h1, h2]

theorem choose_eq (rows : List Row) (a : Nat) (rule : Int) (hne : rows ≠ []) (hl : rows.length ≤ 1073741824) (ha : Has rows a) : survivor_choose rows a rule = some (chosen rows a rule) := by
  obtain ⟨r0, rs, rfl⟩ : ∃ r l, rows = r :: l := by cases rows with | nil => exact absurd rfl hne | cons r l => exact ⟨r, l, rfl⟩
  generalize hrows : r0 :: rs = rows at *
  have h0 : rows[0]? = some r0 := by rw [← hrows]; rfl
  -- the first loop
  have h := LoopF_foldl rows (fun (l : List Value) i => (l, i)) (survivor_choose_l1 rows a) (fun l x => l ++ if (cellV x a).Kind != 0 then [cellV x a] else []) id (fun k l => l.length ≤ k) (b0 := []) (s0 := ([], 0)) rfl (Nat.le_refl _)
    (fun k l x hx hk hI => by
      have hc := ha x (List.mem_of_getElem? hx)
      simp only [survivor_choose_l1, if_pos (lt_true hx), idx_get hx, idx_get hc, Option.bind_some, wrap_succ hk (by omega)]
      by_cases hz : ((cellV x a).Kind != 0) = true
      · have hr : roomB (l.length + 1) 32 = true := room_le (by omega) (by omega)
        simp only [hz, hr, if_true]
        exact ⟨trivial, by simp; omega⟩
      · simp only [hz, if_false, Bool.false_eq_true, List.append_nil]
        exact ⟨trivial, by omega⟩)
    (fun l _ => by simp [survivor_choose_l1])
  have hf : ∀ (r : List Row) (l : List Value), r.foldl (fun l x => l ++ if (cellV x a).Kind != 0 then [cellV x a] else []) l = l ++ (r.map (cellV · a)).filter (fun v => v.Kind != 0) := by
    intro r
    induction r with
    | nil => intro l; simp
    | cons x r ih =>
      intro l
      rw [List.foldl_cons, ih, List.map_cons, List.filter_cons]
      split <;> simp
  rw [hf] at h
  simp only [id, List.nil_append] at h
  rw [← nn_map] at h
  simp only [survivor_choose, h, Option.bind_some]
  have hnl : (nn rows a).length ≤ rows.length := List.length_filter_le _ _
  unfold chosen
  cases hn : nn rows a with
  | nil => simp [h0]
  | cons r l =>
    have hk0 : ∀ x ∈ nn rows a, (cellV x a).Kind ≠ 0 := by
      intro x hx
      have := (List.mem_filter.1 hx).2
      simpa using this
    rw [hn] at hk0 hnl
    have hz : ¬ ((((((r :: l).map (cellV · a)).length : Nat) : Int) == 0) = true) := by simp; omega
    have h1 : (1 : Int) ≤ ((((r :: l).map (cellV · a)).length : Nat) : Int) := by simp; omega
    rw [if_neg hz]
    simp only [List.map_cons, List.getElem?_cons_zero, Option.bind_some]
    rw [List.map_cons] at h1
    rw [if_pos h1]
    -- the second loop
    have ht : ((cellV r a :: l.map (cellV · a)).drop 1).take ((cellV r a :: l.map (cellV · a)).length - 1) = l.map (cellV · a) := by
      rw [List.drop_succ_cons, List.drop_zero, List.take_of_length_le]; simp
    have hB : ∀ v b, v ∈ (cellV r a :: l.map (cellV · a)) → b ∈ (cellV r a :: l.map (cellV · a)) →
        survivor_better (cellV r a :: l.map (cellV · a)) v b rule = some (betterB (fun x => (((rows.map (cellV · a)).countP (veq · x) : Nat) : Int)) rule v b) := by
      intro v b hv hb
      rw [better_eq _ _ _ _ (by simp at hnl ⊢; omega)]
      have key : ∀ x, x ∈ (cellV r a :: l.map (cellV · a)) → ((cellV r a :: l.map (cellV · a)).countP (veq · x)) = (rows.map (cellV · a)).countP (veq · x) := by
        intro x hx
        rw [← List.map_cons (f := (cellV · a)), ← hn, nn_map]
        refine count_nn _ _ ?_
        rw [← List.map_cons (f := (cellV · a)), List.mem_map] at hx
        obtain ⟨y, hy, rfl⟩ := hx
        exact hk0 y hy
      congr 1
      exact betterB_congr (by rw [key v hv]) (by rw [key b hb])
    have h2 := LoopF_foldl (l.map (cellV · a)) (fun (b : Value) i => (b, i)) (survivor_choose_l2 rule (cellV r a :: l.map (cellV · a))) (fun b v => if betterB (fun x => (((rows.map (cellV · a)).countP (veq · x) : Nat) : Int)) rule v b then v else b) id
      (fun k b => b ∈ (cellV r a :: l.map (cellV · a))) (b0 := cellV r a) (s0 := (cellV r a, 0)) rfl (by simp)
      (fun k b x hx hk hI => by
        have hm : x ∈ (cellV r a :: l.map (cellV · a)) := List.mem_cons_of_mem _ (List.mem_of_getElem? hx)
        have hlt : (k : Int) < (((cellV r a :: l.map (cellV · a)).length - 1 : Nat) : Int) := by simp at hk ⊢; omega
        simp only [survivor_choose_l2, if_pos hlt, ht, idx_get hx, Option.bind_some, hB x b hm hI, wrap_succ hk (by simp at hnl ⊢; omega)]
        split
        · exact ⟨rfl, hm⟩
        · exact ⟨rfl, hI⟩)
      (fun b _ => by simp [survivor_choose_l2])
    simp only [id] at h2
    rw [h2, Option.bind_some]
    -- the place
    have hfst := foldl_fst (betterB (fun x => (((rows.map (cellV · a)).countP (veq · x) : Nat) : Int)) rule) (l.map fun x => (cellV x a, x.ID)) (cellV r a, r.ID)
    have hff := pickF_first (betterB (fun x => (((rows.map (cellV · a)).countP (veq · x) : Nat) : Int)) rule) (better_irr _ _) (better_trans _ _) (l.map fun x => (cellV x a, x.ID)) [(cellV r a, r.ID)] (cellV r a, r.ID) (by simp) (by simp [better_irr])
    generalize hR : (l.map fun x => (cellV x a, x.ID)).foldl (pickF (betterB (fun x => (((rows.map (cellV · a)).countP (veq · x) : Nat) : Int)) rule)) (cellV r a, r.ID) = R at *
    have e1 : (l.map fun x => (cellV x a, x.ID)).map (·.1) = l.map (cellV · a) := by rw [List.map_map]; rfl
    rw [e1] at hfst
    rw [← hfst]
    have hff' : ((nn rows a).map fun x => (cellV x a, x.ID)).find? (fun p => p.1 == R.1) = some R := by rw [hn, List.map_cons]; exact hff
    rw [List.find?_map] at hff'
    obtain ⟨x, hx1, hx2⟩ := Option.map_eq_some_iff.1 hff'
    have hx3 : rows.find? (fun y => veq (cellV y a) R.1) = some x := by
      unfold nn at hx1
      rw [List.find?_filter] at hx1
      rw [← hx1]
      congr 1
      funext y
      simp only [Function.comp]
      rw [veq_eq]
      by_cases hy : cellV y a = R.1
      · have hk : R.1.Kind ≠ 0 := by
          have hxm := List.mem_of_find?_eq_some hx1
          have := List.find?_some hx1
          simp at this
          rw [← this.2]; exact this.1
        simp [hy, hk]
      · simp [hy]
    obtain ⟨i, hi1, hi2⟩ := findIdx_find _ _ hx3
    have hIF := IndexFunc_Row_eq rows (fun y => survivor_choose_1 y a R.1) (fun y => veq (cellV y a) R.1) (fun y hy => by simp only [survivor_choose_1, idx_get (ha y hy), Option.bind_some]; rfl) hl
    rw [hIF, hi1]
    simp only [Option.bind_some, idx_get hi2]
    rw [← hx2]
end Go.Proofs.Ytdmddoljldjjeaa
/- Choose is the reference's Choose, second part. -/
set_option linter.unusedVariables false
set_option linter.unusedSimpArgs false
namespace Go.Proofs.Ytdmddoljldjjeaa
open Go Go.Ab

def stepP (B : Value → Value → Bool) (a : Nat) (o : Drossref55_Result) (r : Row) : Drossref55_Result :=
  if (cellV r a).Kind != 0 && (o.Origin == 0 || B (cellV r a) o.Value) then ⟨cellV r a, r.ID⟩ else o
theorem stepP_nn (B : Value → Value → Bool) (a : Nat) : ∀ (rows : List Row) (o : Drossref55_Result), rows.foldl (stepP B a) o = (nn rows a).foldl (stepP B a) o
  | [], _ => rfl
  | r :: l, o => by
    unfold nn
    rw [List.foldl_cons, List.filter_cons]
    by_cases h : ((cellV r a).Kind != 0) = true
    · rw [if_pos h, List.foldl_cons]; exact stepP_nn B a l _
    · rw [if_neg h]
      have : stepP B a o r = o := by unfold stepP; simp [h]
      rw [this]; exact stepP_nn B a l o
theorem stepP_pick (B : Value → Value → Bool) (a : Nat) : ∀ (l : List Row) (o : Drossref55_Result), o.Origin ≠ 0 → (∀ r ∈ l, (cellV r a).Kind ≠ 0 ∧ r.ID ≠ 0) →
    l.foldl (stepP B a) o = ⟨((l.map fun x => (cellV x a, x.ID)).foldl (pickF B) (o.Value, o.Origin)).1, ((l.map fun x => (cellV x a, x.ID)).foldl (pickF B) (o.Value, o.Origin)).2⟩ ∧ (l.foldl (stepP B a) o).Origin ≠ 0
  | [], o, h, _ => ⟨rfl, h⟩
  | r :: l, o, h, hr => by
    have h1 := (hr r (by simp)).1
    have h2 := (hr r (by simp)).2
    rw [List.foldl_cons, List.map_cons, List.foldl_cons]
    have hs : stepP B a o r = ⟨(pickF B (o.Value, o.Origin) (cellV r a, r.ID)).1, (pickF B (o.Value, o.Origin) (cellV r a, r.ID)).2⟩ := by
      unfold stepP pickF
      by_cases hb : B (cellV r a) o.Value = true
      · simp [hb, h1]
      · simp [hb, h]
    rw [hs]
    exact stepP_pick B a l _ (by unfold pickF; split <;> simp [h, h2]) (fun x hx => hr x (by simp [hx]))

theorem Pick_eq (rows : List Row) (a : Nat) (rule : Int) (hne : rows ≠ []) (hl : rows.length ≤ 1073741824) (ha : Has rows a) (hs : Short rows) (hid : ∀ r ∈ rows, r.ID ≠ 0) :
    drossref55_Pick rows a rule = some ⟨(chosen rows a rule).1, (chosen rows a rule).2⟩ := by
  generalize hB : betterB (fun x => (((rows.map (cellV · a)).countP (veq · x) : Nat) : Int)) rule = B
  have h := LoopF_foldl rows (fun (o : Drossref55_Result) i => (o, i)) (drossref55_Pick_l1 rows a rule) (stepP B a) id (fun _ _ => True) (b0 := ⟨⟨0, 0, []⟩, 0⟩) (s0 := (⟨⟨0, 0, []⟩, 0⟩, 0)) rfl trivial
    (fun k o x hx hk _ => by
      have hm := List.mem_of_getElem? hx
      have hc := ha x hm
      have hsh := hs x hm _ (List.mem_of_getElem? hc)
      refine ⟨?_, trivial⟩
      simp only [drossref55_Pick_l1, if_pos (lt_true hx), idx_get hx, idx_get hc, Option.bind_some, wrap_succ hk (by omega), ref_better_eq rows a rule _ _ hl ha hs hsh, hB, stepP]
      by_cases h1 : ((cellV x a).Kind != 0) = true
      · by_cases h2 : (o.Origin == 0) = true
        · simp [h1, h2]
        · by_cases h3 : B (cellV x a) o.Value = true
          · simp [h1, h2, h3]
          · simp [h1, h2, h3]
      · simp [h1])
    (fun o _ => by simp [drossref55_Pick_l1])
  simp only [drossref55_Pick, h, id, Option.bind_some]
  rw [stepP_nn]
  obtain ⟨r0, rs, hrows⟩ : ∃ r l, rows = r :: l := by cases rows with | nil => exact absurd rfl hne | cons r l => exact ⟨r, l, rfl⟩
  have h0 : rows[0]? = some r0 := by rw [hrows]; rfl
  unfold chosen
  rw [hB]
  cases hn : nn rows a with
  | nil => simp [h0]
  | cons r l =>
    have hk0 : ∀ x ∈ nn rows a, (cellV x a).Kind ≠ 0 ∧ x.ID ≠ 0 := by
      intro x hx
      have := List.mem_filter.1 hx
      exact ⟨by simpa using this.2, hid x this.1⟩
    rw [hn] at hk0
    have hr := hk0 r (by simp)
    rw [List.foldl_cons]
    have hs1 : stepP B a ⟨⟨0, 0, []⟩, 0⟩ r = ⟨cellV r a, r.ID⟩ := by unfold stepP; simp [hr.1]
    rw [hs1]
    obtain ⟨e1, e2⟩ := stepP_pick B a l ⟨cellV r a, r.ID⟩ hr.2 (fun x hx => hk0 x (by simp [hx]))
    have e3 : ¬ (((l.foldl (stepP B a) ⟨cellV r a, r.ID⟩).Origin == 0) = true) := by simpa using e2
    rw [if_neg e3, e1]

theorem okRows_pos : ∀ (l : List Row) (a : Int), 0 ≤ a → okRows a l = true → ∀ r ∈ l, r.ID ≠ 0
  | [], _, _, _, r, hr => by cases hr
  | x :: l, a, ha, h, r, hr => by
    simp only [okRows, Bool.and_eq_true, decide_eq_true_eq] at h
    rcases List.mem_cons.1 hr with e | e
    · subst e; omega
    · exact okRows_pos l x.ID (by omega) h.2 r e
theorem rowsErr_zero {rows : List Row} (h : rowsErr rows = 0) : rows ≠ [] ∧ ∀ r0, rows[0]? = some r0 → ∀ r ∈ rows, r.Values.length = r0.Values.length := by
  cases rows with
  | nil => cases h
  | cons x l =>
    refine ⟨by simp, fun r0 h0 r hr => ?_⟩
    simp only [List.getElem?_cons_zero, Option.some.injEq] at h0
    subst h0
    simp only [rowsErr] at h
    split at h
    · rename_i hc
      have := List.all_eq_true.1 hc r hr
      simpa using this
    · cases h
theorem has_of {rows : List Row} (h : rowsErr rows = 0) {r0 : Row} (h0 : rows[0]? = some r0) {a : Nat} (ha : a < r0.Values.length) : Has rows a := by
  intro r hr
  have := (rowsErr_zero h).2 r0 h0 r hr
  have hlt : a < r.Values.length := by omega
  simp [cellV, List.getD, List.getElem?_eq_getElem hlt]

structure RowsOk (rows : List Row) : Prop where
  len : rows.length ≤ 1073741824
  vals : ∀ r ∈ rows, r.Values.length ≤ 1073741824
  short : Short rows
theorem validRule_eq (r : Int) : survivor_validRule r = some (decide (1 ≤ r) && decide (r ≤ 5)) := by
  simp only [survivor_validRule]
  by_cases h : 1 ≤ r <;> simp [h]

/-- what both answer -/
def choice (rows : List Row) (attr rule : Int) : Value × Int × Int :=
  if rowsErr rows ≠ 0 then (⟨0, 0, []⟩, 0, rowsErr rows)
  else if attr < 0 ∨ ((rows[0]?.map (·.Values.length)).getD 0 : Nat) ≤ attr then (⟨0, 0, []⟩, 0, 6)
  else if okRows 0 rows = false ∨ rule < 1 ∨ 5 < rule then (⟨0, 0, []⟩, 0, 1)
  else ((chosen rows attr.toNat rule).1, (chosen rows attr.toNat rule).2, 0)
theorem Choose_eq (rows : List Row) (attr rule : Int) (H : RowsOk rows) : survivor_Choose rows attr rule = some (choice rows attr rule) := by
  simp only [survivor_Choose, checkRows_eq rows H.len, Option.bind_some, choice]
  by_cases h1 : rowsErr rows = 0
  · obtain ⟨hne, _⟩ := rowsErr_zero h1
    obtain ⟨r0, rs, hrows⟩ : ∃ r l, rows = r :: l := by cases rows with | nil => exact absurd rfl hne | cons r l => exact ⟨r, l, rfl⟩
    have h0 : rows[0]? = some r0 := by rw [hrows]; rfl
    simp only [h1, h0, Option.bind_some, Option.map_some, Option.getD_some]
    by_cases h2 : attr < 0
    · simp [h2]
    · by_cases h3 : (r0.Values.length : Int) ≤ attr
      · simp [h2, h3]
      · have ha : Has rows attr.toNat := has_of h1 h0 (by omega)
        have hat : ((attr.toNat : Nat) : Int) = attr := by omega
        have hc := choose_eq rows attr.toNat rule hne H.len ha
        rw [hat] at hc
        simp only [checkValues_eq rows H.len H.vals, validRule_eq, Option.bind_some, hc]
        by_cases h4 : okRows 0 rows = true
        · by_cases h5 : rule < 1
          · have : ¬ 1 ≤ rule := by omega
            simp [h2, h3, h4, h5, this]
          · by_cases h6 : 5 < rule
            · have : ¬ rule ≤ 5 := by omega
              simp [h2, h3, h4, h5, h6, this]
            · have e1 : 1 ≤ rule := by omega
              have e2 : rule ≤ 5 := by omega
              simp [h2, h3, h4, h5, h6, e1, e2]
        · simp [h2, h3, h4]
  · simp [h1]
theorem ref_Choose_eq (rows : List Row) (attr rule : Int) (H : RowsOk rows) : drossref55_Choose rows attr rule = some (⟨(choice rows attr rule).1, (choice rows attr rule).2.1⟩, (choice rows attr rule).2.2) := by
  simp only [drossref55_Choose, rowsError_eq rows H.len, Option.bind_some, choice]
  by_cases h1 : rowsErr rows = 0
  · obtain ⟨hne, _⟩ := rowsErr_zero h1
    obtain ⟨r0, rs, hrows⟩ : ∃ r l, rows = r :: l := by cases rows with | nil => exact absurd rfl hne | cons r l => exact ⟨r, l, rfl⟩
    have h0 : rows[0]? = some r0 := by rw [hrows]; rfl
    simp only [h1, h0, Option.bind_some, Option.map_some, Option.getD_some]
    by_cases h2 : attr < 0
    · simp [h2]
    · by_cases h3 : (r0.Values.length : Int) ≤ attr
      · simp [h2, h3]
      · have ha : Has rows attr.toNat := has_of h1 h0 (by omega)
        have hat : ((attr.toNat : Nat) : Int) = attr := by omega
        simp only [ref_valid_eq rows H.len H.vals, Option.bind_some]
        by_cases h4 : okRows 0 rows = true
        · have hc := Pick_eq rows attr.toNat rule hne H.len ha H.short (okRows_pos rows 0 (by omega) h4)
          rw [hat] at hc
          simp only [hc, Option.bind_some]
          by_cases h5 : rule < 1
          · simp [h2, h3, h4, h5]
          · by_cases h6 : 5 < rule
            · simp [h2, h3, h4, h5, h6]
            · simp [h2, h3, h4, h5, h6]
        · simp [h2, h3, h4]
  · simp [h1]
theorem Clone_Row_eq (rows : List Row) (h : rows.length ≤ 1073741824) : slices_Clone_Row rows = some rows := by
  simp only [slices_Clone_Row, room_le h (show 32 ≤ 65536 by omega), if_true]
theorem SurvivorChoose_true (rows : List Row) (attr rule : Int) (H : RowsOk rows) (hA : drosslaw55_awake = some true) : drosslaw55_SurvivorChoose rows attr rule = some true := by
  simp only [drosslaw55_SurvivorChoose, hA, Option.bind_some, if_true]
  by_cases h : (rows.length : Int) > 8
  · simp [h]
  · simp only [h, decide_false, Bool.false_eq_true, if_false, Clone_Row_eq rows H.len, Choose_eq rows attr rule H, ref_Choose_eq rows attr rule H, Option.bind_some, beq_self_eq_true, Bool.and_self, if_true]
end Go.Proofs.Ytdmddoljldjjeaa
/- Merge is the reference's Merge. -/
set_option linter.unusedVariables false
set_option linter.unusedSimpArgs false
namespace Go.Proofs.Ytdmddoljldjjeaa
open Go Go.Ab

theorem IDs_eq (a b : List Int) (ha : a.length ≤ 1073741824) : drossref03_IDs a b = some (decide (a = b)) := by
  simp only [drossref03_IDs]
  by_cases hl : a.length = b.length
  · have hn : ¬ (((a.length : Int) != (b.length : Int)) = true) := by simp; omega
    rw [if_neg hn]
    have key : ∀ (r : List Int) (k : Nat), a.drop k = r → k ≤ a.length → LoopF (drossref03_IDs_l1 a b) (k : Int) = some (if r = b.drop k then .inl () else .inr false) := by
      intro r
      induction r with
      | nil =>
        intro k hd hk
        have : k = a.length := by
          have := congrArg List.length hd
          simp at this; omega
        subst this
        have : b.drop a.length = [] := by rw [hl]; simp
        rw [this]
        exact Loop_done (by simp [drossref03_IDs_l1])
      | cons x r ih =>
        intro k hd hk
        have hx : a[k]? = some x := by
          have := congrArg (·[0]?) hd
          simpa [List.getElem?_drop] using this
        have hd' : a.drop (k + 1) = r := by rw [← List.drop_drop, hd]; rfl
        have hlt := lt_of_get hx
        obtain ⟨y, hy⟩ : ∃ y, b[k]? = some y := ⟨_, List.getElem?_eq_getElem (by omega)⟩
        have hb : b.drop k = y :: b.drop (k + 1) := by
          rw [List.drop_eq_getElem_cons (by omega)]
          congr 1
          exact (List.getElem?_eq_some_iff.1 hy).2
        rw [hb]
        by_cases hxy : x = y
        · subst hxy
          rw [Loop_next (s' := ((k + 1 : Nat) : Int)) (by simp [drossref03_IDs_l1, lt_true hx, idx_get hx, idx_get hy, wrap_succ hlt (by omega)]), ih (k + 1) hd' hlt]
          simp
        · rw [Loop_done (t := .inr false) (by simp [drossref03_IDs_l1, lt_true hx, idx_get hx, idx_get hy, hxy])]
          simp [hxy]
    have h0 := key a 0 (by simp) (Nat.zero_le _)
    simp only [List.drop_zero, Int.natCast_zero] at h0
    rw [h0]
    by_cases hab : a = b <;> simp [hab]
  · have hn : (((a.length : Int) != (b.length : Int)) = true) := by simp; omega
    rw [if_pos hn]
    have : a ≠ b := fun e => hl (by rw [e])
    simp [this]

/-- the order of lists of values -/
def lcmp : List Value → List Value → Int
  | [], [] => 0
  | [], _ :: _ => -1
  | _ :: _, [] => 1
  | a :: x, b :: y => if vcmp a b ≠ 0 then vcmp a b else lcmp x y
theorem lcmp_eq : ∀ a b : List Value, lcmp a b = 0 ↔ a = b
  | [], [] => by simp [lcmp]
  | [], _ :: _ => by simp [lcmp]
  | _ :: _, [] => by simp [lcmp]
  | x :: a, y :: b => by
    simp only [lcmp]
    by_cases h : x = y
    · subst h; simp [vcmp_self, lcmp_eq a b]
    · have : vcmp x y ≠ 0 := fun e => h ((vcmp_eq _ _).1 e)
      simp [h, this]
theorem lists_loop (a b : List Value) (ha : a.length ≤ 1073741824) (hs : ∀ v ∈ a, v.Str.length ≤ 1073741824) : ∀ (r : List Value) (k : Nat), a.drop k = r → k ≤ a.length → k ≤ b.length →
    (∃ o, LoopF (drossref01_Lists_l1 a b) (k : Int) = some o ∧ (match o with | .inl () => sgn (r.length) ((b.drop k).length) = lcmp r (b.drop k) | .inr z => z = lcmp r (b.drop k))) := by
  intro r
  induction r with
  | nil =>
    intro k hd hk hkb
    have hk' : k = a.length := by
      have := congrArg List.length hd
      simp at this; omega
    subst hk'
    refine ⟨.inl (), Loop_done (by simp [drossref01_Lists_l1]), ?_⟩
    cases hb : b.drop a.length with
    | nil => rfl
    | cons y s => simp [lcmp, sgn]
  | cons x r ih =>
    intro k hd hk hkb
    have hx : a[k]? = some x := by
      have := congrArg (·[0]?) hd
      simpa [List.getElem?_drop] using this
    have hd' : a.drop (k + 1) = r := by rw [← List.drop_drop, hd]; rfl
    have hlt := lt_of_get hx
    have hsx := hs x (List.mem_of_getElem? hx)
    cases hb : b.drop k with
    | nil =>
      have hkb' : k = b.length := by
        have := congrArg List.length hb
        simp at this; omega
      subst hkb'
      refine ⟨.inl (), Loop_done (by simp [drossref01_Lists_l1]), ?_⟩
      simp [lcmp, sgn]; omega
    | cons y s =>
      have hy : b[k]? = some y := by
        have := congrArg (·[0]?) hb
        simpa [List.getElem?_drop] using this
      have hb' : b.drop (k + 1) = s := by rw [← List.drop_drop, hb]; rfl
      by_cases hxy : vcmp x y = 0
      · have h1 : drossref01_Lists_l1 a b (k : Int) = some (.next ((k + 1 : Nat) : Int)) := by
          simp [drossref01_Lists_l1, lt_true hx, lt_true hy, idx_get hx, idx_get hy, wrap_succ hlt (by omega), ref_Compare_eq _ _ hsx, hxy]
        obtain ⟨o, h2, h3⟩ := ih (k + 1) hd' hlt (lt_of_get hy)
        refine ⟨o, by rw [Loop_next h1]; exact h2, ?_⟩
        rw [hb'] at h3
        have hl : lcmp (x :: r) (y :: s) = lcmp r s := by simp [lcmp, hxy]
        rw [hl]
        cases o with
        | inl u =>
          simp only at h3 ⊢
          rw [← h3]
          simp only [List.length_cons, sgn]
          split <;> split <;> (try split) <;> (try split) <;> omega
        | inr z => exact h3
      · refine ⟨.inr (vcmp x y), Loop_done ?_, ?_⟩
        · simp [drossref01_Lists_l1, lt_true hx, lt_true hy, idx_get hx, idx_get hy, ref_Compare_eq _ _ hsx, hxy]
        · simp [lcmp, hxy]
theorem Lists_eq (a b : List Value) (ha : a.length ≤ 1073741824) (hs : ∀ v ∈ a, v.Str.length ≤ 1073741824) : drossref01_Lists a b = some (lcmp a b) := by
  obtain ⟨o, h1, h2⟩ := lists_loop a b ha hs a 0 (by simp) (Nat.zero_le _) (Nat.zero_le _)
  simp only [drossref01_Lists]
  have h1' : LoopF (drossref01_Lists_l1 a b) 0 = some o := h1
  rw [h1']
  cases o with
  | inl u =>
    simp only [List.drop_zero] at h2
    simp [ref_sign_eq, h2]
  | inr z =>
    simp only [List.drop_zero] at h2
    simp [h2]
theorem Same_eq (a b : List Value) (ha : a.length ≤ 1073741824) (hs : ∀ v ∈ a, v.Str.length ≤ 1073741824) : drossref01_Same a b = some (decide (a = b)) := by
  simp only [drossref01_Same, Lists_eq a b ha hs, Option.bind_some]
  congr 1
  rw [Bool.eq_iff_iff]; simp [lcmp_eq]
theorem EqualRows_eq (a b : Row) (ha : a.Values.length ≤ 1073741824) (hs : ∀ v ∈ a.Values, v.Str.length ≤ 1073741824) : drossref03_EqualRows a b = some (decide (a = b)) := by
  simp only [drossref03_EqualRows, Same_eq _ _ ha hs, Option.bind_some]
  cases a; cases b
  simp only [Row.mk.injEq]
  split
  · rename_i h; simp at h; simp [h]
  · rename_i h; simp at h; simp [h]

def okRule (r : Int) : Bool := decide (1 ≤ r) && decide (r ≤ 5)
theorem Rules_eq (l : List Int) (hl : l.length ≤ 1073741824) : drossref55_Rules l = some (l.all okRule) := by
  have h := LoopF_all l (drossref55_Rules_l1 l) okRule false
    (fun k x hx hk hp => by
      simp only [okRule, Bool.and_eq_true, decide_eq_true_eq] at hp
      have h1 : ¬ x < 1 := by omega
      have h2 : ¬ x > 5 := by omega
      simp [drossref55_Rules_l1, lt_true hx, idx_get hx, h1, h2, wrap_succ hk (by omega)])
    (fun k x hx hp => by
      simp only [okRule, Bool.and_eq_false_iff, decide_eq_false_iff_not] at hp
      by_cases h1 : x < 1
      · simp [drossref55_Rules_l1, lt_true hx, idx_get hx, h1]
      · have h2 : x > 5 := by omega
        simp [drossref55_Rules_l1, lt_true hx, idx_get hx, h1, h2])
    (by simp [drossref55_Rules_l1])
  simp only [drossref55_Rules, h, Option.bind_some]
  cases l.all okRule <;> rfl
theorem IndexFunc_int_eq (l : List Int) (f : Int → Option Bool) (p : Int → Bool) (hf : ∀ x ∈ l, f x = some (p x)) (hl : l.length ≤ 1073741824) : slices_IndexFunc_int l f = some (match l.findIdx? p with | some i => (i : Int) | none => -1) := by
  have h := LoopF_find l (slices_IndexFunc_int_l1 l f) p
    (fun k x hx hk hp => by simp [slices_IndexFunc_int_l1, lt_true hx, idx_get hx, hf x (List.mem_of_getElem? hx), hp, wrap_succ hk (show l.length ≤ 4611686018427387904 by omega)])
    (fun k x hx hp => by simp [slices_IndexFunc_int_l1, lt_true hx, idx_get hx, hf x (List.mem_of_getElem? hx), hp])
    (by simp [slices_IndexFunc_int_l1])
  simp only [slices_IndexFunc_int, h, Option.bind_some]
  cases l.findIdx? p <;> rfl
theorem ContainsFunc_int_eq (l : List Int) (f : Int → Option Bool) (p : Int → Bool) (hf : ∀ x ∈ l, f x = some (p x)) (hl : l.length ≤ 1073741824) : slices_ContainsFunc_int l f = some (l.any p) := by
  simp only [slices_ContainsFunc_int, IndexFunc_int_eq l f p hf hl, Option.bind_some]
  exact congrArg some (findIdx_any p l)

/-- the merged values and origins -/
def stepM (rows : List Row) (b : List Value × List Int) (rule : Int) : List Value × List Int := (b.1 ++ [(chosen rows b.1.length rule).1], b.2 ++ [(chosen rows b.1.length rule).2])
def mergedV (rows : List Row) (rules : List Int) : List Value × List Int := rules.foldl (stepM rows) ([], [])
theorem merge_loop (rows : List Row) (rules : List Int) (hne : rows ≠ []) (hl : rows.length ≤ 1073741824) (hr : rules.length ≤ 1048576) (ha : ∀ a, a < rules.length → Has rows a) :
    LoopF (survivor_Merge_l1 rows rules) ([], [], 0) = some (mergedV rows rules) := by
  have h := LoopF_foldl rules (fun (b : List Value × List Int) i => (b.1, b.2, i)) (survivor_Merge_l1 rows rules) (stepM rows) id (fun k b => b.1.length = k ∧ b.2.length = k) (b0 := ([], [])) (s0 := ([], [], 0)) rfl ⟨rfl, rfl⟩
    (fun k b x hx hk hI => by
      have hc := choose_eq rows k x hne hl (ha k hk)
      have r1 : roomB (k + 1) 32 = true := room_le (by omega) (by omega)
      have r2 : roomB (k + 1) 8 = true := room_le (by omega) (by omega)
      refine ⟨?_, by simp [stepM, hI]⟩
      simp only [survivor_Merge_l1, if_pos (lt_true hx), idx_get hx, Option.bind_some, hc, r1, r2, if_true, wrap_succ hk (by omega), stepM, hI.1, hI.2])
    (fun b _ => by simp [survivor_Merge_l1])
  exact h
theorem ref_merge_eq (rows : List Row) (rules : List Int) (r0 : Row) (h0 : rows[0]? = some r0) (hl : rows.length ≤ 1073741824) (hr : rules.length ≤ 1048576) (ha : ∀ a, a < rules.length → Has rows a) (hs : Short rows) (hid : ∀ r ∈ rows, r.ID ≠ 0) :
    drossref55_merge rows rules = some ⟨⟨r0.ID, (mergedV rows rules).1⟩, (mergedV rows rules).2⟩ := by
  have hne : rows ≠ [] := by intro e; rw [e] at h0; cases h0
  have h := LoopF_foldl rules (fun (b : List Value × List Int) i => (b.1, b.2, i)) (drossref55_merge_l1 rows rules) (stepM rows) id (fun k b => b.1.length = k ∧ b.2.length = k) (b0 := ([], [])) (s0 := ([], [], 0)) rfl ⟨rfl, rfl⟩
    (fun k b x hx hk hI => by
      have hc := Pick_eq rows k x hne hl (ha k hk) hs hid
      have r1 : roomB (k + 1) 32 = true := room_le (by omega) (by omega)
      have r2 : roomB (k + 1) 8 = true := room_le (by omega) (by omega)
      refine ⟨?_, by simp [stepM, hI]⟩
      simp only [drossref55_merge_l1, if_pos (lt_true hx), idx_get hx, Option.bind_some, hc, r1, r2, if_true, wrap_succ hk (by omega), stepM, hI.1, hI.2])
    (fun b _ => by simp [drossref55_merge_l1])
  simp only [drossref55_merge, h0, Option.bind_some, h]
  rfl

/-- what both answer -/
def merging (rows : List Row) (rules : List Int) : (Row × List Int) × Int :=
  if rowsErr rows ≠ 0 then ((⟨0, []⟩, []), rowsErr rows)
  else if rules.length ≠ (rows[0]?.map (·.Values.length)).getD 0 then ((⟨0, []⟩, []), 6)
  else if okRows 0 rows = false ∨ rules.all okRule = false then ((⟨0, []⟩, []), 1)
  else ((⟨(rows[0]?.map (·.ID)).getD 0, (mergedV rows rules).1⟩, (mergedV rows rules).2), 0)
theorem any_not_all {α : Type} (p : α → Bool) (l : List α) : (l.any fun x => !p x) = !l.all p := by simp [List.all_eq_not_any_not]
theorem Merge_eq (rows : List Row) (rules : List Int) (H : RowsOk rows) (hr : rules.length ≤ 1048576) : survivor_Merge rows rules = some ((merging rows rules).1.1, (merging rows rules).1.2, (merging rows rules).2) := by
  simp only [survivor_Merge, checkRows_eq rows H.len, Option.bind_some, merging]
  by_cases h1 : rowsErr rows = 0
  · obtain ⟨hne, _⟩ := rowsErr_zero h1
    obtain ⟨r0, rs, hrows⟩ : ∃ r l, rows = r :: l := by cases rows with | nil => exact absurd rfl hne | cons r l => exact ⟨r, l, rfl⟩
    have h0 : rows[0]? = some r0 := by rw [hrows]; rfl
    simp only [h1, h0, Option.bind_some, Option.map_some, Option.getD_some]
    by_cases h2 : rules.length = r0.Values.length
    · have ha : ∀ a, a < rules.length → Has rows a := fun a h => has_of h1 h0 (by omega)
      have hcf : slices_ContainsFunc_int rules (fun y => survivor_Merge_1 y) = some (!rules.all okRule) := by
        rw [← any_not_all]
        exact ContainsFunc_int_eq _ _ _ (fun y _ => by simp [survivor_Merge_1, validRule_eq, okRule]) (by omega)
      simp only [checkValues_eq rows H.len H.vals, hcf, merge_loop rows rules hne H.len hr ha, Option.bind_some]
      by_cases h4 : okRows 0 rows = true
      · by_cases h5 : rules.all okRule = true
        · simp [h2, h4, h5]
        · simp only [Bool.not_eq_true] at h5; simp [h2, h4, h5]
      · simp [h2, h4]
    · have h2' : ¬ ((rules.length : Int) = r0.Values.length) := by omega
      simp [h2, h2']
  · simp [h1]
theorem ref_Merge_eq (rows : List Row) (rules : List Int) (H : RowsOk rows) (hr : rules.length ≤ 1048576) : drossref55_Merge rows rules = some (⟨(merging rows rules).1.1, (merging rows rules).1.2⟩, (merging rows rules).2) := by
  simp only [drossref55_Merge, rowsError_eq rows H.len, Option.bind_some, merging]
  by_cases h1 : rowsErr rows = 0
  · obtain ⟨hne, _⟩ := rowsErr_zero h1
    obtain ⟨r0, rs, hrows⟩ : ∃ r l, rows = r :: l := by cases rows with | nil => exact absurd rfl hne | cons r l => exact ⟨r, l, rfl⟩
    have h0 : rows[0]? = some r0 := by rw [hrows]; rfl
    simp only [h1, h0, Option.bind_some, Option.map_some, Option.getD_some]
    by_cases h2 : rules.length = r0.Values.length
    · have ha : ∀ a, a < rules.length → Has rows a := fun a h => has_of h1 h0 (by omega)
      simp only [ref_valid_eq rows H.len H.vals, Rules_eq rules (by omega), Option.bind_some]
      by_cases h4 : okRows 0 rows = true
      · have hm := ref_merge_eq rows rules r0 h0 H.len hr ha H.short (okRows_pos rows 0 (by omega) h4)
        simp only [hm, Option.bind_some]
        by_cases h5 : rules.all okRule = true
        · simp [h2, h4, h5]
        · simp only [Bool.not_eq_true] at h5; simp [h2, h4, h5]
      · simp [h2, h4]
    · have h2' : ¬ ((rules.length : Int) = r0.Values.length) := by omega
      simp [h2, h2']
  · simp [h1]

def exRows : List Row := [⟨3, [⟨2, 0, [74, 111]⟩, ⟨0, 0, []⟩]⟩, ⟨4, [⟨2, 0, [74, 111, 101]⟩, ⟨1, 7, []⟩]⟩, ⟨9, [⟨2, 0, [74, 111]⟩, ⟨1, 8, []⟩]⟩]
theorem example_eq : drosslaw55_example = some exRows := by
  simp only [drosslaw55_example, drosslaw55_example_1, drosslaw55_example_2, Option.bind_some, exRows]
theorem exOk : RowsOk exRows := by
  refine ⟨by decide, ?_, ?_⟩
  · intro r hr
    have : ∀ r ∈ exRows, r.Values.length ≤ 2 := by decide
    have := this r hr; omega
  · intro r hr v hv
    have : ∀ r ∈ exRows, ∀ v ∈ r.Values, v.Str.length ≤ 3 := by decide
    have := this r hr v hv; omega
theorem awake_true : drosslaw55_awake = some true := by
  have e1 : choice exRows 0 3 = (⟨2, 0, [74, 111, 101]⟩, 4, 0) := by decide
  have e2 : merging exRows [2, 1] = ((⟨3, [⟨2, 0, [74, 111]⟩, ⟨1, 7, []⟩]⟩, [3, 4]), 0) := by decide
  simp only [drosslaw55_awake, example_eq, Option.bind_some, Choose_eq exRows 0 3 exOk, Merge_eq exRows [2, 1] exOk (by decide), e1, e2, IDs_eq [3, 4] [3, 4] (by decide)]
  decide
theorem Clone_int_eq (l : List Int) (h : l.length ≤ 1073741824) : slices_Clone_int l = some l := by
  simp only [slices_Clone_int, room_le h (show 8 ≤ 65536 by omega), if_true]
end Go.Proofs.Ytdmddoljldjjeaa
/- SurvivorChoose answers true. -/
set_option linter.unusedVariables false
namespace Go.Proofs.Ytdmddoljldjjeaa
open Go Go.Ab
theorem rowsOk_of {rows : List Row} (h : okL okRow rows) : RowsOk rows := by
  refine ⟨by have := h.1; omega, fun r hr => ?_, fun r hr v hv => ?_⟩
  · have := (h.2 r hr).2.1; omega
  · have : okS v.Str := ((h.2 r hr).2.2 v hv).2.2
    unfold okS at this; omega
theorem SurvivorChoose_holds (rows : List Row) (attr rule : Int) (h : okL okRow rows) (_ : okI .i64 attr) (_ : okI .i64 rule) : drosslaw55_SurvivorChoose rows attr rule = some true :=
  SurvivorChoose_true rows attr rule (rowsOk_of h) awake_true
end Go.Proofs.Ytdmddoljldjjeaa
/- SurvivorMerge answers true. -/
set_option linter.unusedVariables false
namespace Go.Proofs.Ytdmddoljldjjeaa
open Go Go.Ab
theorem mergedV_len (rows : List Row) : ∀ (rules : List Int) (b : List Value × List Int), (rules.foldl (stepM rows) b).1.length = b.1.length + rules.length ∧ (rules.foldl (stepM rows) b).2.length = b.2.length + rules.length
  | [], b => ⟨rfl, rfl⟩
  | r :: l, b => by
    obtain ⟨h1, h2⟩ := mergedV_len rows l (stepM rows b r)
    rw [List.foldl_cons]
    simp only [stepM, List.length_append, List.length_cons, List.length_nil] at h1 h2 ⊢
    omega
theorem chosen_mem (rows : List Row) (a : Nat) (rule : Int) : (chosen rows a rule).1 = ⟨0, 0, []⟩ ∨ ∃ r ∈ rows, (chosen rows a rule).1 = cellV r a := by
  unfold chosen
  cases hn : nn rows a with
  | nil => exact .inl rfl
  | cons r l =>
    refine .inr ?_
    have hm : ∀ x ∈ r :: l, x ∈ rows := by
      intro x hx
      rw [← hn] at hx
      exact (List.mem_filter.1 hx).1
    have key : ∀ (l : List Row) (o : Value × Int), (∃ r ∈ rows, o.1 = cellV r a) → (∀ x ∈ l, x ∈ rows) → ∃ r ∈ rows, ((l.map fun x => (cellV x a, x.ID)).foldl (pickF (betterB (fun x => (((rows.map (cellV · a)).countP (veq · x) : Nat) : Int)) rule)) o).1 = cellV r a := by
      intro l
      induction l with
      | nil => intro o h _; exact h
      | cons y l ih =>
        intro o h hl
        rw [List.map_cons, List.foldl_cons]
        refine ih _ ?_ (fun x hx => hl x (by simp [hx]))
        unfold pickF
        split
        · exact ⟨y, hl y (by simp), rfl⟩
        · exact h
    exact key l (cellV r a, r.ID) ⟨r, hm r (by simp), rfl⟩ (fun x hx => hm x (by simp [hx]))
theorem mergedV_short (rows : List Row) (hs : Short rows) : ∀ (rules : List Int) (b : List Value × List Int), (∀ v ∈ b.1, v.Str.length ≤ 1073741824) → ∀ v ∈ (rules.foldl (stepM rows) b).1, v.Str.length ≤ 1073741824
  | [], b, h => h
  | r :: l, b, h => by
    rw [List.foldl_cons]
    refine mergedV_short rows hs l _ ?_
    intro v hv
    simp only [stepM, List.mem_append, List.mem_singleton] at hv
    rcases hv with hv | rfl
    · exact h v hv
    · rcases chosen_mem rows b.1.length r with e | ⟨x, hx, e⟩
      · rw [e]; simp
      · rw [e]
        unfold cellV
        rw [List.getD]
        cases hg : x.Values[b.1.length]? with
        | none => simp
        | some y => simpa using hs x hx y (List.mem_of_getElem? hg)
theorem SurvivorMerge_holds (rows : List Row) (rules : List Int) (h : okL okRow rows) (hr : okL (okI .i64) rules) : drosslaw55_SurvivorMerge rows rules = some true := by
  have H := rowsOk_of h
  have hl : rules.length ≤ 1048576 := hr.1
  simp only [drosslaw55_SurvivorMerge, awake_true, Option.bind_some, if_true]
  by_cases h1 : (rows.length : Int) > 8
  · simp [h1]
  · simp only [h1, if_false, Option.bind_some]
    by_cases h2 : (rules.length : Int) > 20
    · simp [h2]
    · have hm : (merging rows rules).1.1.Values.length ≤ 1073741824 ∧ (∀ v ∈ (merging rows rules).1.1.Values, v.Str.length ≤ 1073741824) ∧ (merging rows rules).1.2.length ≤ 1073741824 := by
        unfold merging
        split
        · simp
        · split
          · simp
          · split
            · simp
            · have hlen := mergedV_len rows rules ([], [])
              have hsh := mergedV_short rows H.short rules ([], []) (by simp)
              simp only [mergedV, List.length_nil, Nat.zero_add] at hlen ⊢
              exact ⟨by omega, hsh, by omega⟩
      simp only [h2, decide_false, Bool.false_eq_true, if_false, Clone_Row_eq rows H.len, Clone_int_eq rules (by omega), Merge_eq rows rules H hl, ref_Merge_eq rows rules H hl, Option.bind_some, beq_self_eq_true, if_true,
        EqualRows_eq _ _ hm.1 hm.2.1, IDs_eq _ _ hm.2.2, decide_true]
end Go.Proofs.Ytdmddoljldjjeaa

/- The Lean functions that the program's functions are lifted to, and the plain laws about them. -/
import Derived.Test.YtdmddoljldjjeaaGreatA2
set_option linter.unusedVariables false
set_option linter.unusedSimpArgs false
namespace Go.Proofs.YtdmddoljldjjeaaGreat
open Go Go.Ab
structure Value where
  Kind : Int
  Num : Int
  Str : List UInt8
  deriving DecidableEq
structure Row where
  ID : Int
  Values : List Value
  deriving DecidableEq
structure Table where
  Name : List UInt8
  Attrs : List (List UInt8)
  Rows : List Row
  deriving DecidableEq
structure Merged where
  Table : Table
  Clusters : List (List Int)
  Origins : List (List Int)
  deriving DecidableEq
structure Drossref55_Result where
  Value : Value
  Origin : Int
  deriving DecidableEq
structure Drossref55_Row where
  Row : Row
  Origins : List Int
  deriving DecidableEq
structure Drossref03_Recipe where
  Attrs : Int
  Gap : Int
  Rows : List (List Int)
  deriving DecidableEq
structure Drossref55_Plan where
  Labels : List Int
  Rules : List Int
  deriving DecidableEq
structure CellRef where
  ID : Int
  Attr : Int
  deriving DecidableEq
noncomputable def survivor_validRule (rule_1 : Int) : Option (Bool) :=
  if rule_1 ≥ 1 then
  some (decide (rule_1 ≤ 5))
  else
  some false
noncomputable def survivor_checkRows_l1 (rows_4 : List Row) : Int → Option (LS (Int) ((Unit) ⊕ (Int))) := fun t10_13 =>
  if t10_13 < (rows_4.length : Int) then
  (idx rows_4 t10_13).bind fun (x_27 : Row) =>
  (rows_4[0]?).bind fun (x_29 : Row) =>
  if ((x_27.Values.length : Int) != (x_29.Values.length : Int)) = true then
  some (.done (.inr 6))
  else
  some (.next (IntKind.i64.wrap (t10_13 + 1)))
  else
  some (.done (.inl ()))
noncomputable def survivor_checkRows (rows_4 : List Row) : Option (Int) :=
  if ((rows_4.length : Int) == 0) = true then
  some 12
  else
  (LoopF (survivor_checkRows_l1 rows_4) 0).bind (fun o => match o with
  | .inl () =>
  some 0
  | .inr r_34 =>
  some r_34)
noncomputable def slices_IndexFunc_Value_l1 (s_38 : List Value) (f_39 : Value → Option (Bool)) : Int → Option (LS (Int) ((Unit) ⊕ (Int))) := fun t8_49 =>
  if t8_49 < (s_38.length : Int) then
  (idx s_38 t8_49).bind fun (x_59 : Value) =>
  (f_39 x_59).bind fun (r_61 : Bool) =>
  if r_61 = true then
  some (.done (.inr t8_49))
  else
  some (.next (IntKind.i64.wrap (t8_49 + 1)))
  else
  some (.done (.inl ()))
noncomputable def slices_IndexFunc_Value (s_38 : List Value) (f_39 : Value → Option (Bool)) : Option (Int) :=
  (LoopF (slices_IndexFunc_Value_l1 s_38 f_39) 0).bind (fun o => match o with
  | .inl () =>
  some (-1)
  | .inr r_66 =>
  some r_66)
noncomputable def slices_ContainsFunc_Value (s_70 : List Value) (f_71 : Value → Option (Bool)) : Option (Bool) :=
  (slices_IndexFunc_Value s_70 f_71).bind fun (r_74 : Int) =>
  some (decide (r_74 ≥ 0))
noncomputable def value_Valid (v_77 : Value) : Option (Bool) :=
  if (v_77.Kind == 0) = true then
  if (v_77.Num == 0) = true then
  some (v_77.Str == [])
  else
  some false
  else
  if (v_77.Kind == 1) = true then
  some (v_77.Str == [])
  else
  if (v_77.Kind == 2) = true then
  if (v_77.Num == 0) = true then
  some (decide ((v_77.Str.length : Int) ≤ 200))
  else
  some false
  else
  if (v_77.Kind == 3) = true then
  if v_77.Num ≥ 1 then
  some (v_77.Str == [])
  else
  some false
  else
  some false
noncomputable def survivor_checkValues_1 (v_86 : Value) : Option (Bool) :=
  (value_Valid v_86).bind fun (r_87 : Bool) =>
  some (!r_87)
noncomputable def survivor_checkValues_l1 (rows_90 : List Row) : (Int × Int) → Option (LS (Int × Int) ((Unit) ⊕ (Int))) := fun (last_102, t8_103) =>
  if t8_103 < (rows_90.length : Int) then
  (idx rows_90 t8_103).bind fun (x_119 : Row) =>
  if x_119.ID ≤ last_102 then
  some (.done (.inr 1))
  else
  (slices_ContainsFunc_Value x_119.Values (fun (y_122 : Value) => survivor_checkValues_1 y_122)).bind fun (r_123 : Bool) =>
  if r_123 = true then
  some (.done (.inr 1))
  else
  some (.next (x_119.ID, (IntKind.i64.wrap (t8_103 + 1))))
  else
  some (.done (.inl ()))
noncomputable def survivor_checkValues (rows_90 : List Row) : Option (Int) :=
  (LoopF (survivor_checkValues_l1 rows_90) (0, 0)).bind (fun o => match o with
  | .inl () =>
  some 0
  | .inr r_128 =>
  some r_128)
noncomputable def slices_IndexFunc_Row_l1 (s_132 : List Row) (f_133 : Row → Option (Bool)) : Int → Option (LS (Int) ((Unit) ⊕ (Int))) := fun t8_143 =>
  if t8_143 < (s_132.length : Int) then
  (idx s_132 t8_143).bind fun (x_153 : Row) =>
  (f_133 x_153).bind fun (r_155 : Bool) =>
  if r_155 = true then
  some (.done (.inr t8_143))
  else
  some (.next (IntKind.i64.wrap (t8_143 + 1)))
  else
  some (.done (.inl ()))
noncomputable def slices_IndexFunc_Row (s_132 : List Row) (f_133 : Row → Option (Bool)) : Option (Int) :=
  (LoopF (slices_IndexFunc_Row_l1 s_132 f_133) 0).bind (fun o => match o with
  | .inl () =>
  some (-1)
  | .inr r_160 =>
  some r_160)
noncomputable def survivor_count_l1 (l_164 : List Value) (v_165 : Value) : (Int × Int) → Option (LS (Int × Int) (Int)) := fun (n_173, t10_174) =>
  if t10_174 < (l_164.length : Int) then
  (idx l_164 t10_174).bind fun (x_187 : Value) =>
  if ((x_187.Kind == v_165.Kind) && ((x_187.Num == v_165.Num) && (x_187.Str == v_165.Str))) = true then
  some (.next ((IntKind.i64.wrap (n_173 + 1)), (IntKind.i64.wrap (t10_174 + 1))))
  else
  some (.next (n_173, (IntKind.i64.wrap (t10_174 + 1))))
  else
  some (.done n_173)
noncomputable def survivor_count (l_164 : List Value) (v_165 : Value) : Option (Int) :=
  (LoopF (survivor_count_l1 l_164 v_165) (0, 0)).bind (fun n_182 =>
  some n_182)
noncomputable def cmp_isNaN_int64 (x_194 : Int) : Option (Bool) :=
  some (x_194 != x_194)
noncomputable def cmp_Compare_int64 (x_196 : Int) (y_197 : Int) : Option (Int) :=
  (cmp_isNaN_int64 x_196).bind fun (r_200 : Bool) =>
  (cmp_isNaN_int64 y_197).bind fun (r_204 : Bool) =>
  if r_200 = true then
  if r_204 = true then
  some 0
  else
  some (-1)
  else
  if r_204 = true then
  some 1
  else
  if x_196 < y_197 then
  some (-1)
  else
  if x_196 > y_197 then
  some 1
  else
  some 0
noncomputable def cmp_Or_int_l1 (vals_212 : List Int) : Int → Option (LS (Int) ((Unit) ⊕ (Int))) := fun t8_220 =>
  if t8_220 < (vals_212.length : Int) then
  (idx vals_212 t8_220).bind fun (x_232 : Int) =>
  if (x_232 != 0) = true then
  some (.done (.inr x_232))
  else
  some (.next (IntKind.i64.wrap (t8_220 + 1)))
  else
  some (.done (.inl ()))
noncomputable def cmp_Or_int (vals_212 : List Int) : Option (Int) :=
  (LoopF (cmp_Or_int_l1 vals_212) 0).bind (fun o => match o with
  | .inl () =>
  some 0
  | .inr r_237 =>
  some r_237)
noncomputable def cmp_isNaN_int (x_241 : Int) : Option (Bool) :=
  some (x_241 != x_241)
noncomputable def cmp_Compare_int (x_243 : Int) (y_244 : Int) : Option (Int) :=
  (cmp_isNaN_int x_243).bind fun (r_247 : Bool) =>
  (cmp_isNaN_int y_244).bind fun (r_251 : Bool) =>
  if r_247 = true then
  if r_251 = true then
  some 0
  else
  some (-1)
  else
  if r_251 = true then
  some 1
  else
  if x_243 < y_244 then
  some (-1)
  else
  if x_243 > y_244 then
  some 1
  else
  some 0
noncomputable def bytealg_CompareString (a_259 : List UInt8) (b_260 : List UInt8) : Option (Int) :=
  some (Lib.compareBytes a_259 b_260)
noncomputable def strings_Compare (a_264 : List UInt8) (b_265 : List UInt8) : Option (Int) :=
  (bytealg_CompareString a_264 b_265).bind fun (r_266 : Int) =>
  some r_266
noncomputable def value_Compare (a_269 : Value) (b_270 : Value) : Option (Int) :=
  (cmp_Compare_int a_269.Kind b_270.Kind).bind fun (r_271 : Int) =>
  (cmp_Compare_int64 a_269.Num b_270.Num).bind fun (r_273 : Int) =>
  (strings_Compare a_269.Str b_270.Str).bind fun (r_275 : Int) =>
  (cmp_Or_int [r_271, r_273, r_275]).bind fun (r_277 : Int) =>
  some r_277
noncomputable def survivor_better (l_280 : List Value) (v_281 : Value) (best_282 : Value) (rule_283 : Int) : Option (Bool) :=
  if (rule_283 == 2) = true then
  (survivor_count l_280 v_281).bind fun (r_285 : Int) =>
  (survivor_count l_280 best_282).bind fun (r_287 : Int) =>
  some (decide (r_285 > r_287))
  else
  if (rule_283 == 3) = true then
  if (v_281.Kind == 2) = true then
  if (best_282.Kind != 2) = true then
  some true
  else
  some (decide ((v_281.Str.length : Int) > (best_282.Str.length : Int)))
  else
  some false
  else
  if (rule_283 == 4) = true then
  (value_Compare v_281 best_282).bind fun (r_293 : Int) =>
  some (decide (r_293 < 0))
  else
  if (rule_283 == 5) = true then
  (value_Compare v_281 best_282).bind fun (r_296 : Int) =>
  some (decide (r_296 > 0))
  else
  some false
noncomputable def survivor_choose_1 (r_299 : Row) (c_300 : Int) (c_301 : Value) : Option (Bool) :=
  (idx r_299.Values c_300).bind fun (x_302 : Value) =>
  some ((x_302.Kind == c_301.Kind) && ((x_302.Num == c_301.Num) && (x_302.Str == c_301.Str)))
noncomputable def survivor_choose_l1 (rows_305 : List Row) (attr_306 : Int) : (List Value × Int) → Option (LS (List Value × Int) (List Value)) := fun (l_320, t18_321) =>
  if t18_321 < (rows_305.length : Int) then
  (idx rows_305 t18_321).bind fun (x_339 : Row) =>
  (idx x_339.Values attr_306).bind fun (x_343 : Value) =>
  if (x_343.Kind != 0) = true then
  if roomB (l_320.length + 1) 32 = true then
  some (.next ((l_320 ++ [x_343]), (IntKind.i64.wrap (t18_321 + 1))))
  else none
  else
  some (.next (l_320, (IntKind.i64.wrap (t18_321 + 1))))
  else
  some (.done l_320)
noncomputable def survivor_choose_l2 (rule_307 : Int) (l_334 : List Value) : (Value × Int) → Option (LS (Value × Int) (Value)) := fun (best_369, t49_370) =>
  if t49_370 < (((l_334.length - 1) : Nat) : Int) then
  (idx ((l_334.drop 1).take (l_334.length - 1)) t49_370).bind fun (x_388 : Value) =>
  (survivor_better l_334 x_388 best_369 rule_307).bind fun (r_391 : Bool) =>
  if r_391 = true then
  some (.next (x_388, (IntKind.i64.wrap (t49_370 + 1))))
  else
  some (.next (best_369, (IntKind.i64.wrap (t49_370 + 1))))
  else
  some (.done best_369)
noncomputable def survivor_choose (rows_305 : List Row) (attr_306 : Int) (rule_307 : Int) : Option (Value × Int) :=
  (LoopF (survivor_choose_l1 rows_305 attr_306) ([], 0)).bind (fun l_334 =>
  if (((l_334.length : Nat) : Int) == 0) = true then
  (rows_305[0]?).bind fun (x_350 : Row) =>
  some ((Value.mk 0 0 []), x_350.ID)
  else
  (l_334[0]?).bind fun (x_354 : Value) =>
  if (1 : Int) ≤ ((l_334.length : Nat) : Int) then
  (LoopF (survivor_choose_l2 rule_307 l_334) (x_354, 0)).bind (fun best_382 =>
  (slices_IndexFunc_Row rows_305 (fun (y_399 : Row) => survivor_choose_1 y_399 attr_306 best_382)).bind fun (r_400 : Int) =>
  (idx rows_305 r_400).bind fun (x_402 : Row) =>
  some (best_382, x_402.ID))
  else none)
noncomputable def survivor_Choose (rows_407 : List Row) (attr_408 : Int) (rule_409 : Int) : Option (Value × Int × Int) :=
  (survivor_checkRows rows_407).bind fun (r_412 : Int) =>
  if (r_412 != 0) = true then
  some ((Value.mk 0 0 []), 0, r_412)
  else
  if attr_408 < 0 then
  some ((Value.mk 0 0 []), 0, 6)
  else
  (rows_407[0]?).bind fun (x_418 : Row) =>
  if attr_408 ≥ (x_418.Values.length : Int) then
  some ((Value.mk 0 0 []), 0, 6)
  else
  (survivor_checkValues rows_407).bind fun (r_423 : Int) =>
  if (r_423 != 0) = true then
  some ((Value.mk 0 0 []), 0, r_423)
  else
  (survivor_validRule rule_409).bind fun (r_426 : Bool) =>
  if r_426 = true then
  (survivor_choose rows_407 attr_408 rule_409).bind fun (r_431 : Value × Int) =>
  some (r_431.1, r_431.2, 0)
  else
  some ((Value.mk 0 0 []), 0, 1)
noncomputable def drosslaw55_example_1 (s_434 : List UInt8) : Option (Value) :=
  some (Value.mk 2 0 s_434)
noncomputable def drosslaw55_example_2 (n_436 : Int) : Option (Value) :=
  some (Value.mk 1 n_436 [])
noncomputable def drosslaw55_example : Option (List Row) :=
  (drosslaw55_example_1 [74, 111]).bind fun (r_438 : Value) =>
  (drosslaw55_example_1 [74, 111, 101]).bind fun (r_440 : Value) =>
  (drosslaw55_example_2 7).bind fun (r_442 : Value) =>
  (drosslaw55_example_1 [74, 111]).bind fun (r_444 : Value) =>
  (drosslaw55_example_2 8).bind fun (r_446 : Value) =>
  some [(Row.mk 3 [r_438, (Value.mk 0 0 [])]), (Row.mk 4 [r_440, r_442]), (Row.mk 9 [r_444, r_446])]
noncomputable def slices_IndexFunc_int_l1 (s_449 : List Int) (f_450 : Int → Option (Bool)) : Int → Option (LS (Int) ((Unit) ⊕ (Int))) := fun t8_460 =>
  if t8_460 < (s_449.length : Int) then
  (idx s_449 t8_460).bind fun (x_470 : Int) =>
  (f_450 x_470).bind fun (r_472 : Bool) =>
  if r_472 = true then
  some (.done (.inr t8_460))
  else
  some (.next (IntKind.i64.wrap (t8_460 + 1)))
  else
  some (.done (.inl ()))
noncomputable def slices_IndexFunc_int (s_449 : List Int) (f_450 : Int → Option (Bool)) : Option (Int) :=
  (LoopF (slices_IndexFunc_int_l1 s_449 f_450) 0).bind (fun o => match o with
  | .inl () =>
  some (-1)
  | .inr r_477 =>
  some r_477)
noncomputable def slices_ContainsFunc_int (s_481 : List Int) (f_482 : Int → Option (Bool)) : Option (Bool) :=
  (slices_IndexFunc_int s_481 f_482).bind fun (r_485 : Int) =>
  some (decide (r_485 ≥ 0))
noncomputable def survivor_Merge_1 (r_488 : Int) : Option (Bool) :=
  (survivor_validRule r_488).bind fun (r_489 : Bool) =>
  some (!r_489)
noncomputable def survivor_Merge_l1 (rows_492 : List Row) (rules_493 : List Int) : (List Value × List Int × Int) → Option (LS (List Value × List Int × Int) (List Value × List Int)) := fun (out_524, origins_525, t46_526) =>
  if t46_526 < (rules_493.length : Int) then
  (idx rules_493 t46_526).bind fun (x_546 : Int) =>
  (survivor_choose rows_492 t46_526 x_546).bind fun (r_550 : Value × Int) =>
  if roomB (out_524.length + 1) 32 = true then
  if roomB (origins_525.length + 1) 8 = true then
  some (.next ((out_524 ++ [r_550.1]), (origins_525 ++ [r_550.2]), (IntKind.i64.wrap (t46_526 + 1))))
  else none
  else none
  else
  some (.done (out_524, origins_525))
noncomputable def survivor_Merge (rows_492 : List Row) (rules_493 : List Int) : Option (Row × List Int × Int) :=
  (survivor_checkRows rows_492).bind fun (r_496 : Int) =>
  if (r_496 != 0) = true then
  some ((Row.mk 0 []), [], r_496)
  else
  (rows_492[0]?).bind fun (x_499 : Row) =>
  if ((rules_493.length : Int) != (x_499.Values.length : Int)) = true then
  some ((Row.mk 0 []), [], 6)
  else
  (survivor_checkValues rows_492).bind fun (r_504 : Int) =>
  if (r_504 != 0) = true then
  some ((Row.mk 0 []), [], r_504)
  else
  (slices_ContainsFunc_int rules_493 (fun (y_507 : Int) => survivor_Merge_1 y_507)).bind fun (r_508 : Bool) =>
  if r_508 = true then
  some ((Row.mk 0 []), [], 1)
  else
  (LoopF (survivor_Merge_l1 rows_492 rules_493) ([], [], 0)).bind (fun (out_540, origins_541) =>
  some ((Row.mk x_499.ID out_540), origins_541, 0))
noncomputable def drossref03_IDs_l1 (a_559 : List Int) (b_560 : List Int) : Int → Option (LS (Int) ((Unit) ⊕ (Bool))) := fun i_568 =>
  if i_568 < (a_559.length : Int) then
  (idx a_559 i_568).bind fun (x_576 : Int) =>
  (idx b_560 i_568).bind fun (x_578 : Int) =>
  if (x_576 != x_578) = true then
  some (.done (.inr false))
  else
  some (.next (IntKind.i64.wrap (i_568 + 1)))
  else
  some (.done (.inl ()))
noncomputable def drossref03_IDs (a_559 : List Int) (b_560 : List Int) : Option (Bool) :=
  if ((a_559.length : Int) != (b_560.length : Int)) = true then
  some false
  else
  (LoopF (drossref03_IDs_l1 a_559 b_560) 0).bind (fun o => match o with
  | .inl () =>
  some true
  | .inr r_583 =>
  some r_583)
noncomputable def drosslaw55_awake : Option (Bool) :=
  (drosslaw55_example ).bind fun (r_591 : List Row) =>
  (survivor_Choose r_591 0 3).bind fun (r_593 : Value × Int × Int) =>
  (drosslaw55_example ).bind fun (r_599 : List Row) =>
  (survivor_Merge r_599 [2, 1]).bind fun (r_601 : Row × List Int × Int) =>
  if (r_593.2.2 == 0) = true then
  if (r_601.2.2 == 0) = true then
  if (r_593.1.Str == [74, 111, 101]) = true then
  if (r_593.2.1 == 4) = true then
  if (r_601.1.ID == 3) = true then
  (r_601.1.Values[0]?).bind fun (x_610 : Value) =>
  if (x_610.Str == [74, 111]) = true then
  (r_601.1.Values[1]?).bind fun (x_615 : Value) =>
  if (x_615.Num == 7) = true then
  (drossref03_IDs r_601.2.1 [3, 4]).bind fun (r_618 : Bool) =>
  some r_618
  else
  some false
  else
  some false
  else
  some false
  else
  some false
  else
  some false
  else
  some false
  else
  some false
noncomputable def table_isName_l1 (s_624 : List UInt8) : Int → Option (LS (Int) ((Unit) ⊕ (Bool))) := fun t19_651 =>
  if t19_651 < (s_624.length : Int) then
  (idx s_624 t19_651).bind fun (c_682 : UInt8) =>
  (show Option (Bool) from
  if ((c_682.toNat : Nat) : Int) ≥ 97 then
  if ((c_682.toNat : Nat) : Int) ≤ 122 then
  some true
  else
  if ((c_682.toNat : Nat) : Int) ≥ 65 then
  if ((c_682.toNat : Nat) : Int) ≤ 90 then
  some true
  else
  some (((c_682.toNat : Nat) : Int) == 95)
  else
  some (((c_682.toNat : Nat) : Int) == 95)
  else
  if ((c_682.toNat : Nat) : Int) ≥ 65 then
  if ((c_682.toNat : Nat) : Int) ≤ 90 then
  some true
  else
  some (((c_682.toNat : Nat) : Int) == 95)
  else
  some (((c_682.toNat : Nat) : Int) == 95)).bind (fun letter_690 =>
  if letter_690 = true then
  some (.next (IntKind.i64.wrap (t19_651 + 1)))
  else
  if (t19_651 == 0) = true then
  some (.done (.inr false))
  else
  if ((c_682.toNat : Nat) : Int) < 48 then
  some (.done (.inr false))
  else
  if ((c_682.toNat : Nat) : Int) > 57 then
  some (.done (.inr false))
  else
  some (.next (IntKind.i64.wrap (t19_651 + 1))))
  else
  some (.done (.inl ()))
noncomputable def table_isName (s_624 : List UInt8) : Option (Bool) :=
  if (s_624 == []) = true then
  some false
  else
  if (s_624.length : Int) > 24 then
  some false
  else
  if (s_624 == [110, 117, 108, 108]) = true then
  some false
  else
  (LoopF (table_isName_l1 s_624) 0).bind (fun o => match o with
  | .inl () =>
  some true
  | .inr r_706 =>
  some r_706)
noncomputable def slices_Index_string_l1 (s_710 : List (List UInt8)) (v_711 : List UInt8) : Int → Option (LS (Int) ((Unit) ⊕ (Int))) := fun t8_717 =>
  if t8_717 < (s_710.length : Int) then
  (idx s_710 t8_717).bind fun (x_725 : List UInt8) =>
  if (v_711 == x_725) = true then
  some (.done (.inr t8_717))
  else
  some (.next (IntKind.i64.wrap (t8_717 + 1)))
  else
  some (.done (.inl ()))
noncomputable def slices_Index_string (s_710 : List (List UInt8)) (v_711 : List UInt8) : Option (Int) :=
  (LoopF (slices_Index_string_l1 s_710 v_711) 0).bind (fun o => match o with
  | .inl () =>
  some (-1)
  | .inr r_730 =>
  some r_730)
noncomputable def slices_Contains_string (s_734 : List (List UInt8)) (v_735 : List UInt8) : Option (Bool) :=
  (slices_Index_string s_734 v_735).bind fun (r_736 : Int) =>
  some (decide (r_736 ≥ 0))
noncomputable def table_validValues_1 (v_739 : Value) : Option (Bool) :=
  (value_Valid v_739).bind fun (r_740 : Bool) =>
  some (!r_740)
noncomputable def table_validValues (l_743 : List Value) : Option (Bool) :=
  (slices_ContainsFunc_Value l_743 (fun (y_744 : Value) => table_validValues_1 y_744)).bind fun (r_745 : Bool) =>
  some (!r_745)
noncomputable def table_Valid_l1 (t_748 : Table) : Int → Option (LS (Int) ((Unit) ⊕ (Int))) := fun t25_768 =>
  if t25_768 < (t_748.Attrs.length : Int) then
  (idx t_748.Attrs t25_768).bind fun (x_789 : List UInt8) =>
  (table_isName x_789).bind fun (r_791 : Bool) =>
  if r_791 = true then
  if (0 : Int) ≤ t25_768 then
  if t25_768 ≤ (t_748.Attrs.length : Int) then
  (slices_Contains_string (t_748.Attrs.take (t25_768.toNat)) x_789).bind fun (r_798 : Bool) =>
  if r_798 = true then
  some (.done (.inr 1))
  else
  some (.next (IntKind.i64.wrap (t25_768 + 1)))
  else none
  else none
  else
  some (.done (.inr 1))
  else
  some (.done (.inl ()))
noncomputable def table_Valid_l2 (t_748 : Table) : (Int × Int) → Option (LS (Int × Int) ((Unit) ⊕ (Int))) := fun (last_814, t45_815) =>
  if t45_815 < (t_748.Rows.length : Int) then
  (idx t_748.Rows t45_815).bind fun (x_831 : Row) =>
  if x_831.ID ≤ last_814 then
  some (.done (.inr 1))
  else
  if ((x_831.Values.length : Int) != (t_748.Attrs.length : Int)) = true then
  some (.done (.inr 6))
  else
  (table_validValues x_831.Values).bind fun (r_835 : Bool) =>
  if r_835 = true then
  some (.next (x_831.ID, (IntKind.i64.wrap (t45_815 + 1))))
  else
  some (.done (.inr 1))
  else
  some (.done (.inl ()))
noncomputable def table_Valid (t_748 : Table) : Option (Int) :=
  (table_isName t_748.Name).bind fun (r_749 : Bool) =>
  if r_749 = true then
  if (t_748.Attrs.length : Int) > 16 then
  some 3
  else
  if (t_748.Rows.length : Int) > 1000 then
  some 3
  else
  (LoopF (table_Valid_l1 t_748) 0).bind (fun o => match o with
  | .inl () =>
  (LoopF (table_Valid_l2 t_748) (0, 0)).bind (fun o => match o with
  | .inl () =>
  some 0
  | .inr r_840 =>
  some r_840)
  | .inr r_843 =>
  some r_843)
  else
  some 1
noncomputable def survivor_Table_1 (r_847 : Int) : Option (Bool) :=
  (survivor_validRule r_847).bind fun (r_848 : Bool) =>
  some (!r_848)
noncomputable def survivor_ascending_l1 (l_851 : List Int) : Int → Option (LS (Int) ((Unit) ⊕ (Bool))) := fun i_858 =>
  if i_858 < (l_851.length : Int) then
  (idx l_851 i_858).bind fun (x_866 : Int) =>
  (idx l_851 (IntKind.i64.wrap (i_858 - 1))).bind fun (x_868 : Int) =>
  if x_866 ≤ x_868 then
  some (.done (.inr false))
  else
  some (.next (IntKind.i64.wrap (i_858 + 1)))
  else
  some (.done (.inl ()))
noncomputable def survivor_ascending (l_851 : List Int) : Option (Bool) :=
  (LoopF (survivor_ascending_l1 l_851) 1).bind (fun o => match o with
  | .inl () =>
  some (decide ((l_851.length : Int) > 0))
  | .inr r_873 =>
  some r_873)
noncomputable def survivor_disjoint_l3 (x_961 : List Int) : ((List (Int × Bool)) × Int) → Option (LS ((List (Int × Bool)) × Int) (((List (Int × Bool))) ⊕ ((List (Int × Bool)) × Bool))) := fun (seen_973, t21_974) =>
  if t21_974 < (x_961.length : Int) then
  (idx x_961 t21_974).bind fun (x_987 : Int) =>
  if ((mget seen_973 x_987).getD false) = true then
  some (.done (.inr ([], false)))
  else
  some (.next ((mset seen_973 x_987 true), (IntKind.i64.wrap (t21_974 + 1))))
  else
  some (.done (.inl seen_973))
noncomputable def survivor_disjoint_l4 (clusters_877 : List (List Int)) : ((List (Int × Bool)) × Int) → Option (LS ((List (Int × Bool)) × Int) (((List (Int × Bool))) ⊕ ((List (Int × Bool)) × Bool))) := fun (seen_916, t12_917) =>
  if t12_917 < (clusters_877.length : Int) then
  (idx clusters_877 t12_917).bind fun (x_961 : List Int) =>
  (survivor_ascending x_961).bind fun (r_963 : Bool) =>
  if r_963 = true then
  (LoopF (survivor_disjoint_l3 x_961) (seen_916, 0)).bind (fun o => match o with
  | .inl seen_982 =>
  some (.next (seen_982, (IntKind.i64.wrap (t12_917 + 1))))
  | .inr r_992 =>
  some (.done (.inr r_992)))
  else
  some (.done (.inr ([], false)))
  else
  some (.done (.inl seen_916))
noncomputable def survivor_disjoint (clusters_877 : List (List Int)) : Option ((List (Int × Bool)) × Bool) :=
  (LoopF (survivor_disjoint_l4 clusters_877) ([], 0)).bind (fun o => match o with
  | .inl seen_956 =>
  some (seen_956, true)
  | .inr r_997 =>
  some r_997)
noncomputable def slices_ContainsFunc_Row (s_1001 : List Row) (f_1002 : Row → Option (Bool)) : Option (Bool) :=
  (slices_IndexFunc_Row s_1001 f_1002).bind fun (r_1005 : Int) =>
  some (decide (r_1005 ≥ 0))
noncomputable def survivor_divides_1 (r_1008 : Row) (c_1009 : List (Int × Bool)) : Option (Bool) :=
  some (!((mget c_1009 r_1008.ID).getD false))
noncomputable def survivor_divides (t_1011 : Table) (clusters_1012 : List (List Int)) : Option (Bool) :=
  (survivor_disjoint clusters_1012).bind fun (r_1015 : (List (Int × Bool)) × Bool) =>
  if r_1015.2 = true then
  if ((r_1015.1.length : Int) != (t_1011.Rows.length : Int)) = true then
  some false
  else
  (slices_ContainsFunc_Row t_1011.Rows (fun (y_1019 : Row) => survivor_divides_1 y_1019 r_1015.1)).bind fun (r_1020 : Bool) =>
  some (!r_1020)
  else
  some false
noncomputable def bits_Len64 (x : Int) : Option (Int) := if 0 ≤ x ∧ x < 13 then some (if x = 0 then 0 else if x < 2 then 1 else if x < 4 then 2 else if x < 8 then 3 else 4) else none
noncomputable def bits_Len (x_1075 : Int) : Option (Int) :=
  (bits_Len64 x_1075).bind fun (r_1076 : Int) =>
  some r_1076
noncomputable def survivor_Table_2 (a_1133 : List Int) (b_1134 : List Int) : Option (Int) :=
  (a_1133[0]?).bind fun (x_1135 : Int) =>
  (b_1134[0]?).bind fun (x_1137 : Int) =>
  (cmp_Compare_int64 x_1135 x_1137).bind fun (r_1139 : Int) =>
  some r_1139
noncomputable def slices_Clone_string (l : List (List UInt8)) : Option (List (List UInt8)) := if roomB l.length 16 = true then some l else none
noncomputable def slices_Index_int64_l1 (s_1142 : List Int) (v_1143 : Int) : Int → Option (LS (Int) ((Unit) ⊕ (Int))) := fun t8_1149 =>
  if t8_1149 < (s_1142.length : Int) then
  (idx s_1142 t8_1149).bind fun (x_1157 : Int) =>
  if (v_1143 == x_1157) = true then
  some (.done (.inr t8_1149))
  else
  some (.next (IntKind.i64.wrap (t8_1149 + 1)))
  else
  some (.done (.inl ()))
noncomputable def slices_Index_int64 (s_1142 : List Int) (v_1143 : Int) : Option (Int) :=
  (LoopF (slices_Index_int64_l1 s_1142 v_1143) 0).bind (fun o => match o with
  | .inl () =>
  some (-1)
  | .inr r_1162 =>
  some r_1162)
noncomputable def slices_Contains_int64 (s_1166 : List Int) (v_1167 : Int) : Option (Bool) :=
  (slices_Index_int64 s_1166 v_1167).bind fun (r_1168 : Int) =>
  some (decide (r_1168 ≥ 0))
noncomputable def slices_Clone_Value (l : List Value) : Option (List Value) := if roomB l.length 32 = true then some l else none
noncomputable def table_copied (r_1171 : Row) : Option (Row) :=
  (slices_Clone_Value r_1171.Values).bind fun (r_1172 : List Value) =>
  some (Row.mk r_1171.ID r_1172)
noncomputable def table_with_l1 (rows_1176 : List Row) : (List Row × Int) → Option (LS (List Row × Int) (List Row)) := fun (out_1190, t16_1191) =>
  if t16_1191 < (rows_1176.length : Int) then
  (idx rows_1176 t16_1191).bind fun (x_1206 : Row) =>
  (table_copied x_1206).bind fun (r_1208 : Row) =>
  if roomB (out_1190.length + 1) 32 = true then
  some (.next ((out_1190 ++ [r_1208]), (IntKind.i64.wrap (t16_1191 + 1))))
  else none
  else
  some (.done out_1190)
noncomputable def table_with (t_1175 : Table) (rows_1176 : List Row) : Option (Table) :=
  (slices_Clone_string t_1175.Attrs).bind fun (r_1179 : List (List UInt8)) =>
  (LoopF (table_with_l1 rows_1176) ([], 0)).bind (fun out_1201 =>
  some (Table.mk t_1175.Name r_1179 out_1201))
noncomputable def table_Keep_l1 (t_1215 : Table) (ids_1216 : List Int) : (List Row × Int) → Option (LS (List Row × Int) (List Row)) := fun (rows_1229, t11_1230) =>
  if t11_1230 < (t_1215.Rows.length : Int) then
  (idx t_1215.Rows t11_1230).bind fun (x_1248 : Row) =>
  (slices_Contains_int64 ids_1216 x_1248.ID).bind fun (r_1252 : Bool) =>
  if r_1252 = true then
  if roomB (rows_1229.length + 1) 32 = true then
  some (.next ((rows_1229 ++ [x_1248]), (IntKind.i64.wrap (t11_1230 + 1))))
  else none
  else
  some (.next (rows_1229, (IntKind.i64.wrap (t11_1230 + 1))))
  else
  some (.done rows_1229)
noncomputable def table_Keep (t_1215 : Table) (ids_1216 : List Int) : Option (Table) :=
  (LoopF (table_Keep_l1 t_1215 ids_1216) ([], 0)).bind (fun rows_1243 =>
  (table_with t_1215 rows_1243).bind fun (r_1258 : Table) =>
  some r_1258)
noncomputable def slices_Clone_int64 (l : List Int) : Option (List Int) := if roomB l.length 8 = true then some l else none
noncomputable def survivor_Table_l16 : (List (List Int) × Int) → Option (LS (List (List Int) × Int) (List (List Int))) := fun (data_1940, j_1941) =>
  if j_1941 > 0 then
  (idx data_1940 j_1941).bind fun (x_1960 : List Int) =>
  (idx data_1940 (IntKind.i64.wrap (j_1941 - 1))).bind fun (x_1964 : List Int) =>
  (survivor_Table_2 x_1960 x_1964).bind fun (r_1966 : Int) =>
  if r_1966 < 0 then
  (idx (data_1940.set j_1941.toNat x_1964) (IntKind.i64.wrap (j_1941 - 1))).bind fun (x_1969 : List Int) =>
  some (.next (((data_1940.set j_1941.toNat x_1964).set (IntKind.i64.wrap (j_1941 - 1)).toNat x_1960), (IntKind.i64.wrap (j_1941 - 1))))
  else
  some (.done data_1940)
  else
  some (.done data_1940)
noncomputable def survivor_Table_l17 (clusters_1305 : List (List Int)) : (List (List Int) × Int) → Option (LS (List (List Int) × Int) (List (List Int))) := fun (data_1873, i_1874) =>
  if i_1874 < ((clusters_1305.length : Nat) : Int) then
  (LoopF survivor_Table_l16 (data_1873, i_1874)).bind (fun data_1956 =>
  some (.next (data_1956, (IntKind.i64.wrap (i_1874 + 1)))))
  else
  some (.done data_1873)
noncomputable def survivor_Table_l18 (clusters_1305 : List (List Int)) : Unit → Option (LS (Unit) (List (List Int))) := fun () =>
  if (IntKind.i64.wrap (((clusters_1305.length : Nat) : Int) - 0)) ≤ 12 then
  (LoopF (survivor_Table_l17 clusters_1305) (clusters_1305, (IntKind.i64.wrap (0 + 1)))).bind (fun b_1924 =>
  if b_1924.length = clusters_1305.length then
  some (.done b_1924)
  else none)
  else
  none
noncomputable def survivor_Table_l19 (t_1304 : Table) (rules_1306 : List Int) (b_1820 : List (List Int)) : (List Row × List (List Int) × List (List Int) × Int) → Option (LS (List Row × List (List Int) × List (List Int) × Int) ((List Row × List (List Int) × List (List Int)) ⊕ (Merged × Int))) := fun (out_2010, out_2011, out_2012, t51_2013) =>
  if t51_2013 < ((b_1820.length : Nat) : Int) then
  (idx b_1820 t51_2013).bind fun (x_2045 : List Int) =>
  (table_Keep t_1304 x_2045).bind fun (r_2051 : Table) =>
  (survivor_Merge r_2051.Rows rules_1306).bind fun (r_2053 : Row × List Int × Int) =>
  if (r_2053.2.2 != 0) = true then
  some (.done (.inr ((Merged.mk (Table.mk [] [] []) [] []), r_2053.2.2)))
  else
  if roomB (out_2010.length + 1) 32 = true then
  (slices_Clone_int64 x_2045).bind fun (r_2061 : List Int) =>
  if roomB (out_2011.length + 1) 24 = true then
  if roomB (out_2012.length + 1) 24 = true then
  some (.next ((out_2010 ++ [r_2053.1]), (out_2011 ++ [r_2061]), (out_2012 ++ [r_2053.2.1]), (IntKind.i64.wrap (t51_2013 + 1))))
  else none
  else none
  else none
  else
  some (.done (.inl (out_2010, out_2011, out_2012)))
noncomputable def survivor_Table (t_1304 : Table) (clusters_1305 : List (List Int)) (rules_1306 : List Int) : Option (Merged × Int) :=
  (table_Valid t_1304).bind fun (r_1309 : Int) =>
  if (r_1309 != 0) = true then
  some ((Merged.mk (Table.mk [] [] []) [] []), r_1309)
  else
  if ((rules_1306.length : Int) != (t_1304.Attrs.length : Int)) = true then
  some ((Merged.mk (Table.mk [] [] []) [] []), 6)
  else
  (slices_ContainsFunc_int rules_1306 (fun (y_1313 : Int) => survivor_Table_1 y_1313)).bind fun (r_1314 : Bool) =>
  if r_1314 = true then
  some ((Merged.mk (Table.mk [] [] []) [] []), 1)
  else
  (survivor_divides t_1304 clusters_1305).bind fun (r_1317 : Bool) =>
  if r_1317 = true then
  if roomB clusters_1305.length 24 = true then
  (bits_Len (IntKind.u64.wrap ((clusters_1305.length : Nat) : Int))).bind fun (r_1658 : Int) =>
  (LoopF (survivor_Table_l18 clusters_1305) ()).bind (fun b_1820 =>
  if b_1820.length = clusters_1305.length then
  if b_1820.length = clusters_1305.length then
  (slices_Clone_string t_1304.Attrs).bind fun (r_1985 : List (List UInt8)) =>
  (LoopF (survivor_Table_l19 t_1304 rules_1306 b_1820) ([], [], [], 0)).bind (fun o => match o with
  | .inl (out_2038, out_2039, out_2040) =>
  some ((Merged.mk (Table.mk t_1304.Name r_1985 out_2038) out_2039 out_2040), 0)
  | .inr r_2067 =>
  some r_2067)
  else none
  else none)
  else none
  else
  some ((Merged.mk (Table.mk [] [] []) [] []), 1)
noncomputable def drossref03_letter (c_2072 : Int) : Option (Bool) :=
  if c_2072 ≥ 97 then
  if c_2072 ≤ 122 then
  some true
  else
  if c_2072 ≥ 65 then
  if c_2072 ≤ 90 then
  some true
  else
  some (c_2072 == 95)
  else
  some (c_2072 == 95)
  else
  if c_2072 ≥ 65 then
  if c_2072 ≤ 90 then
  some true
  else
  some (c_2072 == 95)
  else
  some (c_2072 == 95)
noncomputable def drossref03_Name_l1 (s_2080 : List UInt8) : Int → Option (LS (Int) ((Unit) ⊕ (Bool))) := fun i_2099 =>
  if i_2099 < (s_2080.length : Int) then
  (idx s_2080 i_2099).bind fun (c_2109 : UInt8) =>
  (drossref03_letter ((c_2109.toNat : Nat) : Int)).bind fun (r_2111 : Bool) =>
  if r_2111 = true then
  some (.next (IntKind.i64.wrap (i_2099 + 1)))
  else
  if ((c_2109.toNat : Nat) : Int) < 48 then
  some (.done (.inr false))
  else
  if ((c_2109.toNat : Nat) : Int) > 57 then
  some (.done (.inr false))
  else
  some (.next (IntKind.i64.wrap (i_2099 + 1)))
  else
  some (.done (.inl ()))
noncomputable def drossref03_Name (s_2080 : List UInt8) : Option (Bool) :=
  if ((s_2080.length : Int) == 0) = true then
  some false
  else
  if (s_2080.length : Int) > 24 then
  some false
  else
  (s_2080[0]?).bind fun (c_2085 : UInt8) =>
  (drossref03_letter ((c_2085.toNat : Nat) : Int)).bind fun (r_2087 : Bool) =>
  if r_2087 = true then
  if (s_2080 == [110, 117, 108, 108]) = true then
  some false
  else
  (LoopF (drossref03_Name_l1 s_2080) 0).bind (fun o => match o with
  | .inl () =>
  some true
  | .inr r_2118 =>
  some r_2118)
  else
  some false
noncomputable def drossref03_Attr_l1 (l_2122 : List (List UInt8)) (name_2123 : List UInt8) : Int → Option (LS (Int) ((Unit) ⊕ (Int))) := fun i_2128 =>
  if i_2128 < (l_2122.length : Int) then
  (idx l_2122 i_2128).bind fun (x_2134 : List UInt8) =>
  if (x_2134 == name_2123) = true then
  some (.done (.inr i_2128))
  else
  some (.next (IntKind.i64.wrap (i_2128 + 1)))
  else
  some (.done (.inl ()))
noncomputable def drossref03_Attr (l_2122 : List (List UInt8)) (name_2123 : List UInt8) : Option (Int) :=
  (LoopF (drossref03_Attr_l1 l_2122 name_2123) 0).bind (fun o => match o with
  | .inl () =>
  some (-1)
  | .inr r_2139 =>
  some r_2139)
noncomputable def drossref03_Names_l1 (l_2143 : List (List UInt8)) : Int → Option (LS (Int) ((Unit) ⊕ (Bool))) := fun i_2155 =>
  if i_2155 < (l_2143.length : Int) then
  (idx l_2143 i_2155).bind fun (x_2170 : List UInt8) =>
  (drossref03_Name x_2170).bind fun (r_2172 : Bool) =>
  if r_2172 = true then
  if (0 : Int) ≤ i_2155 then
  if i_2155 ≤ (l_2143.length : Int) then
  (drossref03_Attr (l_2143.take (i_2155.toNat)) x_2170).bind fun (r_2179 : Int) =>
  if r_2179 ≥ 0 then
  some (.done (.inr false))
  else
  some (.next (IntKind.i64.wrap (i_2155 + 1)))
  else none
  else none
  else
  some (.done (.inr false))
  else
  some (.done (.inl ()))
noncomputable def drossref03_Names (l_2143 : List (List UInt8)) : Option (Bool) :=
  (LoopF (drossref03_Names_l1 l_2143) 0).bind (fun o => match o with
  | .inl () =>
  some true
  | .inr r_2184 =>
  some r_2184)
noncomputable def drossref01_Valid (v_2188 : Value) : Option (Bool) :=
  if (v_2188.Kind == 0) = true then
  if (v_2188.Num == 0) = true then
  some (v_2188.Str == [])
  else
  some false
  else
  if (v_2188.Kind == 1) = true then
  some (v_2188.Str == [])
  else
  if (v_2188.Kind == 2) = true then
  if (v_2188.Num == 0) = true then
  some (decide ((v_2188.Str.length : Int) ≤ 200))
  else
  some false
  else
  if (v_2188.Kind == 3) = true then
  if v_2188.Num ≥ 1 then
  some (v_2188.Str == [])
  else
  some false
  else
  some false
noncomputable def drossref01_Valids_l1 (l_2197 : List Value) : Int → Option (LS (Int) ((Unit) ⊕ (Bool))) := fun i_2204 =>
  if i_2204 < (l_2197.length : Int) then
  (idx l_2197 i_2204).bind fun (x_2212 : Value) =>
  (drossref01_Valid x_2212).bind fun (r_2214 : Bool) =>
  if r_2214 = true then
  some (.next (IntKind.i64.wrap (i_2204 + 1)))
  else
  some (.done (.inr false))
  else
  some (.done (.inl ()))
noncomputable def drossref01_Valids (l_2197 : List Value) : Option (Bool) :=
  (LoopF (drossref01_Valids_l1 l_2197) 0).bind (fun o => match o with
  | .inl () =>
  some true
  | .inr r_2219 =>
  some r_2219)
noncomputable def drossref03_Valid_l1 (t_2223 : Table) : (Int × Int) → Option (LS (Int × Int) ((Unit) ⊕ (Int))) := fun (before_2242, i_2243) =>
  if i_2243 < (t_2223.Rows.length : Int) then
  (idx t_2223.Rows i_2243).bind fun (x_2257 : Row) =>
  if x_2257.ID ≤ before_2242 then
  some (.done (.inr 1))
  else
  if ((x_2257.Values.length : Int) != (t_2223.Attrs.length : Int)) = true then
  some (.done (.inr 6))
  else
  (drossref01_Valids x_2257.Values).bind fun (r_2261 : Bool) =>
  if r_2261 = true then
  some (.next (x_2257.ID, (IntKind.i64.wrap (i_2243 + 1))))
  else
  some (.done (.inr 1))
  else
  some (.done (.inl ()))
noncomputable def drossref03_Valid (t_2223 : Table) : Option (Int) :=
  (drossref03_Name t_2223.Name).bind fun (r_2224 : Bool) =>
  if r_2224 = true then
  if (t_2223.Attrs.length : Int) > 16 then
  some 3
  else
  if (t_2223.Rows.length : Int) > 1000 then
  some 3
  else
  (drossref03_Names t_2223.Attrs).bind fun (r_2229 : Bool) =>
  if r_2229 = true then
  (LoopF (drossref03_Valid_l1 t_2223) (0, 0)).bind (fun o => match o with
  | .inl () =>
  some 0
  | .inr r_2266 =>
  some r_2266)
  else
  some 1
  else
  some 1
noncomputable def drossref55_Rules_l1 (l_2270 : List Int) : Int → Option (LS (Int) ((Unit) ⊕ (Bool))) := fun i_2276 =>
  if i_2276 < (l_2270.length : Int) then
  (idx l_2270 i_2276).bind fun (x_2283 : Int) =>
  if x_2283 < 1 then
  some (.done (.inr false))
  else
  if x_2283 > 5 then
  some (.done (.inr false))
  else
  some (.next (IntKind.i64.wrap (i_2276 + 1)))
  else
  some (.done (.inl ()))
noncomputable def drossref55_Rules (l_2270 : List Int) : Option (Bool) :=
  (LoopF (drossref55_Rules_l1 l_2270) 0).bind (fun o => match o with
  | .inl () =>
  some true
  | .inr r_2289 =>
  some r_2289)
noncomputable def drossref03_Find_l1 (t_2293 : Table) (id_2294 : Int) : Int → Option (LS (Int) ((Unit) ⊕ (Int × Bool))) := fun i_2299 =>
  if i_2299 < (t_2293.Rows.length : Int) then
  (idx t_2293.Rows i_2299).bind fun (x_2305 : Row) =>
  if (x_2305.ID == id_2294) = true then
  some (.done (.inr (i_2299, true)))
  else
  some (.next (IntKind.i64.wrap (i_2299 + 1)))
  else
  some (.done (.inl ()))
noncomputable def drossref03_Find (t_2293 : Table) (id_2294 : Int) : Option (Int × Bool) :=
  (LoopF (drossref03_Find_l1 t_2293 id_2294) 0).bind (fun o => match o with
  | .inl () =>
  some (0, false)
  | .inr r_2310 =>
  some r_2310)
noncomputable def drossref03_Has_l1 (l_2314 : List Int) (id_2315 : Int) : Int → Option (LS (Int) ((Unit) ⊕ (Bool))) := fun i_2320 =>
  if i_2320 < (l_2314.length : Int) then
  (idx l_2314 i_2320).bind fun (x_2326 : Int) =>
  if (x_2326 == id_2315) = true then
  some (.done (.inr true))
  else
  some (.next (IntKind.i64.wrap (i_2320 + 1)))
  else
  some (.done (.inl ()))
noncomputable def drossref03_Has (l_2314 : List Int) (id_2315 : Int) : Option (Bool) :=
  (LoopF (drossref03_Has_l1 l_2314 id_2315) 0).bind (fun o => match o with
  | .inl () =>
  some false
  | .inr r_2331 =>
  some r_2331)
noncomputable def drossref55_Cluster_l1 (l_2335 : List Int) : Int → Option (LS (Int) ((Unit) ⊕ (Bool))) := fun i_2342 =>
  if i_2342 < (l_2335.length : Int) then
  (idx l_2335 i_2342).bind fun (x_2350 : Int) =>
  (idx l_2335 (IntKind.i64.wrap (i_2342 - 1))).bind fun (x_2352 : Int) =>
  if x_2350 ≤ x_2352 then
  some (.done (.inr false))
  else
  some (.next (IntKind.i64.wrap (i_2342 + 1)))
  else
  some (.done (.inl ()))
noncomputable def drossref55_Cluster (l_2335 : List Int) : Option (Bool) :=
  (LoopF (drossref55_Cluster_l1 l_2335) 1).bind (fun o => match o with
  | .inl () =>
  some (decide ((l_2335.length : Int) > 0))
  | .inr r_2357 =>
  some r_2357)
noncomputable def drossref55_once_l3 (l_2361 : List (List Int)) (all_2399 : List Int) (i_2400 : Int) : Int → Option (LS (Int) ((Unit) ⊕ (Bool))) := fun k_2452 =>
  (idx l_2361 i_2400).bind fun (x_2461 : List Int) =>
  if k_2452 < (x_2461.length : Int) then
  (idx x_2461 k_2452).bind fun (x_2464 : Int) =>
  (drossref03_Has all_2399 x_2464).bind fun (r_2466 : Bool) =>
  if r_2466 = true then
  some (.done (.inr false))
  else
  some (.next (IntKind.i64.wrap (k_2452 + 1)))
  else
  some (.done (.inl ()))
noncomputable def drossref55_once_l4 (l_2361 : List (List Int)) : (List Int × Int) → Option (LS (List Int × Int) ((Unit) ⊕ (Bool))) := fun (all_2399, i_2400) =>
  if i_2400 < (l_2361.length : Int) then
  (idx l_2361 i_2400).bind fun (x_2439 : List Int) =>
  (drossref55_Cluster x_2439).bind fun (r_2441 : Bool) =>
  if r_2441 = true then
  (LoopF (drossref55_once_l3 l_2361 all_2399 i_2400) 0).bind (fun o => match o with
  | .inl () =>
  if roomB (all_2399.length + x_2439.length) 8 = true then
  some (.next ((all_2399 ++ x_2439), (IntKind.i64.wrap (i_2400 + 1))))
  else none
  | .inr r_2472 =>
  some (.done (.inr r_2472)))
  else
  some (.done (.inr false))
  else
  some (.done (.inl ()))
noncomputable def drossref55_once (l_2361 : List (List Int)) : Option (Bool) :=
  (LoopF (drossref55_once_l4 l_2361) ([], 0)).bind (fun o => match o with
  | .inl () =>
  some true
  | .inr r_2477 =>
  some r_2477)
noncomputable def drossref55_Of_l3 (t_2481 : Table) (l_2482 : List (List Int)) (i_2522 : Int) : Int → Option (LS (Int) ((Unit) ⊕ (Bool))) := fun k_2572 =>
  (idx l_2482 i_2522).bind fun (x_2581 : List Int) =>
  if k_2572 < (x_2581.length : Int) then
  (idx x_2581 k_2572).bind fun (x_2584 : Int) =>
  (drossref03_Find t_2481 x_2584).bind fun (r_2586 : Int × Bool) =>
  if r_2586.2 = true then
  some (.next (IntKind.i64.wrap (k_2572 + 1)))
  else
  some (.done (.inr false))
  else
  some (.done (.inl ()))
noncomputable def drossref55_Of_l4 (t_2481 : Table) (l_2482 : List (List Int)) : (Int × Int) → Option (LS (Int × Int) ((Int) ⊕ (Bool))) := fun (n_2521, i_2522) =>
  if i_2522 < (l_2482.length : Int) then
  (idx l_2482 i_2522).bind fun (x_2562 : List Int) =>
  (LoopF (drossref55_Of_l3 t_2481 l_2482 i_2522) 0).bind (fun o => match o with
  | .inl () =>
  some (.next ((IntKind.i64.wrap (n_2521 + (x_2562.length : Int))), (IntKind.i64.wrap (i_2522 + 1))))
  | .inr r_2591 =>
  some (.done (.inr r_2591)))
  else
  some (.done (.inl n_2521))
noncomputable def drossref55_Of (t_2481 : Table) (l_2482 : List (List Int)) : Option (Bool) :=
  (drossref55_once l_2482).bind fun (r_2483 : Bool) =>
  if r_2483 = true then
  (LoopF (drossref55_Of_l4 t_2481 l_2482) (0, 0)).bind (fun o => match o with
  | .inl n_2558 =>
  some (n_2558 == (t_2481.Rows.length : Int))
  | .inr r_2596 =>
  some r_2596)
  else
  some false
noncomputable def drossref03_cp (r_2600 : Row) : Option (Row) :=
  if roomB r_2600.Values.length 32 = true then
  some (Row.mk r_2600.ID r_2600.Values)
  else none
noncomputable def drossref03_With_l1 (rows_2604 : List Row) : (List Row × Int) → Option (LS (List Row × Int) (List Row)) := fun (out_2613, i_2614) =>
  if i_2614 < (rows_2604.length : Int) then
  (idx rows_2604 i_2614).bind fun (x_2623 : Row) =>
  (drossref03_cp x_2623).bind fun (r_2625 : Row) =>
  if roomB (out_2613.length + 1) 32 = true then
  some (.next ((out_2613 ++ [r_2625]), (IntKind.i64.wrap (i_2614 + 1))))
  else none
  else
  some (.done out_2613)
noncomputable def drossref03_With (t_2603 : Table) (rows_2604 : List Row) : Option (Table) :=
  if roomB t_2603.Attrs.length 16 = true then
  (LoopF (drossref03_With_l1 rows_2604) ([], 0)).bind (fun out_2621 =>
  some (Table.mk t_2603.Name t_2603.Attrs out_2621))
  else none
noncomputable def drossref01_sign (a_2632 : Int) (b_2633 : Int) : Option (Int) :=
  if a_2632 < b_2633 then
  some (-1)
  else
  if a_2632 > b_2633 then
  some 1
  else
  some 0
noncomputable def drossref01_strings_l1 (a_2637 : List UInt8) (b_2638 : List UInt8) : Int → Option (LS (Int) ((Unit) ⊕ (Int))) := fun i_2652 =>
  if i_2652 < (a_2637.length : Int) then
  if i_2652 < (b_2638.length : Int) then
  (idx a_2637 i_2652).bind fun (c_2672 : UInt8) =>
  (idx b_2638 i_2652).bind fun (c_2674 : UInt8) =>
  if (((c_2672.toNat : Nat) : Int) != ((c_2674.toNat : Nat) : Int)) = true then
  (drossref01_sign (IntKind.i64.wrap ((c_2672.toNat : Nat) : Int)) (IntKind.i64.wrap ((c_2674.toNat : Nat) : Int))).bind fun (r_2677 : Int) =>
  some (.done (.inr r_2677))
  else
  some (.next (IntKind.i64.wrap (i_2652 + 1)))
  else
  some (.done (.inl ()))
  else
  some (.done (.inl ()))
noncomputable def drossref01_strings (a_2637 : List UInt8) (b_2638 : List UInt8) : Option (Int) :=
  (LoopF (drossref01_strings_l1 a_2637 b_2638) 0).bind (fun o => match o with
  | .inl () =>
  (drossref01_sign (a_2637.length : Int) (b_2638.length : Int)).bind fun (r_2681 : Int) =>
  some r_2681
  | .inr r_2683 =>
  some r_2683)
noncomputable def drossref01_Compare (a_2687 : Value) (b_2688 : Value) : Option (Int) :=
  (drossref01_sign a_2687.Kind b_2688.Kind).bind fun (r_2689 : Int) =>
  if (r_2689 != 0) = true then
  some r_2689
  else
  (drossref01_sign a_2687.Num b_2688.Num).bind fun (r_2692 : Int) =>
  if (r_2692 != 0) = true then
  some r_2692
  else
  (drossref01_strings a_2687.Str b_2688.Str).bind fun (r_2695 : Int) =>
  some r_2695
noncomputable def drossref55_times_l1 (rows_2698 : List Row) (attr_2699 : Int) (v_2700 : Value) : (Int × Int) → Option (LS (Int × Int) (Int)) := fun (n_2709, i_2710) =>
  if i_2710 < (rows_2698.length : Int) then
  (idx rows_2698 i_2710).bind fun (x_2721 : Row) =>
  (idx x_2721.Values attr_2699).bind fun (x_2723 : Value) =>
  (drossref01_Compare x_2723 v_2700).bind fun (r_2725 : Int) =>
  if (r_2725 == 0) = true then
  some (.next ((IntKind.i64.wrap (n_2709 + 1)), (IntKind.i64.wrap (i_2710 + 1))))
  else
  some (.next (n_2709, (IntKind.i64.wrap (i_2710 + 1))))
  else
  some (.done n_2709)
noncomputable def drossref55_times (rows_2698 : List Row) (attr_2699 : Int) (v_2700 : Value) : Option (Int) :=
  (LoopF (drossref55_times_l1 rows_2698 attr_2699 v_2700) (0, 0)).bind (fun n_2719 =>
  some n_2719)
noncomputable def drossref55_better (rows_2732 : List Row) (attr_2733 : Int) (rule_2734 : Int) (v_2735 : Value) (old_2736 : Value) : Option (Bool) :=
  if (rule_2734 == 2) = true then
  (drossref55_times rows_2732 attr_2733 v_2735).bind fun (r_2738 : Int) =>
  (drossref55_times rows_2732 attr_2733 old_2736).bind fun (r_2740 : Int) =>
  some (decide (r_2738 > r_2740))
  else
  if (rule_2734 == 3) = true then
  if (v_2735.Kind == 2) = true then
  if (old_2736.Kind != 2) = true then
  some true
  else
  some (decide ((v_2735.Str.length : Int) > (old_2736.Str.length : Int)))
  else
  some false
  else
  (drossref01_Compare v_2735 old_2736).bind fun (r_2747 : Int) =>
  if (rule_2734 == 4) = true then
  if r_2747 < 0 then
  some true
  else
  if (rule_2734 == 5) = true then
  some (decide (r_2747 > 0))
  else
  some false
  else
  if (rule_2734 == 5) = true then
  some (decide (r_2747 > 0))
  else
  some false
noncomputable def drossref55_Pick_l1 (rows_2754 : List Row) (attr_2755 : Int) (rule_2756 : Int) : (Drossref55_Result × Int) → Option (LS (Drossref55_Result × Int) (Drossref55_Result)) := fun (out_2773, i_2774) =>
  if i_2774 < (rows_2754.length : Int) then
  (idx rows_2754 i_2774).bind fun (x_2803 : Row) =>
  (idx x_2803.Values attr_2755).bind fun (x_2805 : Value) =>
  (show Option (Bool) from
  if (x_2805.Kind != 0) = true then
  if (out_2773.Origin == 0) = true then
  some true
  else
  (drossref55_better rows_2754 attr_2755 rule_2756 x_2805 out_2773.Value).bind fun (r_2816 : Bool) =>
  some r_2816
  else
  some false).bind (fun t40_2811 =>
  if t40_2811 = true then
  some (.next ((Drossref55_Result.mk x_2805 x_2803.ID), (IntKind.i64.wrap (i_2774 + 1))))
  else
  some (.next (out_2773, (IntKind.i64.wrap (i_2774 + 1)))))
  else
  some (.done out_2773)
noncomputable def drossref55_Pick (rows_2754 : List Row) (attr_2755 : Int) (rule_2756 : Int) : Option (Drossref55_Result) :=
  (LoopF (drossref55_Pick_l1 rows_2754 attr_2755 rule_2756) ((Drossref55_Result.mk (Value.mk 0 0 []) 0), 0)).bind (fun out_2797 =>
  if (out_2797.Origin == 0) = true then
  (rows_2754[0]?).bind fun (x_2823 : Row) =>
  some (Drossref55_Result.mk out_2797.Value x_2823.ID)
  else
  some out_2797)
noncomputable def drossref55_merge_l1 (rows_2827 : List Row) (rules_2828 : List Int) : (List Value × List Int × Int) → Option (LS (List Value × List Int × Int) (List Value × List Int)) := fun (out_2845, out_2846, i_2847) =>
  if i_2847 < (rules_2828.length : Int) then
  (idx rules_2828 i_2847).bind fun (x_2867 : Int) =>
  (drossref55_Pick rows_2827 i_2847 x_2867).bind fun (r_2869 : Drossref55_Result) =>
  if roomB (out_2845.length + 1) 32 = true then
  if roomB (out_2846.length + 1) 8 = true then
  some (.next ((out_2845 ++ [r_2869.Value]), (out_2846 ++ [r_2869.Origin]), (IntKind.i64.wrap (i_2847 + 1))))
  else none
  else none
  else
  some (.done (out_2845, out_2846))
noncomputable def drossref55_merge (rows_2827 : List Row) (rules_2828 : List Int) : Option (Drossref55_Row) :=
  (rows_2827[0]?).bind fun (x_2831 : Row) =>
  (LoopF (drossref55_merge_l1 rows_2827 rules_2828) ([], [], 0)).bind (fun (out_2860, out_2861) =>
  some (Drossref55_Row.mk (Row.mk x_2831.ID out_2860) out_2861))
noncomputable def drossref03_Keep_l1 (t_2878 : Table) (ids_2879 : List Int) : (List Row × Int) → Option (LS (List Row × Int) (List Row)) := fun (rows_2891, i_2892) =>
  if i_2892 < (t_2878.Rows.length : Int) then
  (idx t_2878.Rows i_2892).bind fun (x_2910 : Row) =>
  (drossref03_Has ids_2879 x_2910.ID).bind fun (r_2912 : Bool) =>
  if r_2912 = true then
  if roomB (rows_2891.length + 1) 32 = true then
  some (.next ((rows_2891 ++ [x_2910]), (IntKind.i64.wrap (i_2892 + 1))))
  else none
  else
  some (.next (rows_2891, (IntKind.i64.wrap (i_2892 + 1))))
  else
  some (.done rows_2891)
noncomputable def drossref03_Keep (t_2878 : Table) (ids_2879 : List Int) : Option (Table) :=
  (LoopF (drossref03_Keep_l1 t_2878 ids_2879) ([], 0)).bind (fun rows_2904 =>
  (drossref03_With t_2878 rows_2904).bind fun (r_2918 : Table) =>
  some r_2918)
noncomputable def drossref55_Table_l4 : (List (List Int) × Int) → Option (LS (List (List Int) × Int) (List (List Int))) := fun (l_3347, k_3348) =>
  if k_3348 > 0 then
  (idx l_3347 k_3348).bind fun (x_3373 : List Int) =>
  (x_3373[0]?).bind fun (x_3377 : Int) =>
  (idx l_3347 (IntKind.i64.wrap (k_3348 - 1))).bind fun (x_3381 : List Int) =>
  (x_3381[0]?).bind fun (x_3385 : Int) =>
  if x_3377 < x_3385 then
  (idx (l_3347.set k_3348.toNat x_3381) (IntKind.i64.wrap (k_3348 - 1))).bind fun (x_3388 : List Int) =>
  some (.next (((l_3347.set k_3348.toNat x_3381).set (IntKind.i64.wrap (k_3348 - 1)).toNat x_3373), (IntKind.i64.wrap (k_3348 - 1))))
  else
  some (.done l_3347)
  else
  some (.done l_3347)
noncomputable def drossref55_Table_l5 : (List (List Int) × Int) → Option (LS (List (List Int) × Int) (List (List Int))) := fun (l_3256, i_3257) =>
  if i_3257 < ((l_3256.length : Nat) : Int) then
  (LoopF drossref55_Table_l4 (l_3256, i_3257)).bind (fun l_3369 =>
  some (.next (l_3369, (IntKind.i64.wrap (i_3257 + 1)))))
  else
  some (.done l_3256)
noncomputable def drossref55_Table_l7 : Unit → Option (LS (Unit) (Unit)) := fun () =>
  some (.done ())
noncomputable def drossref55_Table_l8 (t_3167 : Table) (rules_3169 : List Int) (l_3325 : List (List Int)) : (List Row × List (List Int) × List (List Int) × Int) → Option (LS (List Row × List (List Int) × List (List Int) × Int) (List Row × List (List Int) × List (List Int))) := fun (out_3427, out_3428, out_3429, i_3430) =>
  if i_3430 < ((l_3325.length : Nat) : Int) then
  (idx l_3325 i_3430).bind fun (x_3461 : List Int) =>
  (drossref03_Keep t_3167 x_3461).bind fun (r_3463 : Table) =>
  (drossref55_merge r_3463.Rows rules_3169).bind fun (r_3465 : Drossref55_Row) =>
  if roomB (out_3427.length + 1) 32 = true then
  if roomB x_3461.length 8 = true then
  if roomB (out_3428.length + 1) 24 = true then
  if roomB (out_3429.length + 1) 24 = true then
  some (.next ((out_3427 ++ [r_3465.Row]), (out_3428 ++ [x_3461]), (out_3429 ++ [r_3465.Origins]), (IntKind.i64.wrap (i_3430 + 1))))
  else none
  else none
  else none
  else none
  else
  some (.done (out_3427, out_3428, out_3429))
noncomputable def drossref55_Table (t_3167 : Table) (clusters_3168 : List (List Int)) (rules_3169 : List Int) : Option (Merged × Int) :=
  (drossref03_Valid t_3167).bind fun (r_3172 : Int) =>
  if (r_3172 != 0) = true then
  some ((Merged.mk (Table.mk [] [] []) [] []), r_3172)
  else
  if ((rules_3169.length : Int) != (t_3167.Attrs.length : Int)) = true then
  some ((Merged.mk (Table.mk [] [] []) [] []), 6)
  else
  (drossref55_Rules rules_3169).bind fun (r_3176 : Bool) =>
  if r_3176 = true then
  (drossref55_Of t_3167 clusters_3168).bind fun (r_3179 : Bool) =>
  if r_3179 = true then
  if roomB clusters_3168.length 24 = true then
  (LoopF drossref55_Table_l5 (clusters_3168, 0)).bind (fun l_3325 =>
  if roomB t_3167.Attrs.length 16 = true then
  (LoopF drossref55_Table_l7 ()).bind (fun () =>
  (LoopF (drossref55_Table_l8 t_3167 rules_3169 l_3325) ([], [], [], 0)).bind (fun (out_3451, out_3452, out_3453) =>
  some ((Merged.mk (Table.mk t_3167.Name t_3167.Attrs out_3451) out_3452 out_3453), 0)))
  else none)
  else none
  else
  some ((Merged.mk (Table.mk [] [] []) [] []), 1)
  else
  some ((Merged.mk (Table.mk [] [] []) [] []), 1)
noncomputable def drossref03_Strings_l1 (a_3480 : List (List UInt8)) (b_3481 : List (List UInt8)) : Int → Option (LS (Int) ((Unit) ⊕ (Bool))) := fun i_3489 =>
  if i_3489 < (a_3480.length : Int) then
  (idx a_3480 i_3489).bind fun (x_3497 : List UInt8) =>
  (idx b_3481 i_3489).bind fun (x_3499 : List UInt8) =>
  if (x_3497 == x_3499) = true then
  some (.next (IntKind.i64.wrap (i_3489 + 1)))
  else
  some (.done (.inr false))
  else
  some (.done (.inl ()))
noncomputable def drossref03_Strings (a_3480 : List (List UInt8)) (b_3481 : List (List UInt8)) : Option (Bool) :=
  if ((a_3480.length : Int) != (b_3481.length : Int)) = true then
  some false
  else
  (LoopF (drossref03_Strings_l1 a_3480 b_3481) 0).bind (fun o => match o with
  | .inl () =>
  some true
  | .inr r_3504 =>
  some r_3504)
noncomputable def drossref01_Lists_l1 (a_3508 : List Value) (b_3509 : List Value) : Int → Option (LS (Int) ((Unit) ⊕ (Int))) := fun i_3519 =>
  if i_3519 < (a_3508.length : Int) then
  if i_3519 < (b_3509.length : Int) then
  (idx a_3508 i_3519).bind fun (x_3531 : Value) =>
  (idx b_3509 i_3519).bind fun (x_3533 : Value) =>
  (drossref01_Compare x_3531 x_3533).bind fun (r_3535 : Int) =>
  if (r_3535 != 0) = true then
  some (.done (.inr r_3535))
  else
  some (.next (IntKind.i64.wrap (i_3519 + 1)))
  else
  some (.done (.inl ()))
  else
  some (.done (.inl ()))
noncomputable def drossref01_Lists (a_3508 : List Value) (b_3509 : List Value) : Option (Int) :=
  (LoopF (drossref01_Lists_l1 a_3508 b_3509) 0).bind (fun o => match o with
  | .inl () =>
  (drossref01_sign (a_3508.length : Int) (b_3509.length : Int)).bind fun (r_3540 : Int) =>
  some r_3540
  | .inr r_3542 =>
  some r_3542)
noncomputable def drossref01_Same (a_3546 : List Value) (b_3547 : List Value) : Option (Bool) :=
  (drossref01_Lists a_3546 b_3547).bind fun (r_3548 : Int) =>
  some (r_3548 == 0)
noncomputable def drossref03_EqualRows (a_3551 : Row) (b_3552 : Row) : Option (Bool) :=
  if (a_3551.ID == b_3552.ID) = true then
  (drossref01_Same a_3551.Values b_3552.Values).bind fun (r_3554 : Bool) =>
  some r_3554
  else
  some false
noncomputable def drossref03_Equal_l1 (a_3557 : Table) (b_3558 : Table) : Int → Option (LS (Int) ((Unit) ⊕ (Bool))) := fun i_3572 =>
  if i_3572 < (a_3557.Rows.length : Int) then
  (idx a_3557.Rows i_3572).bind fun (x_3582 : Row) =>
  (idx b_3558.Rows i_3572).bind fun (x_3584 : Row) =>
  (drossref03_EqualRows x_3582 x_3584).bind fun (r_3586 : Bool) =>
  if r_3586 = true then
  some (.next (IntKind.i64.wrap (i_3572 + 1)))
  else
  some (.done (.inr false))
  else
  some (.done (.inl ()))
noncomputable def drossref03_Equal (a_3557 : Table) (b_3558 : Table) : Option (Bool) :=
  if (a_3557.Name == b_3558.Name) = true then
  (drossref03_Strings a_3557.Attrs b_3558.Attrs).bind fun (r_3560 : Bool) =>
  if r_3560 = true then
  if ((a_3557.Rows.length : Int) != (b_3558.Rows.length : Int)) = true then
  some false
  else
  (LoopF (drossref03_Equal_l1 a_3557 b_3558) 0).bind (fun o => match o with
  | .inl () =>
  some true
  | .inr r_3591 =>
  some r_3591)
  else
  some false
  else
  some false
noncomputable def slices_Equal_string_l1 (s1_3727 : List (List UInt8)) (s2_3728 : List (List UInt8)) : Int → Option (LS (Int) ((Unit) ⊕ (Bool))) := fun t13_3737 =>
  if t13_3737 < (s1_3727.length : Int) then
  (idx s1_3727 t13_3737).bind fun (x_3747 : List UInt8) =>
  (idx s2_3728 t13_3737).bind fun (x_3749 : List UInt8) =>
  if (x_3747 == x_3749) = true then
  some (.next (IntKind.i64.wrap (t13_3737 + 1)))
  else
  some (.done (.inr false))
  else
  some (.done (.inl ()))
noncomputable def slices_Equal_string (s1_3727 : List (List UInt8)) (s2_3728 : List (List UInt8)) : Option (Bool) :=
  if ((s1_3727.length : Int) != (s2_3728.length : Int)) = true then
  some false
  else
  (LoopF (slices_Equal_string_l1 s1_3727 s2_3728) 0).bind (fun o => match o with
  | .inl () =>
  some true
  | .inr r_3754 =>
  some r_3754)
noncomputable def slices_IndexFunc_int64_l1 (s_3971 : List Int) (f_3972 : Int → Option (Bool)) : Int → Option (LS (Int) ((Unit) ⊕ (Int))) := fun t8_3982 =>
  if t8_3982 < (s_3971.length : Int) then
  (idx s_3971 t8_3982).bind fun (x_3992 : Int) =>
  (f_3972 x_3992).bind fun (r_3994 : Bool) =>
  if r_3994 = true then
  some (.done (.inr t8_3982))
  else
  some (.next (IntKind.i64.wrap (t8_3982 + 1)))
  else
  some (.done (.inl ()))
noncomputable def slices_IndexFunc_int64 (s_3971 : List Int) (f_3972 : Int → Option (Bool)) : Option (Int) :=
  (LoopF (slices_IndexFunc_int64_l1 s_3971 f_3972) 0).bind (fun o => match o with
  | .inl () =>
  some (-1)
  | .inr r_3999 =>
  some r_3999)
noncomputable def slices_ContainsFunc_int64 (s_4003 : List Int) (f_4004 : Int → Option (Bool)) : Option (Bool) :=
  (slices_IndexFunc_int64 s_4003 f_4004).bind fun (r_4007 : Int) =>
  some (decide (r_4007 ≥ 0))
noncomputable def survivor_wellFormed_1 (id_4010 : Int) (c_4011 : Merged) (c_4012 : Int) : Option (Bool) :=
  (idx c_4011.Clusters c_4012).bind fun (x_4013 : List Int) =>
  (slices_Contains_int64 x_4013 id_4010).bind fun (r_4015 : Bool) =>
  some (!r_4015)
noncomputable def survivor_wellFormed_l1 (m_4018 : Merged) : Int → Option (LS (Int) ((Unit) ⊕ (Bool))) := fun t43_4047 =>
  if t43_4047 < (m_4018.Table.Rows.length : Int) then
  (idx m_4018.Table.Rows t43_4047).bind fun (x_4072 : Row) =>
  (idx m_4018.Clusters t43_4047).bind fun (x_4074 : List Int) =>
  (x_4074[0]?).bind fun (x_4076 : Int) =>
  if (x_4072.ID != x_4076) = true then
  some (.done (.inr false))
  else
  (idx m_4018.Origins t43_4047).bind fun (x_4081 : List Int) =>
  if ((x_4081.length : Int) != (m_4018.Table.Attrs.length : Int)) = true then
  some (.done (.inr false))
  else
  (slices_ContainsFunc_int64 x_4081 (fun (y_4084 : Int) => survivor_wellFormed_1 y_4084 m_4018 t43_4047)).bind fun (r_4085 : Bool) =>
  if r_4085 = true then
  some (.done (.inr false))
  else
  some (.next (IntKind.i64.wrap (t43_4047 + 1)))
  else
  some (.done (.inl ()))
noncomputable def survivor_wellFormed (m_4018 : Merged) : Option (Bool) :=
  (table_Valid m_4018.Table).bind fun (r_4019 : Int) =>
  if (r_4019 != 0) = true then
  some false
  else
  if ((m_4018.Clusters.length : Int) != (m_4018.Table.Rows.length : Int)) = true then
  some false
  else
  if ((m_4018.Origins.length : Int) != (m_4018.Table.Rows.length : Int)) = true then
  some false
  else
  (survivor_disjoint m_4018.Clusters).bind fun (r_4024 : (List (Int × Bool)) × Bool) =>
  if r_4024.2 = true then
  (LoopF (survivor_wellFormed_l1 m_4018) 0).bind (fun o => match o with
  | .inl () =>
  some true
  | .inr r_4090 =>
  some r_4090)
  else
  some false
noncomputable def table_Find_1 (r_4094 : Row) (c_4095 : Int) : Option (Bool) :=
  some (r_4094.ID == c_4095)
noncomputable def table_Find (t_4097 : Table) (id_4098 : Int) : Option (Int × Bool) :=
  (slices_IndexFunc_Row t_4097.Rows (fun (y_4102 : Row) => table_Find_1 y_4102 id_4098)).bind fun (r_4103 : Int) =>
  some ((if 0 > r_4103 then 0 else r_4103), (decide (r_4103 ≥ 0)))
noncomputable def survivor_merges_l3 (t_4106 : Table) (m_4107 : Merged) (t42_4199 : Int) (x_4285 : Row) : Int → Option (LS (Int) ((Unit) ⊕ (Bool))) := fun t50_4310 =>
  if t50_4310 < (x_4285.Values.length : Int) then
  (idx x_4285.Values t50_4310).bind fun (x_4338 : Value) =>
  (idx m_4107.Origins t42_4199).bind fun (x_4346 : List Int) =>
  (idx x_4346 t50_4310).bind fun (x_4348 : Int) =>
  (table_Find t_4106 x_4348).bind fun (r_4350 : Int × Bool) =>
  (idx t_4106.Rows r_4350.1).bind fun (x_4352 : Row) =>
  (idx x_4352.Values t50_4310).bind fun (x_4354 : Value) =>
  if ((x_4354.Kind == x_4338.Kind) && ((x_4354.Num == x_4338.Num) && (x_4354.Str == x_4338.Str))) = true then
  some (.next (IntKind.i64.wrap (t50_4310 + 1)))
  else
  some (.done (.inr false))
  else
  some (.done (.inl ()))
noncomputable def survivor_merges_l4 (t_4106 : Table) (m_4107 : Merged) : Int → Option (LS (Int) ((Unit) ⊕ (Bool))) := fun t42_4199 =>
  if t42_4199 < (m_4107.Table.Rows.length : Int) then
  (idx m_4107.Table.Rows t42_4199).bind fun (x_4285 : Row) =>
  (LoopF (survivor_merges_l3 t_4106 m_4107 t42_4199 x_4285) 0).bind (fun o => match o with
  | .inl () =>
  some (.next (IntKind.i64.wrap (t42_4199 + 1)))
  | .inr r_4359 =>
  some (.done (.inr r_4359)))
  else
  some (.done (.inl ()))
noncomputable def survivor_merges (t_4106 : Table) (m_4107 : Merged) : Option (Bool) :=
  (survivor_wellFormed m_4107).bind fun (r_4108 : Bool) =>
  if r_4108 = true then
  if (t_4106.Name == m_4107.Table.Name) = true then
  (slices_Equal_string t_4106.Attrs m_4107.Table.Attrs).bind fun (r_4112 : Bool) =>
  if r_4112 = true then
  (survivor_divides t_4106 m_4107.Clusters).bind fun (r_4115 : Bool) =>
  if r_4115 = true then
  (LoopF (survivor_merges_l4 t_4106 m_4107) 0).bind (fun o => match o with
  | .inl () =>
  some true
  | .inr r_4364 =>
  some r_4364)
  else
  some false
  else
  some false
  else
  some false
  else
  some false
noncomputable def survivor_ids_l1 (t_4368 : Table) : (List Int × Int) → Option (LS (List Int × Int) (List Int)) := fun (out_4376, t9_4377) =>
  if t9_4377 < (t_4368.Rows.length : Int) then
  (idx t_4368.Rows t9_4377).bind fun (x_4390 : Row) =>
  if roomB (out_4376.length + 1) 8 = true then
  some (.next ((out_4376 ++ [x_4390.ID]), (IntKind.i64.wrap (t9_4377 + 1))))
  else none
  else
  some (.done out_4376)
noncomputable def survivor_ids (t_4368 : Table) : Option (List Int) :=
  (LoopF (survivor_ids_l1 t_4368) ([], 0)).bind (fun out_4385 =>
  some out_4385)
noncomputable def survivor_Compose_l5 (a_4487 : Merged) (x_4741 : List Int) : (List Int × Int) → Option (LS (List Int × Int) (List Int)) := fun (cluster_4756, t49_4757) =>
  if t49_4757 < (x_4741.length : Int) then
  (idx x_4741 t49_4757).bind fun (x_4776 : Int) =>
  (table_Find a_4487.Table x_4776).bind fun (r_4780 : Int × Bool) =>
  (idx a_4487.Clusters r_4780.1).bind fun (x_4782 : List Int) =>
  if roomB (cluster_4756.length + x_4782.length) 8 = true then
  some (.next ((cluster_4756 ++ x_4782), (IntKind.i64.wrap (t49_4757 + 1))))
  else none
  else
  some (.done cluster_4756)
noncomputable def survivor_Compose_l6 (a_4487 : Merged) (x_4795 : List Int) : (List Int × Int) → Option (LS (List Int × Int) (List Int)) := fun (origins_4812, t76_4813) =>
  if t76_4813 < (x_4795.length : Int) then
  (idx x_4795 t76_4813).bind fun (x_4834 : Int) =>
  (table_Find a_4487.Table x_4834).bind fun (r_4838 : Int × Bool) =>
  (idx a_4487.Origins r_4838.1).bind fun (x_4840 : List Int) =>
  (idx x_4840 t76_4813).bind fun (x_4842 : Int) =>
  if roomB (origins_4812.length + 1) 8 = true then
  some (.next ((origins_4812 ++ [x_4842]), (IntKind.i64.wrap (t76_4813 + 1))))
  else none
  else
  some (.done origins_4812)
noncomputable def survivor_Compose_l7 (a_4487 : Merged) (b_4488 : Merged) : (List (List Int) × List (List Int) × Int) → Option (LS (List (List Int) × List (List Int) × Int) (List (List Int) × List (List Int))) := fun (out_4617, out_4618, t40_4619) =>
  if t40_4619 < (b_4488.Table.Rows.length : Int) then
  (idx b_4488.Clusters t40_4619).bind fun (x_4741 : List Int) =>
  (LoopF (survivor_Compose_l5 a_4487 x_4741) ([], 0)).bind (fun cluster_4771 =>
  (srtIF cluster_4771).bind fun (l_4790 : List Int) =>
  (idx b_4488.Origins t40_4619).bind fun (x_4795 : List Int) =>
  (LoopF (survivor_Compose_l6 a_4487 x_4795) ([], 0)).bind (fun origins_4829 =>
  if roomB (out_4617.length + 1) 24 = true then
  if roomB (out_4618.length + 1) 24 = true then
  some (.next ((out_4617 ++ [l_4790]), (out_4618 ++ [origins_4829]), (IntKind.i64.wrap (t40_4619 + 1))))
  else none
  else none))
  else
  some (.done (out_4617, out_4618))
noncomputable def survivor_Compose (a_4487 : Merged) (b_4488 : Merged) : Option (Merged × Int) :=
  (survivor_wellFormed a_4487).bind fun (r_4489 : Bool) =>
  if r_4489 = true then
  (survivor_merges a_4487.Table b_4488).bind fun (r_4492 : Bool) =>
  if r_4492 = true then
  (survivor_ids b_4488.Table).bind fun (r_4499 : List Int) =>
  (table_Keep b_4488.Table r_4499).bind fun (r_4501 : Table) =>
  (LoopF (survivor_Compose_l7 a_4487 b_4488) ([], [], 0)).bind (fun (out_4735, out_4736) =>
  some ((Merged.mk r_4501 out_4735 out_4736), 0))
  else
  some ((Merged.mk (Table.mk [] [] []) [] []), 1)
  else
  some ((Merged.mk (Table.mk [] [] []) [] []), 1)
noncomputable def drossref55_WellFormed_l3 (m_4856 : Merged) (i_4914 : Int) : Int → Option (LS (Int) ((Unit) ⊕ (Bool))) := fun k_4987 =>
  (idx m_4856.Origins i_4914).bind fun (x_4998 : List Int) =>
  if k_4987 < (x_4998.length : Int) then
  (idx m_4856.Clusters i_4914).bind fun (x_5001 : List Int) =>
  (idx x_4998 k_4987).bind fun (x_5003 : Int) =>
  (drossref03_Has x_5001 x_5003).bind fun (r_5005 : Bool) =>
  if r_5005 = true then
  some (.next (IntKind.i64.wrap (k_4987 + 1)))
  else
  some (.done (.inr false))
  else
  some (.done (.inl ()))
noncomputable def drossref55_WellFormed_l4 (m_4856 : Merged) : Int → Option (LS (Int) ((Unit) ⊕ (Bool))) := fun i_4914 =>
  if i_4914 < (m_4856.Clusters.length : Int) then
  (idx m_4856.Table.Rows i_4914).bind fun (x_4965 : Row) =>
  (idx m_4856.Clusters i_4914).bind fun (x_4967 : List Int) =>
  (x_4967[0]?).bind fun (x_4969 : Int) =>
  if (x_4965.ID != x_4969) = true then
  some (.done (.inr false))
  else
  (idx m_4856.Origins i_4914).bind fun (x_4974 : List Int) =>
  if ((x_4974.length : Int) != (m_4856.Table.Attrs.length : Int)) = true then
  some (.done (.inr false))
  else
  (LoopF (drossref55_WellFormed_l3 m_4856 i_4914) 0).bind (fun o => match o with
  | .inl () =>
  some (.next (IntKind.i64.wrap (i_4914 + 1)))
  | .inr r_5010 =>
  some (.done (.inr r_5010)))
  else
  some (.done (.inl ()))
noncomputable def drossref55_WellFormed (m_4856 : Merged) : Option (Bool) :=
  (drossref03_Valid m_4856.Table).bind fun (r_4857 : Int) =>
  if (r_4857 != 0) = true then
  some false
  else
  if ((m_4856.Clusters.length : Int) != (m_4856.Table.Rows.length : Int)) = true then
  some false
  else
  if ((m_4856.Origins.length : Int) != (m_4856.Table.Rows.length : Int)) = true then
  some false
  else
  (drossref55_once m_4856.Clusters).bind fun (r_4862 : Bool) =>
  if r_4862 = true then
  (LoopF (drossref55_WellFormed_l4 m_4856) 0).bind (fun o => match o with
  | .inl () =>
  some true
  | .inr r_5015 =>
  some r_5015)
  else
  some false
noncomputable def drossref55_Merging_l3 (t_5019 : Table) (m_5020 : Merged) (i_5104 : Int) : Int → Option (LS (Int) ((Unit) ⊕ (Bool))) := fun k_5201 =>
  (idx m_5020.Origins i_5104).bind fun (x_5224 : List Int) =>
  if k_5201 < (x_5224.length : Int) then
  (idx x_5224 k_5201).bind fun (x_5231 : Int) =>
  (drossref03_Find t_5019 x_5231).bind fun (r_5233 : Int × Bool) =>
  (idx t_5019.Rows r_5233.1).bind fun (x_5235 : Row) =>
  (idx x_5235.Values k_5201).bind fun (x_5237 : Value) =>
  (idx m_5020.Table.Rows i_5104).bind fun (x_5239 : Row) =>
  (idx x_5239.Values k_5201).bind fun (x_5241 : Value) =>
  (drossref01_Compare x_5237 x_5241).bind fun (r_5243 : Int) =>
  if (r_5243 != 0) = true then
  some (.done (.inr false))
  else
  some (.next (IntKind.i64.wrap (k_5201 + 1)))
  else
  some (.done (.inl ()))
noncomputable def drossref55_Merging_l4 (t_5019 : Table) (m_5020 : Merged) : Int → Option (LS (Int) ((Unit) ⊕ (Bool))) := fun i_5104 =>
  if i_5104 < (m_5020.Origins.length : Int) then
  (LoopF (drossref55_Merging_l3 t_5019 m_5020 i_5104) 0).bind (fun o => match o with
  | .inl () =>
  some (.next (IntKind.i64.wrap (i_5104 + 1)))
  | .inr r_5248 =>
  some (.done (.inr r_5248)))
  else
  some (.done (.inl ()))
noncomputable def drossref55_Merging (t_5019 : Table) (m_5020 : Merged) : Option (Bool) :=
  (drossref55_WellFormed m_5020).bind fun (r_5021 : Bool) =>
  if r_5021 = true then
  if (m_5020.Table.Name == t_5019.Name) = true then
  (drossref03_Strings m_5020.Table.Attrs t_5019.Attrs).bind fun (r_5025 : Bool) =>
  if r_5025 = true then
  (drossref55_Of t_5019 m_5020.Clusters).bind fun (r_5028 : Bool) =>
  if r_5028 = true then
  (LoopF (drossref55_Merging_l4 t_5019 m_5020) 0).bind (fun o => match o with
  | .inl () =>
  some true
  | .inr r_5253 =>
  some r_5253)
  else
  some false
  else
  some false
  else
  some false
  else
  some false
noncomputable def drossref55_Compose_l15 (a_5257 : Merged) (b_5258 : Merged) (i_5516 : Int) : (List Int × Int) → Option (LS (List Int × Int) (List Int)) := fun (l_5780, k_5781) =>
  (idx b_5258.Clusters i_5516).bind fun (x_5797 : List Int) =>
  if k_5781 < (x_5797.length : Int) then
  (idx x_5797 k_5781).bind fun (x_5804 : Int) =>
  (drossref03_Find a_5257.Table x_5804).bind fun (r_5806 : Int × Bool) =>
  (idx a_5257.Clusters r_5806.1).bind fun (x_5808 : List Int) =>
  if roomB (l_5780.length + x_5808.length) 8 = true then
  some (.next ((l_5780 ++ x_5808), (IntKind.i64.wrap (k_5781 + 1))))
  else none
  else
  some (.done l_5780)
noncomputable def drossref55_Compose_l19 : (List Int × Int) → Option (LS (List Int × Int) (List Int)) := fun (l_5920, k_5921) =>
  if k_5921 > 0 then
  (idx l_5920 k_5921).bind fun (x_5938 : Int) =>
  (idx l_5920 (IntKind.i64.wrap (k_5921 - 1))).bind fun (x_5942 : Int) =>
  if x_5938 < x_5942 then
  (idx (l_5920.set k_5921.toNat x_5942) (IntKind.i64.wrap (k_5921 - 1))).bind fun (x_5945 : Int) =>
  some (.next (((l_5920.set k_5921.toNat x_5942).set (IntKind.i64.wrap (k_5921 - 1)).toNat x_5938), (IntKind.i64.wrap (k_5921 - 1))))
  else
  some (.done l_5920)
  else
  some (.done l_5920)
noncomputable def drossref55_Compose_l20 : (List Int × Int) → Option (LS (List Int × Int) (List Int)) := fun (l_5861, x_5862) =>
  if x_5862 < ((l_5861.length : Nat) : Int) then
  (LoopF drossref55_Compose_l19 (l_5861, x_5862)).bind (fun l_5934 =>
  some (.next (l_5934, (IntKind.i64.wrap (x_5862 + 1)))))
  else
  some (.done l_5861)
noncomputable def drossref55_Compose_l21 (a_5257 : Merged) (b_5258 : Merged) (i_5516 : Int) : (List Int × Int) → Option (LS (List Int × Int) (List Int)) := fun (o_5968, k_5969) =>
  (idx b_5258.Origins i_5516).bind fun (x_5987 : List Int) =>
  if k_5969 < (x_5987.length : Int) then
  (idx x_5987 k_5969).bind fun (x_5994 : Int) =>
  (drossref03_Find a_5257.Table x_5994).bind fun (r_5996 : Int × Bool) =>
  (idx a_5257.Origins r_5996.1).bind fun (x_5998 : List Int) =>
  (idx x_5998 k_5969).bind fun (x_6000 : Int) =>
  if roomB (o_5968.length + 1) 8 = true then
  some (.next ((o_5968 ++ [x_6000]), (IntKind.i64.wrap (k_5969 + 1))))
  else none
  else
  some (.done o_5968)
noncomputable def drossref55_Compose_l22 (a_5257 : Merged) (b_5258 : Merged) : (List (List Int) × List (List Int) × Int) → Option (LS (List (List Int) × List (List Int) × Int) (List (List Int) × List (List Int))) := fun (out_5514, out_5515, i_5516) =>
  if i_5516 < (b_5258.Clusters.length : Int) then
  (LoopF (drossref55_Compose_l15 a_5257 b_5258 i_5516) ([], 0)).bind (fun l_5796 =>
  (LoopF drossref55_Compose_l20 (l_5796, 0)).bind (fun l_5906 =>
  (LoopF (drossref55_Compose_l21 a_5257 b_5258 i_5516) ([], 0)).bind (fun o_5986 =>
  if roomB (out_5514.length + 1) 24 = true then
  if roomB (out_5515.length + 1) 24 = true then
  some (.next ((out_5514 ++ [l_5906]), (out_5515 ++ [o_5986]), (IntKind.i64.wrap (i_5516 + 1))))
  else none
  else none)))
  else
  some (.done (out_5514, out_5515))
noncomputable def drossref55_Compose (a_5257 : Merged) (b_5258 : Merged) : Option (Merged × Int) :=
  (drossref55_WellFormed a_5257).bind fun (r_5259 : Bool) =>
  if r_5259 = true then
  (drossref55_Merging a_5257.Table b_5258).bind fun (r_5262 : Bool) =>
  if r_5262 = true then
  (drossref03_With b_5258.Table b_5258.Table.Rows).bind fun (r_5267 : Table) =>
  (LoopF (drossref55_Compose_l22 a_5257 b_5258) ([], [], 0)).bind (fun (out_5763, out_5764) =>
  some ((Merged.mk r_5267 out_5763 out_5764), 0))
  else
  some ((Merged.mk (Table.mk [] [] []) [] []), 1)
  else
  some ((Merged.mk (Table.mk [] [] []) [] []), 1)
noncomputable def drossref01_Of (code_6052 : Int) : Option (Value) :=
  if ((Int.tmod code_6052 12) == 0) = true then
  some (Value.mk 1 0 [])
  else
  if ((Int.tmod code_6052 12) == 1) = true then
  some (Value.mk 1 1 [])
  else
  if ((Int.tmod code_6052 12) == 2) = true then
  some (Value.mk 1 2 [])
  else
  if ((Int.tmod code_6052 12) == 3) = true then
  some (Value.mk 0 0 [])
  else
  if ((Int.tmod code_6052 12) == 4) = true then
  some (Value.mk 2 0 [97])
  else
  if ((Int.tmod code_6052 12) == 5) = true then
  some (Value.mk 2 0 [98])
  else
  if ((Int.tmod code_6052 12) == 6) = true then
  some (Value.mk 2 0 [])
  else
  if ((Int.tmod code_6052 12) == 7) = true then
  some (Value.mk 3 1 [])
  else
  if ((Int.tmod code_6052 12) == 8) = true then
  some (Value.mk 1 (-1) [])
  else
  if ((Int.tmod code_6052 12) == 9) = true then
  some (Value.mk 2 0 [97, 98])
  else
  if ((Int.tmod code_6052 12) == 10) = true then
  some (Value.mk 3 2 [])
  else
  some (Value.mk 1 7 [])
noncomputable def drossref03_Wide_l3 (x_6065 : Drossref03_Recipe) (n_6066 : Int) (i_6128 : Int) : (List Value × Int) → Option (LS (List Value × Int) (List Value)) := fun (r_6195, k_6196) =>
  if k_6196 < n_6066 then
  (idx x_6065.Rows i_6128).bind fun (x_6215 : List Int) =>
  if k_6196 < (x_6215.length : Int) then
  (idx x_6215 k_6196).bind fun (x_6218 : Int) =>
  (drossref01_Of x_6218).bind fun (r_6220 : Value) =>
  if roomB (r_6195.length + 1) 32 = true then
  some (.next ((r_6195 ++ [r_6220]), (IntKind.i64.wrap (k_6196 + 1))))
  else none
  else
  (drossref01_Of 0).bind fun (r_6223 : Value) =>
  if roomB (r_6195.length + 1) 32 = true then
  some (.next ((r_6195 ++ [r_6223]), (IntKind.i64.wrap (k_6196 + 1))))
  else none
  else
  some (.done r_6195)
noncomputable def drossref03_Wide_l4 (x_6065 : Drossref03_Recipe) (n_6066 : Int) : (List Row × Int) → Option (LS (List Row × Int) (List Row)) := fun (t_6127, i_6128) =>
  if i_6128 < (x_6065.Rows.length : Int) then
  (LoopF (drossref03_Wide_l3 x_6065 n_6066 i_6128) ([], 0)).bind (fun r_6211 =>
  if roomB (t_6127.length + 1) 32 = true then
  some (.next ((t_6127 ++ [(Row.mk (IntKind.i64.wrap (1 + (IntKind.i64.wrap (i_6128 * (IntKind.i64.wrap (1 + (IntKind.i64.wrap (Int.tmod x_6065.Gap 3)))))))) r_6211)]), (IntKind.i64.wrap (i_6128 + 1))))
  else none)
  else
  some (.done t_6127)
noncomputable def drossref03_Wide (x_6065 : Drossref03_Recipe) (n_6066 : Int) : Option (Table) :=
  if (0 : Int) ≤ n_6066 then
  if n_6066 ≤ 8 then
  (some ([[97], [98], [99], [100], [101], [102], [103], [104]] : List (List UInt8))).bind fun (l_6074 : List (List UInt8)) =>
  if roomB ((l_6074.take n_6066.toNat).length) 16 = true then
  (LoopF (drossref03_Wide_l4 x_6065 n_6066) ([], 0)).bind (fun t_6179 =>
  some (Table.mk [114] (l_6074.take n_6066.toNat) t_6179))
  else none
  else none
  else none
noncomputable def drossref03_Table (x_6234 : Drossref03_Recipe) (most_6235 : Int) : Option (Table × Bool) :=
  if (x_6234.Rows.length : Int) > most_6235 then
  some ((Table.mk [] [] []), false)
  else
  (drossref03_Wide x_6234 (IntKind.i64.wrap (Int.tmod x_6234.Attrs 6))).bind fun (r_6237 : Table) =>
  some (r_6237, true)
noncomputable def drossref55_List_l1 (t_6240 : Table) (p_6241 : Drossref55_Plan) : (List Int × Int) → Option (LS (List Int × Int) (List Int)) := fun (out_6248, i_6249) =>
  if i_6249 < (t_6240.Attrs.length : Int) then
  if i_6249 < (p_6241.Rules.length : Int) then
  (idx p_6241.Rules i_6249).bind fun (x_6259 : Int) =>
  if roomB (out_6248.length + 1) 8 = true then
  some (.next ((out_6248 ++ [(IntKind.i64.wrap (1 + (IntKind.i64.wrap (Int.tmod x_6259 5))))]), (IntKind.i64.wrap (i_6249 + 1))))
  else none
  else
  if roomB (out_6248.length + 1) 8 = true then
  some (.next ((out_6248 ++ [1]), (IntKind.i64.wrap (i_6249 + 1))))
  else none
  else
  some (.done out_6248)
noncomputable def drossref55_List (t_6240 : Table) (p_6241 : Drossref55_Plan) : Option (List Int) :=
  (LoopF (drossref55_List_l1 t_6240 p_6241) ([], 0)).bind (fun out_6256 =>
  some out_6256)
noncomputable def drossref55_label (p_6267 : Drossref55_Plan) (i_6268 : Int) : Option (Int) :=
  if i_6268 < (p_6267.Labels.length : Int) then
  (idx p_6267.Labels i_6268).bind fun (x_6270 : Int) =>
  some (Int.tmod x_6270 4)
  else
  some 0
noncomputable def drossref55_Clusters_l3 (t_6273 : Table) (p_6274 : Drossref55_Plan) (n_6311 : Int) : (List Int × Int) → Option (LS (List Int × Int) (List Int)) := fun (l_6359, i_6360) =>
  if i_6360 < (t_6273.Rows.length : Int) then
  (drossref55_label p_6274 i_6360).bind fun (r_6374 : Int) =>
  if (r_6374 == n_6311) = true then
  (idx t_6273.Rows i_6360).bind fun (x_6377 : Row) =>
  if roomB (l_6359.length + 1) 8 = true then
  some (.next ((l_6359 ++ [x_6377.ID]), (IntKind.i64.wrap (i_6360 + 1))))
  else none
  else
  some (.next (l_6359, (IntKind.i64.wrap (i_6360 + 1))))
  else
  some (.done l_6359)
noncomputable def drossref55_Clusters_l4 (t_6273 : Table) (p_6274 : Drossref55_Plan) : (List (List Int) × Int) → Option (LS (List (List Int) × Int) (List (List Int))) := fun (out_6310, n_6311) =>
  if n_6311 < 4 then
  (LoopF (drossref55_Clusters_l3 t_6273 p_6274 n_6311) ([], 0)).bind (fun l_6370 =>
  if ((l_6370.length : Nat) : Int) > 0 then
  if roomB (out_6310.length + 1) 24 = true then
  some (.next ((out_6310 ++ [l_6370]), (IntKind.u8.wrap (n_6311 + 1))))
  else none
  else
  some (.next (out_6310, (IntKind.u8.wrap (n_6311 + 1)))))
  else
  some (.done out_6310)
noncomputable def drossref55_Clusters (t_6273 : Table) (p_6274 : Drossref55_Plan) : Option (List (List Int)) :=
  (LoopF (drossref55_Clusters_l4 t_6273 p_6274) ([], 0)).bind (fun out_6348 =>
  some out_6348)
noncomputable def drosslaw55_SurvivorSteps (x_6869 : Drossref03_Recipe) (p_6870 : Drossref55_Plan) (q_6871 : Drossref55_Plan) : Option (Bool) :=
  (drossref03_Table x_6869 8).bind fun (r_6874 : Table × Bool) =>
  (show Option (Bool) from
  (drosslaw55_awake ).bind fun (r_6882 : Bool) =>
  if r_6882 = true then
  some (!r_6874.2)
  else
  some true).bind (fun t25_6879 =>
  if t25_6879 = true then
  (drosslaw55_awake ).bind fun (r_6886 : Bool) =>
  some r_6886
  else
  (drossref55_Clusters r_6874.1 p_6870).bind fun (r_6894 : List (List Int)) =>
  (drossref55_List r_6874.1 p_6870).bind fun (r_6896 : List Int) =>
  (survivor_Table r_6874.1 r_6894 r_6896).bind fun (r_6898 : Merged × Int) =>
  (drossref55_Clusters r_6898.1.Table q_6871).bind fun (r_6906 : List (List Int)) =>
  (drossref55_List r_6874.1 q_6871).bind fun (r_6908 : List Int) =>
  (survivor_Table r_6898.1.Table r_6906 r_6908).bind fun (r_6910 : Merged × Int) =>
  (survivor_Compose r_6898.1 r_6910.1).bind fun (r_6914 : Merged × Int) =>
  if (r_6898.2 == 0) = true then
  if (r_6910.2 == 0) = true then
  if (r_6914.2 == 0) = true then
  (drossref55_Merging r_6874.1 r_6914.1).bind fun (r_6919 : Bool) =>
  if r_6919 = true then
  (drossref03_Equal r_6914.1.Table r_6910.1.Table).bind fun (r_6922 : Bool) =>
  some r_6922
  else
  some false
  else
  some false
  else
  some false
  else
  some false)
end Go.Proofs.YtdmddoljldjjeaaGreat
/- Loops over lists, in plain Lean. -/
set_option linter.unusedVariables false
set_option linter.unusedSimpArgs false
namespace Go.Ab
open Go

/-- a loop over a list: f says how to go on or how it ends -/
def foldR {α β τ : Type} (f : β → α → β ⊕ τ) (fin : β → τ) : List α → β → τ
  | [], b => fin b
  | x :: r, b => match f b x with
    | .inl b' => foldR f fin r b'
    | .inr t => t

theorem LoopF_foldR {α β σ τ : Type} (l : List α) (S : β → Int → σ) (B : σ → Option (LS σ τ)) (f : β → α → β ⊕ τ) (fin : β → τ) (I : Nat → β → Prop)
    (hs : ∀ (k : Nat) b x, l[k]? = some x → I k b → (∀ b', f b x = .inl b' → B (S b k) = some (.next (S b' (k + 1 : Nat))) ∧ I (k + 1) b') ∧ (∀ t, f b x = .inr t → B (S b k) = some (.done t)))
    (he : ∀ b, I l.length b → B (S b l.length) = some (.done (fin b))) :
    ∀ (r : List α) (k : Nat) (b : β), l.drop k = r → k ≤ l.length → I k b → LoopF B (S b k) = some (foldR f fin r b) := by
  intro r
  induction r with
  | nil =>
    intro k b hd hk hI
    have : k = l.length := by
      have := congrArg List.length hd
      simp at this; omega
    subst this
    exact Loop_done (he b hI)
  | cons x r ih =>
    intro k b hd hk hI
    have hx : l[k]? = some x := by
      have := congrArg (·[0]?) hd
      simpa [List.getElem?_drop] using this
    have hlt : k < l.length := (List.getElem?_eq_some_iff.1 hx).1
    have hd' : l.drop (k + 1) = r := by
      rw [← List.drop_drop, hd]; rfl
    obtain ⟨h1, h2⟩ := hs k b x hx hI
    cases hf : f b x with
    | inl b' =>
      obtain ⟨h3, h4⟩ := h1 b' hf
      rw [Loop_next h3, ih (k + 1) b' hd' hlt h4]
      simp [foldR, hf]
    | inr t =>
      rw [Loop_done (h2 t hf)]
      simp [foldR, hf]

theorem LoopF_list {α β σ τ : Type} (l : List α) (S : β → Int → σ) (B : σ → Option (LS σ τ)) (f : β → α → β ⊕ τ) (fin : β → τ) (I : Nat → β → Prop) {b0 : β} {s0 : σ} (h0 : s0 = S b0 0) (hI : I 0 b0)
    (hs : ∀ (k : Nat) b x, l[k]? = some x → k < l.length → I k b → (∀ b', f b x = .inl b' → B (S b k) = some (.next (S b' (k + 1 : Nat))) ∧ I (k + 1) b') ∧ (∀ t, f b x = .inr t → B (S b k) = some (.done t)))
    (he : ∀ b, I l.length b → B (S b l.length) = some (.done (fin b))) : LoopF B s0 = some (foldR f fin l b0) := by
  subst h0
  exact LoopF_foldR l S B f fin I (fun k b x hx => hs k b x hx (lt_of_get hx)) he l 0 b0 rfl (Nat.zero_le _) hI

theorem wrap_succ {k n : Nat} (h : k < n) (hn : n ≤ 4611686018427387904) : IntKind.i64.wrap ((k : Int) + 1) = ((k + 1 : Nat) : Int) := by
  rw [wrap_i64 (by omega) (by omega)]; omega
theorem wrap_nat {k : Nat} (h : k < 4611686018427387904) : IntKind.i64.wrap ((k : Int) + 1) = ((k + 1 : Nat) : Int) := by
  rw [wrap_i64 (by omega) (by omega)]; omega
theorem wrap_u8 (c : UInt8) : IntKind.i64.wrap ((c.toNat : Nat) : Int) = ((c.toNat : Nat) : Int) := by
  have := c.toNat_lt
  exact wrap_i64 (by omega) (by omega)
theorem room_le {n b : Nat} (h : n ≤ 1073741824) (hb : b ≤ 65536) : roomB n b = true := by
  unfold roomB
  have : n * b ≤ 1073741824 * 65536 := Nat.mul_le_mul h hb
  simp only [decide_eq_true_eq]
  omega
theorem idx_get {α : Type} {l : List α} {k : Nat} {x : α} (h : l[k]? = some x) : idx l (k : Int) = some x := by rw [idx_nat, h]
theorem lt_true {α : Type} {l : List α} {k : Nat} {x : α} (h : l[k]? = some x) : ((k : Int) < (l.length : Int)) := by have := lt_of_get h; omega

/-! ### kinds of loops -/
theorem foldR_all {α : Type} (p : α → Bool) : ∀ l : List α, foldR (fun (_ : Unit) x => if p x then Sum.inl () else Sum.inr (Sum.inr false)) (fun _ => (Sum.inl () : Unit ⊕ Bool)) l () = if l.all p then .inl () else .inr false
  | [] => rfl
  | x :: r => by
    simp only [foldR, List.all_cons]
    rcases Bool.eq_false_or_eq_true (p x) with h | h <;> simp [h, foldR_all p r]
theorem foldl_of' {α β τ : Type} (g : β → α → β) (fin : β → τ) : ∀ (l : List α) (b : β), foldR (fun b x => (Sum.inl (g b x) : β ⊕ τ)) fin l b = fin (l.foldl g b)
  | [], _ => rfl
  | x :: r, b => by simp only [foldR, List.foldl_cons]; exact foldl_of' g fin r _
end Go.Ab
namespace Go.Ab
open Go
theorem LoopF_all {α ρ : Type} (l : List α) (B : Int → Option (LS Int (Unit ⊕ ρ))) (p : α → Bool) (bad : ρ)
    (h1 : ∀ (k : Nat) x, l[k]? = some x → k < l.length → p x = true → B k = some (.next (k + 1 : Nat))) (h2 : ∀ (k : Nat) x, l[k]? = some x → p x = false → B k = some (.done (.inr bad))) (h3 : B l.length = some (.done (.inl ()))) :
    LoopF B 0 = some (if l.all p then .inl () else .inr bad) := by
  have h := LoopF_list l (fun (_ : Unit) i => i) B (fun (_ : Unit) x => if p x then Sum.inl () else Sum.inr (Sum.inr bad)) (fun _ => Sum.inl ()) (fun _ _ => True) (b0 := ()) (s0 := 0) rfl trivial
    (fun k b x hx hk _ => by
      constructor
      · intro b' hf
        refine ⟨?_, trivial⟩
        rcases Bool.eq_false_or_eq_true (p x) with hp | hp
        · exact h1 k x hx hk hp
        · simp [hp] at hf
      · intro t hf
        rcases Bool.eq_false_or_eq_true (p x) with hp | hp
        · simp [hp] at hf
        · simp [hp] at hf; subst hf; exact h2 k x hx hp)
    (fun b _ => h3)
  rw [h]
  congr 1
  clear h h1 h2 h3
  induction l with
  | nil => rfl
  | cons x r ih => rcases Bool.eq_false_or_eq_true (p x) with hp | hp <;> simp [foldR, hp, ih]
theorem LoopF_find {α : Type} (l : List α) (B : Int → Option (LS Int (Unit ⊕ Int))) (p : α → Bool)
    (h1 : ∀ (k : Nat) x, l[k]? = some x → k < l.length → p x = false → B k = some (.next (k + 1 : Nat))) (h2 : ∀ (k : Nat) x, l[k]? = some x → p x = true → B k = some (.done (.inr k))) (h3 : B l.length = some (.done (.inl ()))) :
    LoopF B 0 = some (match l.findIdx? p with | some i => .inr (i : Int) | none => .inl ()) := by
  have key : ∀ (r : List α) (k : Nat), l.drop k = r → k ≤ l.length → LoopF B (k : Int) = some (match r.findIdx? p with | some i => .inr ((k + i : Nat) : Int) | none => .inl ()) := by
    intro r
    induction r with
    | nil =>
      intro k hd hk
      have : k = l.length := by
        have := congrArg List.length hd
        simp at this; omega
      subst this
      exact Loop_done h3
    | cons x r ih =>
      intro k hd hk
      have hx : l[k]? = some x := by
        have := congrArg (·[0]?) hd
        simpa [List.getElem?_drop] using this
      have hd' : l.drop (k + 1) = r := by rw [← List.drop_drop, hd]; rfl
      rcases Bool.eq_false_or_eq_true (p x) with hp | hp
      · rw [Loop_done (h2 k x hx hp)]
        simp [List.findIdx?_cons, hp]
      · rw [Loop_next (h1 k x hx (lt_of_get hx) hp), ih (k + 1) hd' (lt_of_get hx)]
        simp only [List.findIdx?_cons, hp]
        cases r.findIdx? p with
        | none => rfl
        | some i => simp; omega
  have := key l 0 (by simp) (Nat.zero_le _)
  simpa using this
/-- a loop that goes to the end of a list -/
theorem LoopF_foldl {α β σ τ : Type} (l : List α) (S : β → Int → σ) (B : σ → Option (LS σ τ)) (g : β → α → β) (fin : β → τ) (I : Nat → β → Prop) {b0 : β} {s0 : σ} (h0 : s0 = S b0 0) (hI : I 0 b0)
    (hs : ∀ (k : Nat) b x, l[k]? = some x → k < l.length → I k b → B (S b k) = some (.next (S (g b x) (k + 1 : Nat))) ∧ I (k + 1) (g b x))
    (he : ∀ b, I l.length b → B (S b l.length) = some (.done (fin b))) : LoopF B s0 = some (fin (l.foldl g b0)) := by
  rw [LoopF_list l S B (fun b x => Sum.inl (g b x)) fin I h0 hI (fun k b x hx hk hi => ⟨fun b' hb => by cases hb; exact hs k b x hx hk hi, fun t ht => by cases ht⟩) he, foldl_of']
end Go.Ab
namespace Go.Ab
open Go
/-! ### what is known of the arguments -/
def okI (k : IntKind) (n : Int) : Prop := (Lit.int k n).wf = true
def okS (s : List UInt8) : Prop := s.length ≤ 1048576
def okL {α : Type} (ok : α → Prop) (l : List α) : Prop := l.length ≤ 1048576 ∧ ∀ x ∈ l, ok x
end Go.Ab
namespace Go.Ab
open Go
/-- all elements, with their places -/
def allFrom {α : Type} (p : Nat → α → Bool) : Nat → List α → Bool
  | _, [] => true
  | k, x :: r => p k x && allFrom p (k + 1) r
theorem LoopF_allk {α ρ : Type} (l : List α) (B : Int → Option (LS Int (Unit ⊕ ρ))) (p : Nat → α → Bool) (bad : ρ)
    (h1 : ∀ (k : Nat) x, l[k]? = some x → k < l.length → p k x = true → B k = some (.next (k + 1 : Nat))) (h2 : ∀ (k : Nat) x, l[k]? = some x → p k x = false → B k = some (.done (.inr bad))) (h3 : B l.length = some (.done (.inl ()))) :
    ∀ (r : List α) (k : Nat), l.drop k = r → k ≤ l.length → LoopF B (k : Int) = some (if allFrom p k r then .inl () else .inr bad) := by
  intro r
  induction r with
  | nil =>
    intro k hd hk
    have : k = l.length := by
      have := congrArg List.length hd
      simp at this; omega
    subst this
    exact Loop_done h3
  | cons x r ih =>
    intro k hd hk
    have hx : l[k]? = some x := by
      have := congrArg (·[0]?) hd
      simpa [List.getElem?_drop] using this
    have hd' : l.drop (k + 1) = r := by rw [← List.drop_drop, hd]; rfl
    rcases Bool.eq_false_or_eq_true (p k x) with hp | hp
    · rw [Loop_next (h1 k x hx (lt_of_get hx) hp), ih (k + 1) hd' (lt_of_get hx)]
      simp [allFrom, hp]
    · rw [Loop_done (h2 k x hx hp)]
      simp [allFrom, hp]
theorem allFrom_all {α : Type} (q : α → Bool) : ∀ (l : List α) (k : Nat), allFrom (fun _ x => q x) k l = l.all q
  | [], _ => rfl
  | x :: r, k => by simp [allFrom, allFrom_all q r]
theorem allFrom_congr {α : Type} {p q : Nat → α → Bool} : ∀ (l : List α) (k : Nat), (∀ j x, k ≤ j → x ∈ l → p j x = q j x) → allFrom p k l = allFrom q k l
  | [], _, _ => rfl
  | x :: r, k, h => by
    simp only [allFrom]
    rw [h k x (Nat.le_refl _) (by simp), allFrom_congr r (k + 1) (fun j y hj hy => h j y (by omega) (by simp [hy]))]
theorem room8 {n : Nat} (h : n ≤ 17592186044416) : roomB n 8 = true := by
  unfold roomB
  simp only [decide_eq_true_eq]
  omega
end Go.Ab
set_option linter.unusedVariables false
namespace Go.Proofs.YtdmddoljldjjeaaGreat
open Go Go.Ab
def okValue (x : Value) : Prop := (okI .i64) x.Kind ∧ (okI .i64) x.Num ∧ okS x.Str
def okRow (x : Row) : Prop := (okI .i64) x.ID ∧ (okL okValue) x.Values
def okTable (x : Table) : Prop := okS x.Name ∧ (okL okS) x.Attrs ∧ (okL okRow) x.Rows
def okMerged (x : Merged) : Prop := okTable x.Table ∧ (okL (okL (okI .i64))) x.Clusters ∧ (okL (okL (okI .i64))) x.Origins
def okDrossref03_Recipe (x : Drossref03_Recipe) : Prop := (okI .u8) x.Attrs ∧ (okI .u8) x.Gap ∧ (okL (okL (okI .u8))) x.Rows
def okDrossref55_Plan (x : Drossref55_Plan) : Prop := (okL (okI .u8)) x.Labels ∧ (okL (okI .u8)) x.Rules
end Go.Proofs.YtdmddoljldjjeaaGreat
/- The values of the program and of the reference: valid ones, their order. -/
set_option linter.unusedVariables false
set_option linter.unusedSimpArgs false
namespace Go.Proofs.YtdmddoljldjjeaaGreat
open Go Go.Ab

def valid (v : Value) : Bool := decide ((v.Kind = 0 ∧ v.Num = 0 ∧ v.Str = []) ∨ (v.Kind = 1 ∧ v.Str = []) ∨ (v.Kind = 2 ∧ v.Num = 0 ∧ v.Str.length ≤ 200) ∨ (v.Kind = 3 ∧ 1 ≤ v.Num ∧ v.Str = []))
theorem value_Valid_eq (v : Value) : value_Valid v = some (valid v) := by
  simp only [value_Valid, valid]
  repeat' split
  all_goals simp_all
  all_goals (try omega)
  all_goals (try (rw [Bool.eq_iff_iff]; simp <;> omega))
theorem ref_Valid_eq (v : Value) : drossref01_Valid v = some (valid v) := by
  simp only [drossref01_Valid, valid]
  repeat' split
  all_goals simp_all
  all_goals (try omega)
  all_goals (try (rw [Bool.eq_iff_iff]; simp <;> omega))

theorem ref_Valids_eq (l : List Value) (hl : l.length ≤ 1073741824) : drossref01_Valids l = some (l.all valid) := by
  have h := LoopF_list l (fun (_ : Unit) i => i) (drossref01_Valids_l1 l) (fun (_ : Unit) x => if valid x then Sum.inl () else Sum.inr (Sum.inr false)) (fun _ => Sum.inl ()) (fun _ _ => True) (b0 := ()) (s0 := 0) rfl trivial
    (fun k b x hx hk _ => by
      constructor
      · intro b' hf
        refine ⟨?_, trivial⟩
        have hv : valid x = true := by
          by_cases hc : valid x = true
          · exact hc
          · simp [hc] at hf
        simp [drossref01_Valids_l1, lt_true hx, idx_get hx, ref_Valid_eq, hv, wrap_succ hk (by omega)]
      · intro t hf
        have hv : valid x = false := by
          by_cases hc : valid x = true
          · simp [hc] at hf
          · simpa using hc
        simp [hv] at hf
        subst hf
        simp [drossref01_Valids_l1, lt_true hx, idx_get hx, ref_Valid_eq, hv])
    (fun b _ => by simp [drossref01_Valids_l1])
  simp only [drossref01_Valids]
  rw [h, foldR_all]
  cases h2 : l.all valid <;> simp [h2]

def sgn (a b : Int) : Int := if a < b then -1 else if b < a then 1 else 0
theorem ref_sign_eq (a b : Int) : drossref01_sign a b = some (sgn a b) := by
  simp only [drossref01_sign, sgn]
  split <;> (try split) <;> simp_all
theorem cmp_int_eq (a b : Int) : cmp_Compare_int a b = some (sgn a b) := by
  simp only [cmp_Compare_int, cmp_isNaN_int, sgn]
  simp
  split <;> (try split) <;> simp_all
theorem cmp_int64_eq (a b : Int) : cmp_Compare_int64 a b = some (sgn a b) := by
  simp only [cmp_Compare_int64, cmp_isNaN_int64, sgn]
  simp
  split <;> (try split) <;> simp_all

def strc : List UInt8 → List UInt8 → Int
  | [], [] => 0
  | [], _ :: _ => -1
  | _ :: _, [] => 1
  | a :: x, b :: y => if a = b then strc x y else sgn a.toNat b.toNat
theorem compareBytes_eq : ∀ a b : List UInt8, Lib.compareBytes a b = strc a b
  | [], [] => rfl
  | [], _ :: _ => rfl
  | _ :: _, [] => rfl
  | x :: a, y :: b => by
    simp only [Lib.compareBytes, strc, sgn, compareBytes_eq a b, UInt8.lt_iff_toNat_lt, ← UInt8.toNat_inj]
    split <;> split <;> (try split) <;> (try split) <;> omega
theorem strings_Compare_eq (a b : List UInt8) : strings_Compare a b = some (strc a b) := by
  simp [strings_Compare, bytealg_CompareString, compareBytes_eq]
theorem sgn_ne {a b : Int} (h : a ≠ b) : sgn a b ≠ 0 := by
  unfold sgn; split <;> (try split) <;> omega
/-- what the reference's loop finds in two strings -/
theorem strings_loop (a b : List UInt8) (ha : a.length ≤ 1073741824) : ∀ (r : List UInt8) (k : Nat), a.drop k = r → k ≤ a.length → k ≤ b.length → 
    (∃ o, LoopF (drossref01_strings_l1 a b) (k : Int) = some o ∧ (match o with | .inl () => sgn (r.length) ((b.drop k).length) = strc r (b.drop k) | .inr z => z = strc r (b.drop k))) := by
  intro r
  induction r with
  | nil =>
    intro k hd hk hkb
    have hk' : k = a.length := by
      have := congrArg List.length hd
      simp at this; omega
    subst hk'
    refine ⟨.inl (), Loop_done (by simp [drossref01_strings_l1]), ?_⟩
    cases hb : b.drop a.length with
    | nil => rfl
    | cons y s => simp [strc, sgn]
  | cons x r ih =>
    intro k hd hk hkb
    have hx : a[k]? = some x := by
      have := congrArg (·[0]?) hd
      simpa [List.getElem?_drop] using this
    have hd' : a.drop (k + 1) = r := by rw [← List.drop_drop, hd]; rfl
    have hlt := lt_of_get hx
    cases hb : b.drop k with
    | nil =>
      have hkb' : k = b.length := by
        have := congrArg List.length hb
        simp at this; omega
      subst hkb'
      refine ⟨.inl (), Loop_done (by simp [drossref01_strings_l1]), ?_⟩
      simp [strc, sgn]; omega
    | cons y s =>
      have hy : b[k]? = some y := by
        have := congrArg (·[0]?) hb
        simpa [List.getElem?_drop] using this
      have hb' : b.drop (k + 1) = s := by rw [← List.drop_drop, hb]; rfl
      by_cases hxy : x = y
      · subst hxy
        have h1 : drossref01_strings_l1 a b (k : Int) = some (.next ((k + 1 : Nat) : Int)) := by
          simp [drossref01_strings_l1, lt_true hx, lt_true hy, idx_get hx, idx_get hy, wrap_succ hlt (by omega)]
        obtain ⟨o, h2, h3⟩ := ih (k + 1) hd' hlt (lt_of_get hy)
        refine ⟨o, by rw [Loop_next h1]; exact h2, ?_⟩
        rw [hb'] at h3
        cases o with
        | inl u =>
          simp only at h3 ⊢
          rw [strc, if_pos rfl, ← h3]
          simp only [List.length_cons, sgn]
          split <;> split <;> (try split) <;> (try split) <;> omega
        | inr z =>
          simp only at h3 ⊢
          rw [strc, if_pos rfl, ← h3]
      · have hne : (((x.toNat : Nat) : Int) != ((y.toNat : Nat) : Int)) = true := by
          simp only [bne_iff_ne, ne_eq, Int.natCast_inj, UInt8.toNat_inj]
          exact hxy
        refine ⟨.inr (sgn x.toNat y.toNat), Loop_done ?_, ?_⟩
        · simp only [drossref01_strings_l1, if_pos (lt_true hx), if_pos (lt_true hy), idx_get hx, idx_get hy, Option.bind_some, if_pos hne, wrap_u8, ref_sign_eq]
        · simp only [strc, if_neg hxy]
theorem ref_strings_eq (a b : List UInt8) (ha : a.length ≤ 1073741824) : drossref01_strings a b = some (strc a b) := by
  obtain ⟨o, h1, h2⟩ := strings_loop a b ha a 0 (by simp) (Nat.zero_le _) (Nat.zero_le _)
  simp only [drossref01_strings]
  have h1' : LoopF (drossref01_strings_l1 a b) 0 = some o := h1
  rw [h1']
  cases o with
  | inl u =>
    simp only [List.drop_zero] at h2
    simp [ref_sign_eq, h2]
  | inr z =>
    simp only [List.drop_zero] at h2
    simp [h2]

def vcmp (a b : Value) : Int := if sgn a.Kind b.Kind ≠ 0 then sgn a.Kind b.Kind else if sgn a.Num b.Num ≠ 0 then sgn a.Num b.Num else strc a.Str b.Str
theorem ref_Compare_eq (a b : Value) (ha : a.Str.length ≤ 1073741824) : drossref01_Compare a b = some (vcmp a b) := by
  simp only [drossref01_Compare, ref_sign_eq, ref_strings_eq _ _ ha, vcmp, Option.bind_some]
  split <;> (try split) <;> (try split) <;> simp_all
theorem Or3_eq (a b c : Int) : cmp_Or_int [a, b, c] = some (if a ≠ 0 then a else if b ≠ 0 then b else c) := by
  simp only [cmp_Or_int]
  have w0 : IntKind.i64.wrap 1 = 1 := by decide
  have w1 : IntKind.i64.wrap 2 = 2 := by decide
  have w2 : IntKind.i64.wrap 3 = 3 := by decide
  by_cases h1 : a = 0
  · by_cases h2 : b = 0
    · by_cases h3 : c = 0
      · rw [Loop_next (s' := 1) (by simp [cmp_Or_int_l1, idx, h1, w0]), Loop_next (s' := 2) (by simp [cmp_Or_int_l1, idx, h2, w1]), Loop_next (s' := 3) (by simp [cmp_Or_int_l1, idx, h3, w2]), Loop_done (t := .inl ()) (by simp [cmp_Or_int_l1])]
        simp [h1, h2, h3]
      · rw [Loop_next (s' := 1) (by simp [cmp_Or_int_l1, idx, h1, w0]), Loop_next (s' := 2) (by simp [cmp_Or_int_l1, idx, h2, w1]), Loop_done (t := .inr c) (by simp [cmp_Or_int_l1, idx, h3])]
        simp [h1, h2]
    · rw [Loop_next (s' := 1) (by simp [cmp_Or_int_l1, idx, h1, w0]), Loop_done (t := .inr b) (by simp [cmp_Or_int_l1, idx, h2])]
      simp [h1, h2]
  · rw [Loop_done (t := .inr a) (by simp [cmp_Or_int_l1, idx, h1])]
    simp [h1]
theorem value_Compare_eq (a b : Value) : value_Compare a b = some (vcmp a b) := by
  simp only [value_Compare, cmp_int_eq, cmp_int64_eq, strings_Compare_eq, Option.bind_some, Or3_eq, vcmp]

theorem strc_eq : ∀ a b : List UInt8, strc a b = 0 ↔ a = b
  | [], [] => by simp [strc]
  | [], _ :: _ => by simp [strc]
  | _ :: _, [] => by simp [strc]
  | x :: a, y :: b => by
    simp only [strc]
    by_cases h : x = y
    · subst h; simp [strc_eq a b]
    · have : sgn x.toNat y.toNat ≠ 0 := sgn_ne (by simpa [Int.natCast_inj, UInt8.toNat_inj] using h)
      simp [h, this]
theorem sgn_zero (a b : Int) : sgn a b = 0 ↔ a = b := by
  unfold sgn; split <;> (try split) <;> omega
theorem vcmp_eq (a b : Value) : vcmp a b = 0 ↔ a = b := by
  unfold vcmp
  cases a; cases b
  simp only [Value.mk.injEq]
  split
  · rename_i h; simp only [ne_eq, sgn_zero] at h; simp [sgn_zero, h]
  · rename_i h; simp only [ne_eq, sgn_zero, Decidable.not_not] at h
    split
    · rename_i h2; simp only [ne_eq, sgn_zero] at h2; simp [sgn_zero, h2]
    · rename_i h2; simp only [ne_eq, sgn_zero, Decidable.not_not] at h2
      simp [strc_eq, h, h2]
def veq (a b : Value) : Bool := (a.Kind == b.Kind) && ((a.Num == b.Num) && (a.Str == b.Str))
theorem veq_iff (a b : Value) : veq a b = true ↔ a = b := by
  cases a; cases b; simp [veq]
theorem veq_eq (a b : Value) : veq a b = decide (a = b) := by
  rw [Bool.eq_iff_iff, veq_iff]; simp
end Go.Proofs.YtdmddoljldjjeaaGreat
/- The rows of the merging. -/
set_option linter.unusedVariables false
set_option linter.unusedSimpArgs false
namespace Go.Proofs.YtdmddoljldjjeaaGreat
open Go Go.Ab

def rowsErr : List Row → Int
  | [] => 12
  | r :: l => if (r :: l).all (fun x => x.Values.length == r.Values.length) then 0 else 6
theorem checkRows_eq (rows : List Row) (hl : rows.length ≤ 1073741824) : survivor_checkRows rows = some (rowsErr rows) := by
  cases rows with
  | nil => rfl
  | cons r l =>
    have h := LoopF_all (r :: l) (survivor_checkRows_l1 (r :: l)) (fun x => x.Values.length == r.Values.length) 6
      (fun k x hx hk hp => by
        have hp' : ¬ (((x.Values.length : Int) != (r.Values.length : Int)) = true) := by simp at hp ⊢; omega
        simp only [survivor_checkRows_l1, if_pos (lt_true hx), idx_get hx, Option.bind_some, List.getElem?_cons_zero, if_neg hp', wrap_succ hk (by omega)])
      (fun k x hx hp => by
        have hp' : (((x.Values.length : Int) != (r.Values.length : Int)) = true) := by simp at hp ⊢; omega
        simp only [survivor_checkRows_l1, if_pos (lt_true hx), idx_get hx, Option.bind_some, List.getElem?_cons_zero, if_pos hp'])
      (by simp [survivor_checkRows_l1])
    have hn : ¬ ((((r :: l).length : Int) == 0) = true) := by simp; omega
    simp only [survivor_checkRows, if_neg hn, h, Option.bind_some, rowsErr]
    cases ((r :: l).all fun x => x.Values.length == r.Values.length) <;> rfl
theorem IndexFunc_Value_eq (l : List Value) (f : Value → Option Bool) (p : Value → Bool) (hf : ∀ x ∈ l, f x = some (p x)) (hl : l.length ≤ 1073741824) : slices_IndexFunc_Value l f = some (match l.findIdx? p with | some i => (i : Int) | none => -1) := by
  have h := LoopF_find l (slices_IndexFunc_Value_l1 l f) p
    (fun k x hx hk hp => by simp [slices_IndexFunc_Value_l1, lt_true hx, idx_get hx, hf x (List.mem_of_getElem? hx), hp, wrap_succ hk (by omega)])
    (fun k x hx hp => by simp [slices_IndexFunc_Value_l1, lt_true hx, idx_get hx, hf x (List.mem_of_getElem? hx), hp])
    (by simp [slices_IndexFunc_Value_l1])
  simp only [slices_IndexFunc_Value, h, Option.bind_some]
  cases l.findIdx? p <;> rfl
theorem IndexFunc_Row_eq (l : List Row) (f : Row → Option Bool) (p : Row → Bool) (hf : ∀ x ∈ l, f x = some (p x)) (hl : l.length ≤ 1073741824) : slices_IndexFunc_Row l f = some (match l.findIdx? p with | some i => (i : Int) | none => -1) := by
  have h := LoopF_find l (slices_IndexFunc_Row_l1 l f) p
    (fun k x hx hk hp => by simp [slices_IndexFunc_Row_l1, lt_true hx, idx_get hx, hf x (List.mem_of_getElem? hx), hp, wrap_succ hk (by omega)])
    (fun k x hx hp => by simp [slices_IndexFunc_Row_l1, lt_true hx, idx_get hx, hf x (List.mem_of_getElem? hx), hp])
    (by simp [slices_IndexFunc_Row_l1])
  simp only [slices_IndexFunc_Row, h, Option.bind_some]
  cases l.findIdx? p <;> rfl
theorem findIdx_any {α : Type} (p : α → Bool) (l : List α) : decide ((match l.findIdx? p with | some i => ((i : Nat) : Int) | none => -1) ≥ 0) = l.any p := by
  cases h : l.findIdx? p with
  | none =>
    rw [List.findIdx?_eq_none_iff] at h
    have : l.any p = false := by rw [List.any_eq_false]; intro x hx; simp [h x hx]
    rw [this]; rfl
  | some i =>
    have : l.any p = true := by
      rw [List.findIdx?_eq_some_iff_getElem] at h
      obtain ⟨hi, hp, _⟩ := h
      rw [List.any_eq_true]
      exact ⟨_, List.getElem_mem hi, hp⟩
    rw [this]; simp
theorem ContainsFunc_Value_eq (l : List Value) (f : Value → Option Bool) (p : Value → Bool) (hf : ∀ x ∈ l, f x = some (p x)) (hl : l.length ≤ 1073741824) : slices_ContainsFunc_Value l f = some (l.any p) := by
  simp only [slices_ContainsFunc_Value, IndexFunc_Value_eq l f p hf hl, Option.bind_some, findIdx_any]

/-- the IDs ascend from a number on, and all values are valid -/
def okRows : Int → List Row → Bool
  | _, [] => true
  | a, r :: l => decide (a < r.ID) && r.Values.all valid && okRows r.ID l
theorem foldR_ok {ρ : Type} (bad : ρ) : ∀ (l : List Row) (a : Int), foldR (fun (a : Int) (r : Row) => if decide (a < r.ID) && r.Values.all valid then Sum.inl r.ID else Sum.inr (Sum.inr bad)) (fun _ => (Sum.inl () : Unit ⊕ ρ)) l a = if okRows a l then .inl () else .inr bad
  | [], _ => rfl
  | r :: l, a => by
    simp only [foldR, okRows]
    rcases Bool.eq_false_or_eq_true (decide (a < r.ID) && r.Values.all valid) with h | h
    · simp only [h, if_true, Bool.true_and]; exact foldR_ok bad l r.ID
    · simp [h]
theorem checkValues_eq (rows : List Row) (hl : rows.length ≤ 1073741824) (hv : ∀ r ∈ rows, r.Values.length ≤ 1073741824) : survivor_checkValues rows = some (if okRows 0 rows then 0 else 1) := by
  have h := LoopF_list rows (fun (a : Int) i => (a, i)) (survivor_checkValues_l1 rows) (fun (a : Int) (r : Row) => if decide (a < r.ID) && r.Values.all valid then Sum.inl r.ID else Sum.inr (Sum.inr 1)) (fun _ => Sum.inl ()) (fun _ _ => True) (b0 := 0) (s0 := (0, 0)) rfl trivial
    (fun k a x hx hk _ => by
      have hc : slices_ContainsFunc_Value x.Values (fun y => survivor_checkValues_1 y) = some (x.Values.any fun v => !valid v) :=
        ContainsFunc_Value_eq _ _ _ (fun y _ => by simp [survivor_checkValues_1, value_Valid_eq]) (hv x (List.mem_of_getElem? hx))
      have ha : (x.Values.any fun v => !valid v) = !x.Values.all valid := by simp [List.all_eq_not_any_not]
      rw [ha] at hc
      have hB : survivor_checkValues_l1 rows (a, (k : Int)) = if decide (a < x.ID) && x.Values.all valid then some (.next (x.ID, ((k + 1 : Nat) : Int))) else some (.done (.inr 1)) := by
        simp only [survivor_checkValues_l1, if_pos (lt_true hx), idx_get hx, Option.bind_some, hc, wrap_succ hk (by omega)]
        by_cases h1 : a < x.ID
        · have : ¬ x.ID ≤ a := by omega
          simp only [if_neg this, h1, decide_true, Bool.true_and]
          cases x.Values.all valid <;> simp
        · have : x.ID ≤ a := by omega
          simp [this, h1]
      constructor
      · intro b' hf
        refine ⟨?_, trivial⟩
        split at hf
        · cases hf; rw [hB]; simp_all
        · cases hf
      · intro t hf
        split at hf
        · cases hf
        · cases hf; rw [hB]; simp_all)
    (fun b _ => by simp [survivor_checkValues_l1])
  simp only [survivor_checkValues, h, foldR_ok, Option.bind_some]
  cases okRows 0 rows <;> rfl
end Go.Proofs.YtdmddoljldjjeaaGreat
/- The choice of a value. -/
set_option linter.unusedVariables false
set_option linter.unusedSimpArgs false
namespace Go.Proofs.YtdmddoljldjjeaaGreat
open Go Go.Ab

/-! ### the order of values -/
theorem sgn_lt (a b : Int) : sgn a b < 0 ↔ a < b := by unfold sgn; split <;> (try split) <;> omega
theorem sgn_neg (a b : Int) : sgn b a = - sgn a b := by unfold sgn; split <;> (try split) <;> (try split) <;> omega
theorem strc_neg : ∀ a b : List UInt8, strc b a = - strc a b
  | [], [] => rfl
  | [], _ :: _ => rfl
  | _ :: _, [] => rfl
  | x :: a, y :: b => by
    simp only [strc]
    by_cases h : x = y
    · subst h; simp [strc_neg a b]
    · have h' : ¬ y = x := fun e => h e.symm
      simp only [if_neg h, if_neg h']; exact sgn_neg _ _
theorem strc_trans : ∀ a b c : List UInt8, strc a b < 0 → strc b c < 0 → strc a c < 0
  | [], [], _, h, _ => by simp [strc] at h
  | [], _ :: _, [], _, h => by simp [strc] at h
  | [], _ :: _, _ :: _, _, _ => by simp [strc]
  | _ :: _, [], _, h, _ => by simp [strc] at h
  | _ :: _, _ :: _, [], _, h => by simp [strc] at h
  | x :: a, y :: b, z :: c, h1, h2 => by
    simp only [strc] at h1 h2 ⊢
    have ix : ∀ p q : UInt8, p = q ↔ (p.toNat : Int) = q.toNat := fun p q => by rw [Int.natCast_inj, UInt8.toNat_inj]
    by_cases hxy : x = y
    · subst hxy
      by_cases hxz : x = z
      · subst hxz
        simp only [if_pos] at h1 h2 ⊢
        exact strc_trans a b c h1 h2
      · simp only [if_neg hxz] at h2 ⊢
        exact h2
    · simp only [if_neg hxy, sgn_lt] at h1
      by_cases hyz : y = z
      · subst hyz
        simp only [if_neg hxy, sgn_lt]; exact h1
      · simp only [if_neg hyz, sgn_lt] at h2
        have hxz : ¬ x = z := by rw [ix]; omega
        simp only [if_neg hxz, sgn_lt]; omega
theorem vcmp_lt (a b : Value) : vcmp a b < 0 ↔ a.Kind < b.Kind ∨ (a.Kind = b.Kind ∧ (a.Num < b.Num ∨ (a.Num = b.Num ∧ strc a.Str b.Str < 0))) := by
  unfold vcmp
  split
  · rename_i h; rw [ne_eq, sgn_zero] at h; rw [sgn_lt]; omega
  · rename_i h; rw [ne_eq, sgn_zero, Decidable.not_not] at h
    split
    · rename_i h2; rw [ne_eq, sgn_zero] at h2; rw [sgn_lt]; omega
    · rename_i h2; rw [ne_eq, sgn_zero, Decidable.not_not] at h2
      constructor
      · intro h3; exact .inr ⟨h, .inr ⟨h2, h3⟩⟩
      · rintro (h3 | ⟨_, h3 | ⟨_, h3⟩⟩)
        · omega
        · omega
        · exact h3
theorem vcmp_trans (a b c : Value) (h1 : vcmp a b < 0) (h2 : vcmp b c < 0) : vcmp a c < 0 := by
  rw [vcmp_lt] at *
  rcases h1 with h1 | ⟨h1, h1' | ⟨h1', h1''⟩⟩ <;> rcases h2 with h2 | ⟨h2, h2' | ⟨h2', h2''⟩⟩ <;> try omega
  exact .inr ⟨by omega, .inr ⟨by omega, strc_trans _ _ _ h1'' h2''⟩⟩
theorem vcmp_neg (a b : Value) : vcmp b a = - vcmp a b := by
  unfold vcmp
  rw [sgn_neg a.Kind, sgn_neg a.Num, strc_neg a.Str]
  split <;> (try split) <;> (try split) <;> (try split) <;> omega
theorem vcmp_self (a : Value) : vcmp a a = 0 := (vcmp_eq a a).2 rfl

/-! ### which value is preferred -/
def betterB (cnt : Value → Int) (rule : Int) (v b : Value) : Bool :=
  if rule = 2 then decide (cnt v > cnt b) else if rule = 3 then decide (v.Kind = 2) && (decide (b.Kind ≠ 2) || decide ((v.Str.length : Int) > b.Str.length))
  else if rule = 4 then decide (vcmp v b < 0) else if rule = 5 then decide (vcmp v b > 0) else false
theorem better_irr (cnt : Value → Int) (rule : Int) (v : Value) : betterB cnt rule v v = false := by
  unfold betterB
  repeat' split
  all_goals simp [vcmp_self]
theorem better_trans (cnt : Value → Int) (rule : Int) (y v b : Value) (h1 : betterB cnt rule y v = true) (h2 : betterB cnt rule v b = true) : betterB cnt rule y b = true := by
  unfold betterB at *
  split at h1
  · rename_i hr; simp only [hr, if_true, decide_eq_true_eq] at *; omega
  · rename_i hr
    simp only [if_neg hr] at h2 ⊢
    split at h1
    · rename_i hr; simp only [hr, if_true, decide_eq_true_eq, Bool.and_eq_true, Bool.or_eq_true] at *
      obtain ⟨a1, a2⟩ := h1
      obtain ⟨b1, b2⟩ := h2
      refine ⟨a1, ?_⟩
      rcases b2 with b2 | b2
      · exact .inl b2
      · rcases a2 with a2 | a2
        · exact absurd b1 a2
        · exact .inr (by omega)
    · rename_i hr
      simp only [if_neg hr] at h2 ⊢
      split at h1
      · rename_i hr; simp only [hr, if_true, decide_eq_true_eq] at *; exact vcmp_trans _ _ _ h1 h2
      · rename_i hr
        simp only [if_neg hr] at h2 ⊢
        split at h1
        · rename_i hr; simp only [hr, if_true, decide_eq_true_eq] at *
          rw [vcmp_neg b] at *
          have e1 : vcmp b v < 0 := by have := vcmp_neg v b; omega
          have e2 : vcmp v y < 0 := by have := vcmp_neg y v; omega
          have := vcmp_trans _ _ _ e1 e2
          have := vcmp_neg b y
          omega
        · cases h1

theorem count_eq (l : List Value) (v : Value) (hl : l.length ≤ 1073741824) : survivor_count l v = some ((l.countP (veq · v) : Nat) : Int) := by
  have h := LoopF_foldl l (fun (n : Nat) i => ((n : Int), i)) (survivor_count_l1 l v) (fun n x => n + if veq x v then 1 else 0) (fun n => (n : Int)) (fun k n => n ≤ k) (b0 := 0) (s0 := (0, 0)) rfl (Nat.le_refl _)
    (fun k n x hx hk hI => by
      have e1 : IntKind.i64.wrap ((n : Int) + 1) = ((n + 1 : Nat) : Int) := wrap_nat (by omega)
      refine ⟨?_, by split <;> omega⟩
      rcases Bool.eq_false_or_eq_true (veq x v) with hv | hv
      · have hv' := hv
        unfold veq at hv'
        simp only [survivor_count_l1, if_pos (lt_true hx), idx_get hx, Option.bind_some, hv', if_true, e1, wrap_succ hk (by omega), hv]
      · have hv' := hv
        unfold veq at hv'
        simp only [survivor_count_l1, if_pos (lt_true hx), idx_get hx, Option.bind_some, hv', Bool.false_eq_true, if_false, e1, wrap_succ hk (by omega), hv, Nat.add_zero])
    (fun n _ => by simp [survivor_count_l1])
  simp only [survivor_count, h, Option.bind_some]
  congr 2
  have : ∀ (r : List Value) (n : Nat), r.foldl (fun n x => n + if veq x v then 1 else 0) n = n + r.countP (veq · v) := by
    intro r
    induction r with
    | nil => intro n; rfl
    | cons x r ih => intro n; rw [List.foldl_cons, ih, List.countP_cons]; omega
  rw [this]; simp

theorem better_eq (l : List Value) (v b : Value) (rule : Int) (hl : l.length ≤ 1073741824) : survivor_better l v b rule = some (betterB (fun x => ((l.countP (veq · x) : Nat) : Int)) rule v b) := by
  simp only [survivor_better, count_eq _ _ hl, value_Compare_eq, Option.bind_some, betterB]
  by_cases h2 : rule = 2
  · simp [h2]
  · by_cases h3 : rule = 3
    · simp only [h3]
      by_cases hk : v.Kind = 2 <;> by_cases hb : b.Kind = 2 <;> simp [hk, hb]
    · by_cases h4 : rule = 4
      · simp [h4]
      · by_cases h5 : rule = 5
        · simp [h5]
        · simp [h2, h3, h4, h5]

def cellV (r : Row) (a : Nat) : Value := r.Values.getD a ⟨0, 0, []⟩
def Has (rows : List Row) (a : Nat) : Prop := ∀ r ∈ rows, r.Values[a]? = some (cellV r a)
def Short (rows : List Row) : Prop := ∀ r ∈ rows, ∀ v ∈ r.Values, v.Str.length ≤ 1073741824

theorem times_eq (rows : List Row) (a : Nat) (v : Value) (hl : rows.length ≤ 1073741824) (ha : Has rows a) (hs : Short rows) : drossref55_times rows a v = some (((rows.map (cellV · a)).countP (veq · v) : Nat) : Int) := by
  have h := LoopF_foldl rows (fun (n : Nat) i => ((n : Int), i)) (drossref55_times_l1 rows a v) (fun n x => n + if veq (cellV x a) v then 1 else 0) (fun n => (n : Int)) (fun k n => n ≤ k) (b0 := 0) (s0 := (0, 0)) rfl (Nat.le_refl _)
    (fun k n x hx hk hI => by
      have e1 : IntKind.i64.wrap ((n : Int) + 1) = ((n + 1 : Nat) : Int) := wrap_nat (by omega)
      refine ⟨?_, by split <;> omega⟩
      have hm := List.mem_of_getElem? hx
      have hc := ha x hm
      have hsh := hs x hm _ (List.mem_of_getElem? hc)
      simp only [drossref55_times_l1, if_pos (lt_true hx), idx_get hx, idx_get hc, Option.bind_some, ref_Compare_eq _ _ hsh, wrap_succ hk (by omega), e1]
      by_cases hv : cellV x a = v
      · have e2 : veq (cellV x a) v = true := (veq_iff _ _).2 hv
        have e3 : (vcmp (cellV x a) v == 0) = true := by simp [vcmp_eq, hv]
        simp only [e2, e3, if_true]
      · have e2 : veq (cellV x a) v = false := by rw [Bool.eq_false_iff]; exact fun h => hv ((veq_iff _ _).1 h)
        have e3 : ¬ (vcmp (cellV x a) v == 0) = true := by simp [vcmp_eq, hv]
        simp only [e2, if_neg e3, Bool.false_eq_true, if_false, Nat.add_zero])
    (fun n _ => by simp [drossref55_times_l1])
  simp only [drossref55_times, h, Option.bind_some]
  congr 2
  have : ∀ (r : List Row) (n : Nat), r.foldl (fun n x => n + if veq (cellV x a) v then 1 else 0) n = n + (r.map (cellV · a)).countP (veq · v) := by
    intro r
    induction r with
    | nil => intro n; rfl
    | cons x r ih => intro n; rw [List.foldl_cons, ih, List.map_cons, List.countP_cons]; omega
  rw [this]; simp

theorem ref_better_eq (rows : List Row) (a : Nat) (rule : Int) (v b : Value) (hl : rows.length ≤ 1073741824) (ha : Has rows a) (hs : Short rows) (hv : v.Str.length ≤ 1073741824) :
    drossref55_better rows a rule v b = some (betterB (fun x => (((rows.map (cellV · a)).countP (veq · x) : Nat) : Int)) rule v b) := by
  simp only [drossref55_better, times_eq _ _ _ hl ha hs, ref_Compare_eq _ _ hv, Option.bind_some, betterB]
  by_cases h2 : rule = 2
  · simp [h2]
  · by_cases h3 : rule = 3
    · simp only [h3]
      by_cases hk : v.Kind = 2 <;> by_cases hb : b.Kind = 2 <;> simp [hk, hb]
    · by_cases h4 : rule = 4
      · simp only [h4]
        by_cases hc : vcmp v b < 0 <;> simp [hc]
      · by_cases h5 : rule = 5
        · simp [h5]
        · simp [h2, h3, h4, h5]
end Go.Proofs.YtdmddoljldjjeaaGreat
/- Choose is the reference's Choose. -/
set_option linter.unusedVariables false
set_option linter.unusedSimpArgs false
namespace Go.Proofs.YtdmddoljldjjeaaGreat
open Go Go.Ab

/-- the greatest element that comes first, with the place where it was found -/
def pickF {β : Type} (B : Value → Value → Bool) (o : Value × β) (x : Value × β) : Value × β := if B x.1 o.1 then x else o
theorem pickF_first {β : Type} (B : Value → Value → Bool) (irr : ∀ v, B v v = false) (tr : ∀ y v b, B y v = true → B v b = true → B y b = true) : ∀ (r P : List (Value × β)) (o : Value × β),
    P.find? (fun p => p.1 == o.1) = some o → (∀ p ∈ P, B p.1 o.1 = false) → (P ++ r).find? (fun p => p.1 == (r.foldl (pickF B) o).1) = some (r.foldl (pickF B) o)
  | [], P, o, h1, _ => by simpa using h1
  | x :: r, P, o, h1, h2 => by
    have e : P ++ x :: r = (P ++ [x]) ++ r := by simp
    rw [e, List.foldl_cons]
    refine pickF_first B irr tr r (P ++ [x]) _ ?_ ?_
    · unfold pickF
      split
      · rename_i hb
        rw [List.find?_append]
        have : P.find? (fun p => p.1 == x.1) = none := by
          rw [List.find?_eq_none]
          intro p hp
          intro he
          have he' : p.1 = x.1 := by simpa using he
          have := h2 p hp
          rw [he', hb] at this; cases this
        rw [this]
        simp
      · rw [List.find?_append, h1]; rfl
    · intro p hp
      unfold pickF
      rcases List.mem_append.1 hp with hp | hp
      · split
        · rename_i hb
          rw [Bool.eq_false_iff]
          intro hy
          have := tr _ _ _ hy hb
          rw [h2 p hp] at this; cases this
        · exact h2 p hp
      · simp only [List.mem_singleton] at hp
        subst hp
        split
        · exact irr _
        · rename_i hb; simpa using hb
theorem foldl_fst {β : Type} (B : Value → Value → Bool) : ∀ (r : List (Value × β)) (o : Value × β), (r.foldl (pickF B) o).1 = (r.map (·.1)).foldl (fun b v => if B v b then v else b) o.1
  | [], _ => rfl
  | x :: r, o => by
    rw [List.foldl_cons, foldl_fst B r, List.map_cons, List.foldl_cons]
    congr 1
    unfold pickF; split <;> rfl

def nn (rows : List Row) (a : Nat) : List Row := rows.filter fun r => (cellV r a).Kind != 0
theorem nn_map (rows : List Row) (a : Nat) : (nn rows a).map (cellV · a) = (rows.map (cellV · a)).filter (fun v => v.Kind != 0) := by
  unfold nn
  rw [List.filter_map]; rfl

/-- the outcome of both -/
def chosen (rows : List Row) (a : Nat) (rule : Int) : Value × Int :=
  match nn rows a with
  | [] => (⟨0, 0, []⟩, (rows[0]?.map (·.ID)).getD 0)
  | r :: l => (l.map fun x => (cellV x a, x.ID)).foldl (pickF (betterB (fun x => (((rows.map (cellV · a)).countP (veq · x) : Nat) : Int)) rule)) (cellV r a, r.ID)

theorem findIdx_find {α : Type} (p : α → Bool) (l : List α) {x : α} (h : l.find? p = some x) : ∃ i, l.findIdx? p = some i ∧ l[i]? = some x := by
  induction l with
  | nil => cases h
  | cons y r ih =>
    rw [List.find?_cons] at h
    rw [List.findIdx?_cons]
    split at h
    · rename_i hp; cases h; exact ⟨0, by simp [hp], rfl⟩
    · rename_i hp
      obtain ⟨i, h1, h2⟩ := ih h
      exact ⟨i + 1, by simp [hp, h1], by simpa using h2⟩

theorem count_nn (vals : List Value) (x : Value) (hx : x.Kind ≠ 0) : (vals.filter (fun v => v.Kind != 0)).countP (veq · x) = vals.countP (veq · x) := by
  rw [List.countP_filter]
  apply List.countP_congr
  intro v _
  by_cases hv : veq v x = true
  · have := (veq_iff _ _).1 hv
    subst this
    simp [hv, hx]
  · simp [hv]
theorem betterB_congr {c d : Value → Int} {rule : Int} {v b : Value} (h1 : c v = d v) (h2 : c b = d b) : betterB c rule v b = betterB d rule v b := by
  unfold betterB; rw [h1, h2]

theorem choose_eq (rows : List Row) (a : Nat) (rule : Int) (hne : rows ≠ []) (hl : rows.length ≤ 1073741824) (ha : Has rows a) : survivor_choose rows a rule = some (chosen rows a rule) := by
  obtain ⟨r0, rs, rfl⟩ : ∃ r l, rows = r :: l := by cases rows with | nil => exact absurd rfl hne | cons r l => exact ⟨r, l, rfl⟩
  generalize hrows : r0 :: rs = rows at *
  have h0 : rows[0]? = some r0 := by rw [← hrows]; rfl
  -- the first loop
  have h := LoopF_foldl rows (fun (l : List Value) i => (l, i)) (survivor_choose_l1 rows a) (fun l x => l ++ if (cellV x a).Kind != 0 then [cellV x a] else []) id (fun k l => l.length ≤ k) (b0 := []) (s0 := ([], 0)) rfl (Nat.le_refl _)
    (fun k l x hx hk hI => by
      have hc := ha x (List.mem_of_getElem? hx)
      simp only [survivor_choose_l1, if_pos (lt_true hx), idx_get hx, idx_get hc, Option.bind_some, wrap_succ hk (by omega)]
      by_cases hz : ((cellV x a).Kind != 0) = true
      · have hr : roomB (l.length + 1) 32 = true := room_le (by omega) (by omega)
        simp only [hz, hr, if_true]
        exact ⟨trivial, by simp; omega⟩
      · simp only [hz, if_false, Bool.false_eq_true, List.append_nil]
        exact ⟨trivial, by omega⟩)
    (fun l _ => by simp [survivor_choose_l1])
  have hf : ∀ (r : List Row) (l : List Value), r.foldl (fun l x => l ++ if (cellV x a).Kind != 0 then [cellV x a] else []) l = l ++ (r.map (cellV · a)).filter (fun v => v.Kind != 0) := by
    intro r
    induction r with
    | nil => intro l; simp
    | cons x r ih =>
      intro l
      rw [List.foldl_cons, ih, List.map_cons, List.filter_cons]
      split <;> simp
  rw [hf] at h
  simp only [id, List.nil_append] at h
  rw [← nn_map] at h
  simp only [survivor_choose, h, Option.bind_some]
  have hnl : (nn rows a).length ≤ rows.length := List.length_filter_le _ _
  unfold chosen
  cases hn : nn rows a with
  | nil => simp [h0]
  | cons r l =>
    have hk0 : ∀ x ∈ nn rows a, (cellV x a).Kind ≠ 0 := by
      intro x hx
      have := (List.mem_filter.1 hx).2
      simpa using this
    rw [hn] at hk0 hnl
    have hz : ¬ ((((((r :: l).map (cellV · a)).length : Nat) : Int) == 0) = true) := by simp; omega
    have h1 : (1 : Int) ≤ ((((r :: l).map (cellV · a)).length : Nat) : Int) := by simp; omega
    rw [if_neg hz]
    simp only [List.map_cons, List.getElem?_cons_zero, Option.bind_some]
    rw [List.map_cons] at h1
    rw [if_pos h1]
    -- the second loop
    have ht : ((cellV r a :: l.map (cellV · a)).drop 1).take ((cellV r a :: l.map (cellV · a)).length - 1) = l.map (cellV · a) := by
      rw [List.drop_succ_cons, List.drop_zero, List.take_of_length_le]; simp
    have hB : ∀ v b, v ∈ (cellV r a :: l.map (cellV · a)) → b ∈ (cellV r a :: l.map (cellV · a)) →
        survivor_better (cellV r a :: l.map (cellV · a)) v b rule = some (betterB (fun x => (((rows.map (cellV · a)).countP (veq · x) : Nat) : Int)) rule v b) := by
      intro v b hv hb
      rw [better_eq _ _ _ _ (by simp at hnl ⊢; omega)]
      have key : ∀ x, x ∈ (cellV r a :: l.map (cellV · a)) → ((cellV r a :: l.map (cellV · a)).countP (veq · x)) = (rows.map (cellV · a)).countP (veq · x) := by
        intro x hx
        rw [← List.map_cons (f := (cellV · a)), ← hn, nn_map]
        refine count_nn _ _ ?_
        rw [← List.map_cons (f := (cellV · a)), List.mem_map] at hx
        obtain ⟨y, hy, rfl⟩ := hx
        exact hk0 y hy
      congr 1
      exact betterB_congr (by rw [key v hv]) (by rw [key b hb])
    have h2 := LoopF_foldl (l.map (cellV · a)) (fun (b : Value) i => (b, i)) (survivor_choose_l2 rule (cellV r a :: l.map (cellV · a))) (fun b v => if betterB (fun x => (((rows.map (cellV · a)).countP (veq · x) : Nat) : Int)) rule v b then v else b) id
      (fun k b => b ∈ (cellV r a :: l.map (cellV · a))) (b0 := cellV r a) (s0 := (cellV r a, 0)) rfl (by simp)
      (fun k b x hx hk hI => by
        have hm : x ∈ (cellV r a :: l.map (cellV · a)) := List.mem_cons_of_mem _ (List.mem_of_getElem? hx)
        have hlt : (k : Int) < (((cellV r a :: l.map (cellV · a)).length - 1 : Nat) : Int) := by simp at hk ⊢; omega
        simp only [survivor_choose_l2, if_pos hlt, ht, idx_get hx, Option.bind_some, hB x b hm hI, wrap_succ hk (by simp at hnl ⊢; omega)]
        split
        · exact ⟨rfl, hm⟩
        · exact ⟨rfl, hI⟩)
      (fun b _ => by simp [survivor_choose_l2])
    simp only [id] at h2
    rw [h2, Option.bind_some]
    -- the place
    have hfst := foldl_fst (betterB (fun x => (((rows.map (cellV · a)).countP (veq · x) : Nat) : Int)) rule) (l.map fun x => (cellV x a, x.ID)) (cellV r a, r.ID)
    have hff := pickF_first (betterB (fun x => (((rows.map (cellV · a)).countP (veq · x) : Nat) : Int)) rule) (better_irr _ _) (better_trans _ _) (l.map fun x => (cellV x a, x.ID)) [(cellV r a, r.ID)] (cellV r a, r.ID) (by simp) (by simp [better_irr])
    generalize hR : (l.map fun x => (cellV x a, x.ID)).foldl (pickF (betterB (fun x => (((rows.map (cellV · a)).countP (veq · x) : Nat) : Int)) rule)) (cellV r a, r.ID) = R at *
    have e1 : (l.map fun x => (cellV x a, x.ID)).map (·.1) = l.map (cellV · a) := by rw [List.map_map]; rfl
    rw [e1] at hfst
    rw [← hfst]
    have hff' : ((nn rows a).map fun x => (cellV x a, x.ID)).find? (fun p => p.1 == R.1) = some R := by rw [hn, List.map_cons]; exact hff
    rw [List.find?_map] at hff'
    obtain ⟨x, hx1, hx2⟩ := Option.map_eq_some_iff.1 hff'
    have hx3 : rows.find? (fun y => veq (cellV y a) R.1) = some x := by
      unfold nn at hx1
      rw [List.find?_filter] at hx1
      rw [← hx1]
      congr 1
      funext y
      simp only [Function.comp]
      rw [veq_eq]
      by_cases hy : cellV y a = R.1
      · have hk : R.1.Kind ≠ 0 := by
          have hxm := List.mem_of_find?_eq_some hx1
          have := List.find?_some hx1
          simp at this
          rw [← this.2]; exact this.1
        simp [hy, hk]
      · simp [hy]
    obtain ⟨i, hi1, hi2⟩ := findIdx_find _ _ hx3
    have hIF := IndexFunc_Row_eq rows (fun y => survivor_choose_1 y a R.1) (fun y => veq (cellV y a) R.1) (fun y hy => by simp only [survivor_choose_1, idx_get (ha y hy), Option.bind_some]; rfl) hl
    rw [hIF, hi1]
    simp only [Option.bind_some, idx_get hi2]
    rw [← hx2]
end Go.Proofs.YtdmddoljldjjeaaGreat
/- Choose is the reference's Choose, second part. -/
set_option linter.unusedVariables false
set_option linter.unusedSimpArgs false
namespace Go.Proofs.YtdmddoljldjjeaaGreat
open Go Go.Ab

def stepP (B : Value → Value → Bool) (a : Nat) (o : Drossref55_Result) (r : Row) : Drossref55_Result :=
  if (cellV r a).Kind != 0 && (o.Origin == 0 || B (cellV r a) o.Value) then ⟨cellV r a, r.ID⟩ else o
theorem stepP_nn (B : Value → Value → Bool) (a : Nat) : ∀ (rows : List Row) (o : Drossref55_Result), rows.foldl (stepP B a) o = (nn rows a).foldl (stepP B a) o
  | [], _ => rfl
  | r :: l, o => by
    unfold nn
    rw [List.foldl_cons, List.filter_cons]
    by_cases h : ((cellV r a).Kind != 0) = true
    · rw [if_pos h, List.foldl_cons]; exact stepP_nn B a l _
    · rw [if_neg h]
      have : stepP B a o r = o := by unfold stepP; simp [h]
      rw [this]; exact stepP_nn B a l o
theorem stepP_pick (B : Value → Value → Bool) (a : Nat) : ∀ (l : List Row) (o : Drossref55_Result), o.Origin ≠ 0 → (∀ r ∈ l, (cellV r a).Kind ≠ 0 ∧ r.ID ≠ 0) →
    l.foldl (stepP B a) o = ⟨((l.map fun x => (cellV x a, x.ID)).foldl (pickF B) (o.Value, o.Origin)).1, ((l.map fun x => (cellV x a, x.ID)).foldl (pickF B) (o.Value, o.Origin)).2⟩ ∧ (l.foldl (stepP B a) o).Origin ≠ 0
  | [], o, h, _ => ⟨rfl, h⟩
  | r :: l, o, h, hr => by
    have h1 := (hr r (by simp)).1
    have h2 := (hr r (by simp)).2
    rw [List.foldl_cons, List.map_cons, List.foldl_cons]
    have hs : stepP B a o r = ⟨(pickF B (o.Value, o.Origin) (cellV r a, r.ID)).1, (pickF B (o.Value, o.Origin) (cellV r a, r.ID)).2⟩ := by
      unfold stepP pickF
      by_cases hb : B (cellV r a) o.Value = true
      · simp [hb, h1]
      · simp [hb, h]
    rw [hs]
    exact stepP_pick B a l _ (by unfold pickF; split <;> simp [h, h2]) (fun x hx => hr x (by simp [hx]))

theorem Pick_eq (rows : List Row) (a : Nat) (rule : Int) (hne : rows ≠ []) (hl : rows.length ≤ 1073741824) (ha : Has rows a) (hs : Short rows) (hid : ∀ r ∈ rows, r.ID ≠ 0) :
    drossref55_Pick rows a rule = some ⟨(chosen rows a rule).1, (chosen rows a rule).2⟩ := by
  generalize hB : betterB (fun x => (((rows.map (cellV · a)).countP (veq · x) : Nat) : Int)) rule = B
  have h := LoopF_foldl rows (fun (o : Drossref55_Result) i => (o, i)) (drossref55_Pick_l1 rows a rule) (stepP B a) id (fun _ _ => True) (b0 := ⟨⟨0, 0, []⟩, 0⟩) (s0 := (⟨⟨0, 0, []⟩, 0⟩, 0)) rfl trivial
    (fun k o x hx hk _ => by
      have hm := List.mem_of_getElem? hx
      have hc := ha x hm
      have hsh := hs x hm _ (List.mem_of_getElem? hc)
      refine ⟨?_, trivial⟩
      simp only [drossref55_Pick_l1, if_pos (lt_true hx), idx_get hx, idx_get hc, Option.bind_some, wrap_succ hk (by omega), ref_better_eq rows a rule _ _ hl ha hs hsh, hB, stepP]
      by_cases h1 : ((cellV x a).Kind != 0) = true
      · by_cases h2 : (o.Origin == 0) = true
        · simp [h1, h2]
        · by_cases h3 : B (cellV x a) o.Value = true
          · simp [h1, h2, h3]
          · simp [h1, h2, h3]
      · simp [h1])
    (fun o _ => by simp [drossref55_Pick_l1])
  simp only [drossref55_Pick, h, id, Option.bind_some]
  rw [stepP_nn]
  obtain ⟨r0, rs, hrows⟩ : ∃ r l, rows = r :: l := by cases rows with | nil => exact absurd rfl hne | cons r l => exact ⟨r, l, rfl⟩
  have h0 : rows[0]? = some r0 := by rw [hrows]; rfl
  unfold chosen
  rw [hB]
  cases hn : nn rows a with
  | nil => simp [h0]
  | cons r l =>
    have hk0 : ∀ x ∈ nn rows a, (cellV x a).Kind ≠ 0 ∧ x.ID ≠ 0 := by
      intro x hx
      have := List.mem_filter.1 hx
      exact ⟨by simpa using this.2, hid x this.1⟩
    rw [hn] at hk0
    have hr := hk0 r (by simp)
    rw [List.foldl_cons]
    have hs1 : stepP B a ⟨⟨0, 0, []⟩, 0⟩ r = ⟨cellV r a, r.ID⟩ := by unfold stepP; simp [hr.1]
    rw [hs1]
    obtain ⟨e1, e2⟩ := stepP_pick B a l ⟨cellV r a, r.ID⟩ hr.2 (fun x hx => hk0 x (by simp [hx]))
    have e3 : ¬ (((l.foldl (stepP B a) ⟨cellV r a, r.ID⟩).Origin == 0) = true) := by simpa using e2
    rw [if_neg e3, e1]

theorem okRows_pos : ∀ (l : List Row) (a : Int), 0 ≤ a → okRows a l = true → ∀ r ∈ l, r.ID ≠ 0
  | [], _, _, _, r, hr => by cases hr
  | x :: l, a, ha, h, r, hr => by
    simp only [okRows, Bool.and_eq_true, decide_eq_true_eq] at h
    rcases List.mem_cons.1 hr with e | e
    · subst e; omega
    · exact okRows_pos l x.ID (by omega) h.2 r e
theorem rowsErr_zero {rows : List Row} (h : rowsErr rows = 0) : rows ≠ [] ∧ ∀ r0, rows[0]? = some r0 → ∀ r ∈ rows, r.Values.length = r0.Values.length := by
  cases rows with
  | nil => cases h
  | cons x l =>
    refine ⟨by simp, fun r0 h0 r hr => ?_⟩
    simp only [List.getElem?_cons_zero, Option.some.injEq] at h0
    subst h0
    simp only [rowsErr] at h
    split at h
    · rename_i hc
      have := List.all_eq_true.1 hc r hr
      simpa using this
    · cases h
theorem has_of {rows : List Row} (h : rowsErr rows = 0) {r0 : Row} (h0 : rows[0]? = some r0) {a : Nat} (ha : a < r0.Values.length) : Has rows a := by
  intro r hr
  have := (rowsErr_zero h).2 r0 h0 r hr
  have hlt : a < r.Values.length := by omega
  simp [cellV, List.getD, List.getElem?_eq_getElem hlt]

structure RowsOk (rows : List Row) : Prop where
  len : rows.length ≤ 1073741824
  vals : ∀ r ∈ rows, r.Values.length ≤ 1073741824
  short : Short rows
theorem validRule_eq (r : Int) : survivor_validRule r = some (decide (1 ≤ r) && decide (r ≤ 5)) := by
  simp only [survivor_validRule]
  by_cases h : 1 ≤ r <;> simp [h]

/-- what both answer -/
def choice (rows : List Row) (attr rule : Int) : Value × Int × Int :=
  if rowsErr rows ≠ 0 then (⟨0, 0, []⟩, 0, rowsErr rows)
  else if attr < 0 ∨ ((rows[0]?.map (·.Values.length)).getD 0 : Nat) ≤ attr then (⟨0, 0, []⟩, 0, 6)
  else if okRows 0 rows = false ∨ rule < 1 ∨ 5 < rule then (⟨0, 0, []⟩, 0, 1)
  else ((chosen rows attr.toNat rule).1, (chosen rows attr.toNat rule).2, 0)
theorem Choose_eq (rows : List Row) (attr rule : Int) (H : RowsOk rows) : survivor_Choose rows attr rule = some (choice rows attr rule) := by
  simp only [survivor_Choose, checkRows_eq rows H.len, Option.bind_some, choice]
  by_cases h1 : rowsErr rows = 0
  · obtain ⟨hne, _⟩ := rowsErr_zero h1
    obtain ⟨r0, rs, hrows⟩ : ∃ r l, rows = r :: l := by cases rows with | nil => exact absurd rfl hne | cons r l => exact ⟨r, l, rfl⟩
    have h0 : rows[0]? = some r0 := by rw [hrows]; rfl
    simp only [h1, h0, Option.bind_some, Option.map_some, Option.getD_some]
    by_cases h2 : attr < 0
    · simp [h2]
    · by_cases h3 : (r0.Values.length : Int) ≤ attr
      · simp [h2, h3]
      · have ha : Has rows attr.toNat := has_of h1 h0 (by omega)
        have hat : ((attr.toNat : Nat) : Int) = attr := by omega
        have hc := choose_eq rows attr.toNat rule hne H.len ha
        rw [hat] at hc
        simp only [checkValues_eq rows H.len H.vals, validRule_eq, Option.bind_some, hc]
        by_cases h4 : okRows 0 rows = true
        · by_cases h5 : rule < 1
          · have : ¬ 1 ≤ rule := by omega
            simp [h2, h3, h4, h5, this]
          · by_cases h6 : 5 < rule
            · have : ¬ rule ≤ 5 := by omega
              simp [h2, h3, h4, h5, h6, this]
            · have e1 : 1 ≤ rule := by omega
              have e2 : rule ≤ 5 := by omega
              simp [h2, h3, h4, h5, h6, e1, e2]
        · simp [h2, h3, h4]
  · simp [h1]
end Go.Proofs.YtdmddoljldjjeaaGreat
/- Merge is the reference's Merge. -/
set_option linter.unusedVariables false
set_option linter.unusedSimpArgs false
namespace Go.Proofs.YtdmddoljldjjeaaGreat
open Go Go.Ab

theorem IDs_eq (a b : List Int) (ha : a.length ≤ 1073741824) : drossref03_IDs a b = some (decide (a = b)) := by
  simp only [drossref03_IDs]
  by_cases hl : a.length = b.length
  · have hn : ¬ (((a.length : Int) != (b.length : Int)) = true) := by simp; omega
    rw [if_neg hn]
    have key : ∀ (r : List Int) (k : Nat), a.drop k = r → k ≤ a.length → LoopF (drossref03_IDs_l1 a b) (k : Int) = some (if r = b.drop k then .inl () else .inr false) := by
      intro r
      induction r with
      | nil =>
        intro k hd hk
        have : k = a.length := by
          have := congrArg List.length hd
          simp at this; omega
        subst this
        have : b.drop a.length = [] := by rw [hl]; simp
        rw [this]
        exact Loop_done (by simp [drossref03_IDs_l1])
      | cons x r ih =>
        intro k hd hk
        have hx : a[k]? = some x := by
          have := congrArg (·[0]?) hd
          simpa [List.getElem?_drop] using this
        have hd' : a.drop (k + 1) = r := by rw [← List.drop_drop, hd]; rfl
        have hlt := lt_of_get hx
        obtain ⟨y, hy⟩ : ∃ y, b[k]? = some y := ⟨_, List.getElem?_eq_getElem (by omega)⟩
        have hb : b.drop k = y :: b.drop (k + 1) := by
          rw [List.drop_eq_getElem_cons (by omega)]
          congr 1
          exact (List.getElem?_eq_some_iff.1 hy).2
        rw [hb]
        by_cases hxy : x = y
        · subst hxy
          rw [Loop_next (s' := ((k + 1 : Nat) : Int)) (by simp [drossref03_IDs_l1, lt_true hx, idx_get hx, idx_get hy, wrap_succ hlt (by omega)]), ih (k + 1) hd' hlt]
          simp
        · rw [Loop_done (t := .inr false) (by simp [drossref03_IDs_l1, lt_true hx, idx_get hx, idx_get hy, hxy])]
          simp [hxy]
    have h0 := key a 0 (by simp) (Nat.zero_le _)
    simp only [List.drop_zero, Int.natCast_zero] at h0
    rw [h0]
    by_cases hab : a = b <;> simp [hab]
  · have hn : (((a.length : Int) != (b.length : Int)) = true) := by simp; omega
    rw [if_pos hn]
    have : a ≠ b := fun e => hl (by rw [e])
    simp [this]

/-- the order of lists of values -/
def lcmp : List Value → List Value → Int
  | [], [] => 0
  | [], _ :: _ => -1
  | _ :: _, [] => 1
  | a :: x, b :: y => if vcmp a b ≠ 0 then vcmp a b else lcmp x y
theorem lcmp_eq : ∀ a b : List Value, lcmp a b = 0 ↔ a = b
  | [], [] => by simp [lcmp]
  | [], _ :: _ => by simp [lcmp]
  | _ :: _, [] => by simp [lcmp]
  | x :: a, y :: b => by
    simp only [lcmp]
    by_cases h : x = y
    · subst h; simp [vcmp_self, lcmp_eq a b]
    · have : vcmp x y ≠ 0 := fun e => h ((vcmp_eq _ _).1 e)
      simp [h, this]
theorem lists_loop (a b : List Value) (ha : a.length ≤ 1073741824) (hs : ∀ v ∈ a, v.Str.length ≤ 1073741824) : ∀ (r : List Value) (k : Nat), a.drop k = r → k ≤ a.length → k ≤ b.length →
    (∃ o, LoopF (drossref01_Lists_l1 a b) (k : Int) = some o ∧ (match o with | .inl () => sgn (r.length) ((b.drop k).length) = lcmp r (b.drop k) | .inr z => z = lcmp r (b.drop k))) := by
  intro r
  induction r with
  | nil =>
    intro k hd hk hkb
    have hk' : k = a.length := by
      have := congrArg List.length hd
      simp at this; omega
    subst hk'
    refine ⟨.inl (), Loop_done (by simp [drossref01_Lists_l1]), ?_⟩
    cases hb : b.drop a.length with
    | nil => rfl
    | cons y s => simp [lcmp, sgn]
  | cons x r ih =>
    intro k hd hk hkb
    have hx : a[k]? = some x := by
      have := congrArg (·[0]?) hd
      simpa [List.getElem?_drop] using this
    have hd' : a.drop (k + 1) = r := by rw [← List.drop_drop, hd]; rfl
    have hlt := lt_of_get hx
    have hsx := hs x (List.mem_of_getElem? hx)
    cases hb : b.drop k with
    | nil =>
      have hkb' : k = b.length := by
        have := congrArg List.length hb
        simp at this; omega
      subst hkb'
      refine ⟨.inl (), Loop_done (by simp [drossref01_Lists_l1]), ?_⟩
      simp [lcmp, sgn]; omega
    | cons y s =>
      have hy : b[k]? = some y := by
        have := congrArg (·[0]?) hb
        simpa [List.getElem?_drop] using this
      have hb' : b.drop (k + 1) = s := by rw [← List.drop_drop, hb]; rfl
      by_cases hxy : vcmp x y = 0
      · have h1 : drossref01_Lists_l1 a b (k : Int) = some (.next ((k + 1 : Nat) : Int)) := by
          simp [drossref01_Lists_l1, lt_true hx, lt_true hy, idx_get hx, idx_get hy, wrap_succ hlt (by omega), ref_Compare_eq _ _ hsx, hxy]
        obtain ⟨o, h2, h3⟩ := ih (k + 1) hd' hlt (lt_of_get hy)
        refine ⟨o, by rw [Loop_next h1]; exact h2, ?_⟩
        rw [hb'] at h3
        have hl : lcmp (x :: r) (y :: s) = lcmp r s := by simp [lcmp, hxy]
        rw [hl]
        cases o with
        | inl u =>
          simp only at h3 ⊢
          rw [← h3]
          simp only [List.length_cons, sgn]
          split <;> split <;> (try split) <;> (try split) <;> omega
        | inr z => exact h3
      · refine ⟨.inr (vcmp x y), Loop_done ?_, ?_⟩
        · simp [drossref01_Lists_l1, lt_true hx, lt_true hy, idx_get hx, idx_get hy, ref_Compare_eq _ _ hsx, hxy]
        · simp [lcmp, hxy]
theorem Lists_eq (a b : List Value) (ha : a.length ≤ 1073741824) (hs : ∀ v ∈ a, v.Str.length ≤ 1073741824) : drossref01_Lists a b = some (lcmp a b) := by
  obtain ⟨o, h1, h2⟩ := lists_loop a b ha hs a 0 (by simp) (Nat.zero_le _) (Nat.zero_le _)
  simp only [drossref01_Lists]
  have h1' : LoopF (drossref01_Lists_l1 a b) 0 = some o := h1
  rw [h1']
  cases o with
  | inl u =>
    simp only [List.drop_zero] at h2
    simp [ref_sign_eq, h2]
  | inr z =>
    simp only [List.drop_zero] at h2
    simp [h2]
theorem Same_eq (a b : List Value) (ha : a.length ≤ 1073741824) (hs : ∀ v ∈ a, v.Str.length ≤ 1073741824) : drossref01_Same a b = some (decide (a = b)) := by
  simp only [drossref01_Same, Lists_eq a b ha hs, Option.bind_some]
  congr 1
  rw [Bool.eq_iff_iff]; simp [lcmp_eq]
theorem EqualRows_eq (a b : Row) (ha : a.Values.length ≤ 1073741824) (hs : ∀ v ∈ a.Values, v.Str.length ≤ 1073741824) : drossref03_EqualRows a b = some (decide (a = b)) := by
  simp only [drossref03_EqualRows, Same_eq _ _ ha hs, Option.bind_some]
  cases a; cases b
  simp only [Row.mk.injEq]
  split
  · rename_i h; simp at h; simp [h]
  · rename_i h; simp at h; simp [h]

def okRule (r : Int) : Bool := decide (1 ≤ r) && decide (r ≤ 5)
theorem Rules_eq (l : List Int) (hl : l.length ≤ 1073741824) : drossref55_Rules l = some (l.all okRule) := by
  have h := LoopF_all l (drossref55_Rules_l1 l) okRule false
    (fun k x hx hk hp => by
      simp only [okRule, Bool.and_eq_true, decide_eq_true_eq] at hp
      have h1 : ¬ x < 1 := by omega
      have h2 : ¬ x > 5 := by omega
      simp [drossref55_Rules_l1, lt_true hx, idx_get hx, h1, h2, wrap_succ hk (by omega)])
    (fun k x hx hp => by
      simp only [okRule, Bool.and_eq_false_iff, decide_eq_false_iff_not] at hp
      by_cases h1 : x < 1
      · simp [drossref55_Rules_l1, lt_true hx, idx_get hx, h1]
      · have h2 : x > 5 := by omega
        simp [drossref55_Rules_l1, lt_true hx, idx_get hx, h1, h2])
    (by simp [drossref55_Rules_l1])
  simp only [drossref55_Rules, h, Option.bind_some]
  cases l.all okRule <;> rfl
theorem IndexFunc_int_eq (l : List Int) (f : Int → Option Bool) (p : Int → Bool) (hf : ∀ x ∈ l, f x = some (p x)) (hl : l.length ≤ 1073741824) : slices_IndexFunc_int l f = some (match l.findIdx? p with | some i => (i : Int) | none => -1) := by
  have h := LoopF_find l (slices_IndexFunc_int_l1 l f) p
    (fun k x hx hk hp => by simp [slices_IndexFunc_int_l1, lt_true hx, idx_get hx, hf x (List.mem_of_getElem? hx), hp, wrap_succ hk (show l.length ≤ 4611686018427387904 by omega)])
    (fun k x hx hp => by simp [slices_IndexFunc_int_l1, lt_true hx, idx_get hx, hf x (List.mem_of_getElem? hx), hp])
    (by simp [slices_IndexFunc_int_l1])
  simp only [slices_IndexFunc_int, h, Option.bind_some]
  cases l.findIdx? p <;> rfl
theorem ContainsFunc_int_eq (l : List Int) (f : Int → Option Bool) (p : Int → Bool) (hf : ∀ x ∈ l, f x = some (p x)) (hl : l.length ≤ 1073741824) : slices_ContainsFunc_int l f = some (l.any p) := by
  simp only [slices_ContainsFunc_int, IndexFunc_int_eq l f p hf hl, Option.bind_some]
  exact congrArg some (findIdx_any p l)

/-- the merged values and origins -/
def stepM (rows : List Row) (b : List Value × List Int) (rule : Int) : List Value × List Int := (b.1 ++ [(chosen rows b.1.length rule).1], b.2 ++ [(chosen rows b.1.length rule).2])
def mergedV (rows : List Row) (rules : List Int) : List Value × List Int := rules.foldl (stepM rows) ([], [])
theorem merge_loop (rows : List Row) (rules : List Int) (hne : rows ≠ []) (hl : rows.length ≤ 1073741824) (hr : rules.length ≤ 1048576) (ha : ∀ a, a < rules.length → Has rows a) :
    LoopF (survivor_Merge_l1 rows rules) ([], [], 0) = some (mergedV rows rules) := by
  have h := LoopF_foldl rules (fun (b : List Value × List Int) i => (b.1, b.2, i)) (survivor_Merge_l1 rows rules) (stepM rows) id (fun k b => b.1.length = k ∧ b.2.length = k) (b0 := ([], [])) (s0 := ([], [], 0)) rfl ⟨rfl, rfl⟩
    (fun k b x hx hk hI => by
      have hc := choose_eq rows k x hne hl (ha k hk)
      have r1 : roomB (k + 1) 32 = true := room_le (by omega) (by omega)
      have r2 : roomB (k + 1) 8 = true := room_le (by omega) (by omega)
      refine ⟨?_, by simp [stepM, hI]⟩
      simp only [survivor_Merge_l1, if_pos (lt_true hx), idx_get hx, Option.bind_some, hc, r1, r2, if_true, wrap_succ hk (by omega), stepM, hI.1, hI.2])
    (fun b _ => by simp [survivor_Merge_l1])
  exact h
theorem ref_merge_eq (rows : List Row) (rules : List Int) (r0 : Row) (h0 : rows[0]? = some r0) (hl : rows.length ≤ 1073741824) (hr : rules.length ≤ 1048576) (ha : ∀ a, a < rules.length → Has rows a) (hs : Short rows) (hid : ∀ r ∈ rows, r.ID ≠ 0) :
    drossref55_merge rows rules = some ⟨⟨r0.ID, (mergedV rows rules).1⟩, (mergedV rows rules).2⟩ := by
  have hne : rows ≠ [] := by intro e; rw [e] at h0; cases h0
  have h := LoopF_foldl rules (fun (b : List Value × List Int) i => (b.1, b.2, i)) (drossref55_merge_l1 rows rules) (stepM rows) id (fun k b => b.1.length = k ∧ b.2.length = k) (b0 := ([], [])) (s0 := ([], [], 0)) rfl ⟨rfl, rfl⟩
    (fun k b x hx hk hI => by
      have hc := Pick_eq rows k x hne hl (ha k hk) hs hid
      have r1 : roomB (k + 1) 32 = true := room_le (by omega) (by omega)
      have r2 : roomB (k + 1) 8 = true := room_le (by omega) (by omega)
      refine ⟨?_, by simp [stepM, hI]⟩
      simp only [drossref55_merge_l1, if_pos (lt_true hx), idx_get hx, Option.bind_some, hc, r1, r2, if_true, wrap_succ hk (by omega), stepM, hI.1, hI.2])
    (fun b _ => by simp [drossref55_merge_l1])
  simp only [drossref55_merge, h0, Option.bind_some, h]
  rfl

/-- what both answer -/
def merging (rows : List Row) (rules : List Int) : (Row × List Int) × Int :=
  if rowsErr rows ≠ 0 then ((⟨0, []⟩, []), rowsErr rows)
  else if rules.length ≠ (rows[0]?.map (·.Values.length)).getD 0 then ((⟨0, []⟩, []), 6)
  else if okRows 0 rows = false ∨ rules.all okRule = false then ((⟨0, []⟩, []), 1)
  else ((⟨(rows[0]?.map (·.ID)).getD 0, (mergedV rows rules).1⟩, (mergedV rows rules).2), 0)
theorem any_not_all {α : Type} (p : α → Bool) (l : List α) : (l.any fun x => !p x) = !l.all p := by simp [List.all_eq_not_any_not]
theorem Merge_eq (rows : List Row) (rules : List Int) (H : RowsOk rows) (hr : rules.length ≤ 1048576) : survivor_Merge rows rules = some ((merging rows rules).1.1, (merging rows rules).1.2, (merging rows rules).2) := by
  simp only [survivor_Merge, checkRows_eq rows H.len, Option.bind_some, merging]
  by_cases h1 : rowsErr rows = 0
  · obtain ⟨hne, _⟩ := rowsErr_zero h1
    obtain ⟨r0, rs, hrows⟩ : ∃ r l, rows = r :: l := by cases rows with | nil => exact absurd rfl hne | cons r l => exact ⟨r, l, rfl⟩
    have h0 : rows[0]? = some r0 := by rw [hrows]; rfl
    simp only [h1, h0, Option.bind_some, Option.map_some, Option.getD_some]
    by_cases h2 : rules.length = r0.Values.length
    · have ha : ∀ a, a < rules.length → Has rows a := fun a h => has_of h1 h0 (by omega)
      have hcf : slices_ContainsFunc_int rules (fun y => survivor_Merge_1 y) = some (!rules.all okRule) := by
        rw [← any_not_all]
        exact ContainsFunc_int_eq _ _ _ (fun y _ => by simp [survivor_Merge_1, validRule_eq, okRule]) (by omega)
      simp only [checkValues_eq rows H.len H.vals, hcf, merge_loop rows rules hne H.len hr ha, Option.bind_some]
      by_cases h4 : okRows 0 rows = true
      · by_cases h5 : rules.all okRule = true
        · simp [h2, h4, h5]
        · simp only [Bool.not_eq_true] at h5; simp [h2, h4, h5]
      · simp [h2, h4]
    · have h2' : ¬ ((rules.length : Int) = r0.Values.length) := by omega
      simp [h2, h2']
  · simp [h1]
def exRows : List Row := [⟨3, [⟨2, 0, [74, 111]⟩, ⟨0, 0, []⟩]⟩, ⟨4, [⟨2, 0, [74, 111, 101]⟩, ⟨1, 7, []⟩]⟩, ⟨9, [⟨2, 0, [74, 111]⟩, ⟨1, 8, []⟩]⟩]
theorem example_eq : drosslaw55_example = some exRows := by
  simp only [drosslaw55_example, drosslaw55_example_1, drosslaw55_example_2, Option.bind_some, exRows]
theorem exOk : RowsOk exRows := by
  refine ⟨by decide, ?_, ?_⟩
  · intro r hr
    have : ∀ r ∈ exRows, r.Values.length ≤ 2 := by decide
    have := this r hr; omega
  · intro r hr v hv
    have : ∀ r ∈ exRows, ∀ v ∈ r.Values, v.Str.length ≤ 3 := by decide
    have := this r hr v hv; omega
theorem awake_true : drosslaw55_awake = some true := by
  have e1 : choice exRows 0 3 = (⟨2, 0, [74, 111, 101]⟩, 4, 0) := by decide
  have e2 : merging exRows [2, 1] = ((⟨3, [⟨2, 0, [74, 111]⟩, ⟨1, 7, []⟩]⟩, [3, 4]), 0) := by decide
  simp only [drosslaw55_awake, example_eq, Option.bind_some, Choose_eq exRows 0 3 exOk, Merge_eq exRows [2, 1] exOk (by decide), e1, e2, IDs_eq [3, 4] [3, 4] (by decide)]
  decide
end Go.Proofs.YtdmddoljldjjeaaGreat
/- Tables: names, validity, finding a row. -/
set_option linter.unusedVariables false
set_option linter.unusedSimpArgs false
namespace Go.Proofs.YtdmddoljldjjeaaGreat
open Go Go.Ab

def letter (c : Int) : Bool := (decide (97 ≤ c) && decide (c ≤ 122)) || ((decide (65 ≤ c) && decide (c ≤ 90)) || c == 95)
theorem letter_eq (c : Int) : drossref03_letter c = some (letter c) := by
  simp only [drossref03_letter, letter]
  by_cases h1 : 97 ≤ c <;> by_cases h2 : c ≤ 122 <;> by_cases h3 : 65 ≤ c <;> by_cases h4 : c ≤ 90 <;> simp [h1, h2, h3, h4]
def lod (c : UInt8) : Bool := letter c.toNat || (decide (48 ≤ (c.toNat : Int)) && decide ((c.toNat : Int) ≤ 57))
def nameB : List UInt8 → Bool
  | [] => false
  | c :: r => decide (r.length < 24) && letter c.toNat && !((c :: r) == [110, 117, 108, 108]) && r.all lod
theorem Name_eq (s : List UInt8) : drossref03_Name s = some (nameB s) := by
  cases s with
  | nil => rfl
  | cons c r =>
    have hn : ¬ ((((c :: r).length : Int) == 0) = true) := by simp; omega
    simp only [drossref03_Name, if_neg hn]
    by_cases h24 : ((c :: r).length : Int) > 24
    · have : ¬ r.length < 24 := by simp at h24; omega
      rw [if_pos h24]; simp [nameB, this]
    · have h24' : r.length < 24 := by simp at h24; omega
      rw [if_neg h24]
      simp only [List.getElem?_cons_zero, Option.bind_some, letter_eq]
      by_cases hl : letter c.toNat = true
      · simp only [hl, if_true]
        by_cases hnull : ((c :: r) == [110, 117, 108, 108]) = true
        · simp only [hnull, if_true, nameB]; simp
        · simp only [Bool.not_eq_true] at hnull
          have h := LoopF_all (c :: r) (drossref03_Name_l1 (c :: r)) lod false
            (fun k x hx hk hp => by
              simp only [drossref03_Name_l1, if_pos (lt_true hx), idx_get hx, Option.bind_some, letter_eq, wrap_succ hk (by simp; omega)]
              by_cases hx1 : letter x.toNat = true
              · simp [hx1]
              · simp only [Bool.not_eq_true] at hx1
                simp only [lod, hx1, Bool.false_or, Bool.and_eq_true, decide_eq_true_eq] at hp
                have e1 : ¬ (x.toNat : Int) < 48 := by omega
                have e2 : ¬ (x.toNat : Int) > 57 := by omega
                simp [hx1, e1, e2])
            (fun k x hx hp => by
              simp only [drossref03_Name_l1, if_pos (lt_true hx), idx_get hx, Option.bind_some, letter_eq]
              simp only [lod, Bool.or_eq_false_iff, Bool.and_eq_false_iff, decide_eq_false_iff_not] at hp
              simp only [hp.1, Bool.false_eq_true, if_false]
              by_cases e1 : (x.toNat : Int) < 48
              · simp [e1]
              · have e2 : (x.toNat : Int) > 57 := by omega
                simp [e1, e2])
            (by simp [drossref03_Name_l1])
          simp only [hnull, Bool.false_eq_true, if_false, h, Option.bind_some]
          have hlc : lod c = true := by simp [lod, hl]
          simp only [List.all_cons, hlc, Bool.true_and, nameB, h24', decide_true, hl, hnull, Bool.not_false]
          cases r.all lod <;> rfl
      · simp only [Bool.not_eq_true] at hl
        simp [hl, nameB]
theorem isName_eq (s : List UInt8) : table_isName s = some (nameB s) := by
  cases s with
  | nil => rfl
  | cons c r =>
    have hn : ¬ (((c :: r) == []) = true) := by simp
    simp only [table_isName, if_neg hn]
    by_cases h24 : ((c :: r).length : Int) > 24
    · have : ¬ r.length < 24 := by simp at h24; omega
      rw [if_pos h24]; simp [nameB, this]
    · have h24' : r.length < 24 := by simp at h24; omega
      rw [if_neg h24]
      by_cases hnull : ((c :: r) == [110, 117, 108, 108]) = true
      · simp only [hnull, if_true, nameB]; simp
      · simp only [Bool.not_eq_true] at hnull
        have hlet : ∀ x : UInt8, (show Option Bool from
            if ((x.toNat : Nat) : Int) ≥ 97 then
              if ((x.toNat : Nat) : Int) ≤ 122 then some true
              else if ((x.toNat : Nat) : Int) ≥ 65 then if ((x.toNat : Nat) : Int) ≤ 90 then some true else some (((x.toNat : Nat) : Int) == 95) else some (((x.toNat : Nat) : Int) == 95)
            else if ((x.toNat : Nat) : Int) ≥ 65 then if ((x.toNat : Nat) : Int) ≤ 90 then some true else some (((x.toNat : Nat) : Int) == 95) else some (((x.toNat : Nat) : Int) == 95)) = some (letter x.toNat) := fun x => letter_eq x.toNat
        have h := LoopF_allk (c :: r) (table_isName_l1 (c :: r)) (fun k x => letter x.toNat || (decide (k ≠ 0) && (decide (48 ≤ (x.toNat : Int)) && decide ((x.toNat : Int) ≤ 57)))) false
          (fun k x hx hk hp => by
            simp only [table_isName_l1, if_pos (lt_true hx), idx_get hx, Option.bind_some, hlet, wrap_succ hk (by simp; omega)]
            by_cases hx1 : letter x.toNat = true
            · simp [hx1]
            · simp only [Bool.not_eq_true] at hx1
              simp only [hx1, Bool.false_or, Bool.and_eq_true, decide_eq_true_eq] at hp
              have e0 : ¬ (((k : Int) == 0) = true) := by simp; omega
              have e1 : ¬ (x.toNat : Int) < 48 := by omega
              have e2 : ¬ (x.toNat : Int) > 57 := by omega
              simp [hx1, e0, e1, e2])
          (fun k x hx hp => by
            simp only [table_isName_l1, if_pos (lt_true hx), idx_get hx, Option.bind_some, hlet]
            simp only [Bool.or_eq_false_iff, Bool.and_eq_false_iff, decide_eq_false_iff_not] at hp
            simp only [hp.1, Bool.false_eq_true, if_false]
            by_cases e0 : k = 0
            · simp [e0]
            · have e0' : ¬ (((k : Int) == 0) = true) := by simp; omega
              by_cases e1 : (x.toNat : Int) < 48
              · simp [e1]
              · have e2 : (x.toNat : Int) > 57 := by
                  rcases hp.2 with h | h | h
                  · exact absurd e0 h
                  · omega
                  · omega
                simp [e1, e2])
          (by simp [table_isName_l1]) (c :: r) 0 rfl (Nat.zero_le _)
        simp only [Int.natCast_zero] at h
        simp only [hnull, Bool.false_eq_true, if_false, h, Option.bind_some]
        have e : allFrom (fun k x => letter x.toNat || (decide (k ≠ 0) && (decide (48 ≤ (x.toNat : Int)) && decide ((x.toNat : Int) ≤ 57)))) 0 (c :: r) = (letter c.toNat && r.all lod) := by
          simp only [allFrom]
          rw [allFrom_congr (q := fun _ x => lod x) r 1 (fun j x hj _ => by
            have hj0 : j ≠ 0 := by omega
            simp [lod, hj0]), allFrom_all]
          simp
        rw [e]
        simp only [nameB, h24', decide_true, Bool.true_and, hnull, Bool.not_false, Bool.and_true]
        cases letter c.toNat <;> cases r.all lod <;> rfl

def posI : Option Nat → Int
  | some i => i
  | none => -1
theorem posI_any {α : Type} (p : α → Bool) (l : List α) : decide (posI (l.findIdx? p) ≥ 0) = l.any p := by
  rw [← findIdx_any]
  cases l.findIdx? p <;> rfl
theorem Index_string_eq (l : List (List UInt8)) (s : List UInt8) (hl : l.length ≤ 1073741824) : slices_Index_string l s = some (posI (l.findIdx? (fun x => s == x))) := by
  have h := LoopF_find l (slices_Index_string_l1 l s) (fun x => s == x)
    (fun k x hx hk hp => by simp only [slices_Index_string_l1, if_pos (lt_true hx), idx_get hx, Option.bind_some, hp, Bool.false_eq_true, if_false, if_true, wrap_succ hk (show l.length ≤ 4611686018427387904 by omega)])
    (fun k x hx hp => by simp only [slices_Index_string_l1, if_pos (lt_true hx), idx_get hx, Option.bind_some, hp, if_true])
    (by simp [slices_Index_string_l1])
  simp only [slices_Index_string, h, Option.bind_some]
  cases l.findIdx? (fun x => s == x) <;> rfl
theorem Contains_string_eq (l : List (List UInt8)) (s : List UInt8) (hl : l.length ≤ 1073741824) : slices_Contains_string l s = some (l.any fun x => s == x) := by
  simp only [slices_Contains_string, Index_string_eq l s hl, Option.bind_some]
  exact congrArg some (posI_any _ l)
theorem Attr_eq (l : List (List UInt8)) (s : List UInt8) (hl : l.length ≤ 1073741824) : drossref03_Attr l s = some (posI (l.findIdx? (fun x => x == s))) := by
  have h := LoopF_find l (drossref03_Attr_l1 l s) (fun x => x == s)
    (fun k x hx hk hp => by simp only [drossref03_Attr_l1, if_pos (lt_true hx), idx_get hx, Option.bind_some, hp, Bool.false_eq_true, if_false, if_true, wrap_succ hk (show l.length ≤ 4611686018427387904 by omega)])
    (fun k x hx hp => by simp only [drossref03_Attr_l1, if_pos (lt_true hx), idx_get hx, Option.bind_some, hp, if_true])
    (by simp [drossref03_Attr_l1])
  simp only [drossref03_Attr, h, Option.bind_some]
  cases l.findIdx? (fun x => x == s) <;> rfl

def namesB (l : List (List UInt8)) : Bool := allFrom (fun k x => nameB x && !(l.take k).any fun y => x == y) 0 l
theorem Names_eq (l : List (List UInt8)) (hl : l.length ≤ 1073741824) : drossref03_Names l = some (namesB l) := by
  have key : ∀ (k : Nat) (x : List UInt8), k < l.length → drossref03_Attr (l.take ((k : Int).toNat)) x = some (posI ((l.take k).findIdx? (fun y => y == x))) := by
    intro k x hk
    rw [Int.toNat_natCast]
    exact Attr_eq _ _ (by simp; omega)
  have any_sym : ∀ (k : Nat) (x : List UInt8), ((l.take k).any fun y => y == x) = (l.take k).any fun y => x == y := by
    intro k x
    congr 1
    funext y
    rw [Bool.eq_iff_iff, beq_iff_eq, beq_iff_eq]; exact eq_comm
  have h := LoopF_allk l (drossref03_Names_l1 l) (fun k x => nameB x && !(l.take k).any fun y => x == y) false
    (fun k x hx hk hp => by
      simp only [Bool.and_eq_true, Bool.not_eq_true'] at hp
      have hany := posI_any (fun y => y == x) (l.take k)
      rw [any_sym, hp.2] at hany
      have h0 : ((0 : Int) ≤ (k : Int)) := by omega
      have h1 : ((k : Int) ≤ (l.length : Int)) := by omega
      simp only [drossref03_Names_l1, if_pos (lt_true hx), idx_get hx, Option.bind_some, Name_eq, hp.1, if_true, if_pos h0, if_pos h1, key k x hk, if_neg (of_decide_eq_false hany), wrap_succ hk (show l.length ≤ 4611686018427387904 by omega)])
    (fun k x hx hp => by
      have hk := lt_of_get hx
      have h0 : ((0 : Int) ≤ (k : Int)) := by omega
      have h1 : ((k : Int) ≤ (l.length : Int)) := by omega
      simp only [drossref03_Names_l1, if_pos (lt_true hx), idx_get hx, Option.bind_some, Name_eq, if_pos h0, if_pos h1, key k x hk]
      rcases Bool.eq_false_or_eq_true (nameB x) with hn | hn
      · simp only [hn, Bool.true_and, Bool.not_eq_false'] at hp
        have hany := posI_any (fun y => y == x) (l.take k)
        rw [any_sym, hp] at hany
        simp only [hn, if_true, if_pos (of_decide_eq_true hany)]
      · simp [hn])
    (by simp [drossref03_Names_l1]) l 0 rfl (Nat.zero_le _)
  simp only [Int.natCast_zero] at h
  simp only [drossref03_Names, h, Option.bind_some]
  unfold namesB
  cases allFrom (fun k x => nameB x && !(l.take k).any fun y => x == y) 0 l <;> rfl

def rowsCode (n : Nat) : Int → List Row → Int
  | _, [] => 0
  | a, r :: l => if r.ID ≤ a then 1 else if r.Values.length ≠ n then 6 else if r.Values.all valid then rowsCode n r.ID l else 1
def tableErr (t : Table) : Int :=
  if nameB t.Name = false then 1 else if t.Attrs.length > 16 then 3 else if t.Rows.length > 1000 then 3 else if namesB t.Attrs = false then 1 else rowsCode t.Attrs.length 0 t.Rows
theorem validValues_eq (l : List Value) (hl : l.length ≤ 1073741824) : table_validValues l = some (l.all valid) := by
  simp only [table_validValues, ContainsFunc_Value_eq l (fun y => table_validValues_1 y) (fun v => !valid v) (fun y _ => by simp [table_validValues_1, value_Valid_eq]) hl, Option.bind_some, any_not_all, Bool.not_not]

theorem rows_loop {B : Int × Int → Option (LS (Int × Int) (Unit ⊕ Int))} (rows : List Row) (n : Nat)
    (hB : ∀ (k : Nat) (a : Int) x, rows[k]? = some x → k < rows.length → B (a, (k : Int)) = if x.ID ≤ a then some (.done (.inr 1)) else if x.Values.length ≠ n then some (.done (.inr 6)) else if x.Values.all valid then some (.next (x.ID, ((k + 1 : Nat) : Int))) else some (.done (.inr 1)))
    (hE : ∀ a, B (a, (rows.length : Int)) = some (.done (.inl ()))) : ∀ (r : List Row) (k : Nat) (a : Int), rows.drop k = r → k ≤ rows.length → ∃ o, LoopF B (a, (k : Int)) = some o ∧ (match o with | .inl () => rowsCode n a r = 0 | .inr z => rowsCode n a r = z ∧ z ≠ 0) := by
  intro r
  induction r with
  | nil =>
    intro k a hd hk
    have : k = rows.length := by
      have := congrArg List.length hd
      simp at this; omega
    subst this
    exact ⟨.inl (), Loop_done (hE a), rfl⟩
  | cons x r ih =>
    intro k a hd hk
    have hx : rows[k]? = some x := by
      have := congrArg (·[0]?) hd
      simpa [List.getElem?_drop] using this
    have hd' : rows.drop (k + 1) = r := by rw [← List.drop_drop, hd]; rfl
    have hlt := lt_of_get hx
    have hb := hB k a x hx hlt
    by_cases h1 : x.ID ≤ a
    · rw [if_pos h1] at hb
      exact ⟨_, Loop_done hb, by simp [rowsCode, h1]⟩
    · rw [if_neg h1] at hb
      by_cases h2 : x.Values.length ≠ n
      · rw [if_pos h2] at hb
        exact ⟨_, Loop_done hb, by simp [rowsCode, h1, h2]⟩
      · rw [if_neg h2] at hb
        by_cases h3 : x.Values.all valid = true
        · rw [if_pos h3] at hb
          obtain ⟨o, h4, h5⟩ := ih (k + 1) x.ID hd' hlt
          refine ⟨o, by rw [Loop_next hb]; exact h4, ?_⟩
          have e : rowsCode n a (x :: r) = rowsCode n x.ID r := by
            simp only [rowsCode, if_neg h1, if_neg h2, if_pos h3]
          rw [e]; exact h5
        · rw [if_neg h3] at hb
          exact ⟨_, Loop_done hb, by simp only [rowsCode, if_neg h1, if_neg h2, if_neg h3]; exact ⟨trivial, by omega⟩⟩

structure TabOk (t : Table) : Prop where
  attrs : t.Attrs.length ≤ 1073741824
  rows : t.Rows.length ≤ 1073741824
  vals : ∀ r ∈ t.Rows, r.Values.length ≤ 1073741824
  short : Short t.Rows
theorem ref_Valid_table (t : Table) (H : TabOk t) : drossref03_Valid t = some (tableErr t) := by
  simp only [drossref03_Valid, Name_eq, Option.bind_some, tableErr]
  by_cases h1 : nameB t.Name = true
  · by_cases h2 : t.Attrs.length > 16
    · have : (t.Attrs.length : Int) > 16 := by omega
      simp [h1, h2, this]
    · have h2' : ¬ (t.Attrs.length : Int) > 16 := by omega
      by_cases h3 : t.Rows.length > 1000
      · have : (t.Rows.length : Int) > 1000 := by omega
        simp [h1, h2, h2', h3, this]
      · have h3' : ¬ (t.Rows.length : Int) > 1000 := by omega
        simp only [h1, if_true, if_neg h2', if_neg h3', Names_eq t.Attrs H.attrs, Option.bind_some, Bool.true_eq_false, if_false, if_neg h2, if_neg h3]
        by_cases h4 : namesB t.Attrs = true
        · obtain ⟨o, h5, h6⟩ := rows_loop (B := drossref03_Valid_l1 t) t.Rows t.Attrs.length (fun k a x hx hk => by
              simp only [drossref03_Valid_l1, if_pos (lt_true hx), idx_get hx, Option.bind_some, ref_Valids_eq _ (H.vals x (List.mem_of_getElem? hx)), wrap_succ hk (show t.Rows.length ≤ 4611686018427387904 by have := H.rows; omega)]
              by_cases e1 : x.ID ≤ a
              · simp [e1]
              · by_cases e2 : x.Values.length = t.Attrs.length
                · simp [e1, e2]
                · have : ¬ ((x.Values.length : Int) = t.Attrs.length) := by omega
                  simp [e1, e2, this]) (fun a => by simp [drossref03_Valid_l1]) t.Rows 0 0 rfl (Nat.zero_le _)
          simp only [Int.natCast_zero] at h5
          simp only [h4, if_true, h5, Option.bind_some, Bool.true_eq_false, if_false]
          cases o with
          | inl u => simp only at h6 ⊢; rw [h6]
          | inr z => simp only at h6 ⊢; rw [h6.1]
        · simp only [Bool.not_eq_true] at h4
          simp [h4]
  · simp only [Bool.not_eq_true] at h1
    simp [h1]

theorem table_Valid_table (t : Table) (H : TabOk t) : table_Valid t = some (tableErr t) := by
  simp only [table_Valid, isName_eq, Option.bind_some, tableErr]
  by_cases h1 : nameB t.Name = true
  · by_cases h2 : t.Attrs.length > 16
    · have : (t.Attrs.length : Int) > 16 := by omega
      simp [h1, h2, this]
    · have h2' : ¬ (t.Attrs.length : Int) > 16 := by omega
      by_cases h3 : t.Rows.length > 1000
      · have : (t.Rows.length : Int) > 1000 := by omega
        simp [h1, h2, h2', h3, this]
      · have h3' : ¬ (t.Rows.length : Int) > 1000 := by omega
        have hN := LoopF_allk t.Attrs (table_Valid_l1 t) (fun k x => nameB x && !(t.Attrs.take k).any fun y => x == y) 1
          (fun k x hx hk hp => by
            simp only [Bool.and_eq_true, Bool.not_eq_true'] at hp
            have h0 : ((0 : Int) ≤ (k : Int)) := by omega
            have h1 : ((k : Int) ≤ (t.Attrs.length : Int)) := by omega
            have hA := H.attrs
            simp only [table_Valid_l1, if_pos (lt_true hx), idx_get hx, Option.bind_some, isName_eq, hp.1, if_true, if_pos h0, if_pos h1, Int.toNat_natCast, Contains_string_eq _ x (show (t.Attrs.take k).length ≤ 1073741824 by simp; omega), hp.2, Bool.false_eq_true, if_false,
              wrap_succ hk (show t.Attrs.length ≤ 4611686018427387904 by omega)])
          (fun k x hx hp => by
            have hk := lt_of_get hx
            have h0 : ((0 : Int) ≤ (k : Int)) := by omega
            have h1 : ((k : Int) ≤ (t.Attrs.length : Int)) := by omega
            have hA := H.attrs
            simp only [table_Valid_l1, if_pos (lt_true hx), idx_get hx, Option.bind_some, isName_eq, if_pos h0, if_pos h1, Int.toNat_natCast, Contains_string_eq _ x (show (t.Attrs.take k).length ≤ 1073741824 by simp; omega)]
            rcases Bool.eq_false_or_eq_true (nameB x) with hn | hn
            · simp only [hn, Bool.true_and, Bool.not_eq_false'] at hp
              simp only [hn, if_true, hp]
            · simp [hn])
          (by simp [table_Valid_l1]) t.Attrs 0 rfl (Nat.zero_le _)
        simp only [Int.natCast_zero] at hN
        simp only [h1, if_true, if_neg h2', if_neg h3', hN, Option.bind_some, Bool.true_eq_false, if_false, if_neg h2, if_neg h3]
        have hNe : namesB t.Attrs = allFrom (fun k x => nameB x && !(t.Attrs.take k).any fun y => x == y) 0 t.Attrs := rfl
        rw [← hNe]
        by_cases h4 : namesB t.Attrs = true
        · obtain ⟨o, h5, h6⟩ := rows_loop (B := table_Valid_l2 t) t.Rows t.Attrs.length (fun k a x hx hk => by
              simp only [table_Valid_l2, if_pos (lt_true hx), idx_get hx, Option.bind_some, validValues_eq _ (H.vals x (List.mem_of_getElem? hx)), wrap_succ hk (show t.Rows.length ≤ 4611686018427387904 by have := H.rows; omega)]
              by_cases e1 : x.ID ≤ a
              · simp [e1]
              · by_cases e2 : x.Values.length = t.Attrs.length
                · simp [e1, e2]
                · have : ¬ ((x.Values.length : Int) = t.Attrs.length) := by omega
                  simp [e1, e2, this]) (fun a => by simp [table_Valid_l2]) t.Rows 0 0 rfl (Nat.zero_le _)
          simp only [Int.natCast_zero] at h5
          simp only [h4, if_true, h5, Option.bind_some, Bool.true_eq_false, if_false]
          cases o with
          | inl u => simp only at h6 ⊢; rw [h6]
          | inr z => simp only at h6 ⊢; rw [h6.1]
        · simp only [Bool.not_eq_true] at h4
          simp [h4]
  · simp only [Bool.not_eq_true] at h1
    simp [h1]

/-- the place of a row -/
def findB (t : Table) (id : Int) : Int × Bool := match t.Rows.findIdx? (fun r => r.ID == id) with | some i => ((i : Int), true) | none => (0, false)
theorem table_Find_eq (t : Table) (id : Int) (H : t.Rows.length ≤ 1073741824) : table_Find t id = some (findB t id) := by
  simp only [table_Find, IndexFunc_Row_eq t.Rows (fun y => table_Find_1 y id) (fun r => r.ID == id) (fun y _ => rfl) H, Option.bind_some, findB]
  cases t.Rows.findIdx? (fun r => r.ID == id) with
  | none => simp
  | some i =>
    have : ¬ (0 > (i : Int)) := by omega
    simp [this]
theorem ref_Find_eq (t : Table) (id : Int) (H : t.Rows.length ≤ 1073741824) : drossref03_Find t id = some (findB t id) := by
  have key : ∀ (r : List Row) (k : Nat), t.Rows.drop k = r → k ≤ t.Rows.length → LoopF (drossref03_Find_l1 t id) (k : Int) = some (match r.findIdx? (fun r => r.ID == id) with | some i => .inr (((k + i : Nat) : Int), true) | none => .inl ()) := by
    intro r
    induction r with
    | nil =>
      intro k hd hk
      have : k = t.Rows.length := by
        have := congrArg List.length hd
        simp at this; omega
      subst this
      exact Loop_done (by simp [drossref03_Find_l1])
    | cons x r ih =>
      intro k hd hk
      have hx : t.Rows[k]? = some x := by
        have := congrArg (·[0]?) hd
        simpa [List.getElem?_drop] using this
      have hd' : t.Rows.drop (k + 1) = r := by rw [← List.drop_drop, hd]; rfl
      have hlt := lt_of_get hx
      by_cases hp : (x.ID == id) = true
      · rw [Loop_done (t := .inr ((k : Int), true)) (by simp only [drossref03_Find_l1, if_pos (lt_true hx), idx_get hx, Option.bind_some, if_pos hp])]
        simp [List.findIdx?_cons, hp]
      · rw [Loop_next (s' := ((k + 1 : Nat) : Int)) (by simp only [drossref03_Find_l1, if_pos (lt_true hx), idx_get hx, Option.bind_some, if_neg hp, wrap_succ hlt (show t.Rows.length ≤ 4611686018427387904 by omega)]), ih (k + 1) hd' hlt]
        simp only [Bool.not_eq_true] at hp
        simp only [List.findIdx?_cons, hp]
        cases r.findIdx? (fun r => r.ID == id) with
        | none => rfl
        | some i => simp; omega
  have h := key t.Rows 0 rfl (Nat.zero_le _)
  simp only [Int.natCast_zero] at h
  simp only [drossref03_Find, h, Option.bind_some, findB]
  cases t.Rows.findIdx? (fun r => r.ID == id) <;> simp
end Go.Proofs.YtdmddoljldjjeaaGreat
/- Well-formed merged tables. -/
set_option linter.unusedVariables false
set_option linter.unusedSimpArgs false
namespace Go.Proofs.YtdmddoljldjjeaaGreat
open Go Go.Ab

theorem LoopF_allS {α ρ : Type} (s : Nat) (l : List α) (B : Int → Option (LS Int (Unit ⊕ ρ))) (p : Nat → α → Bool) (bad : ρ)
    (h1 : ∀ (k : Nat) x, s ≤ k → l[k]? = some x → k < l.length → p k x = true → B k = some (.next (k + 1 : Nat))) (h2 : ∀ (k : Nat) x, s ≤ k → l[k]? = some x → p k x = false → B k = some (.done (.inr bad)))
    (h3 : ∀ k : Nat, s ≤ k → l.length ≤ k → B k = some (.done (.inl ()))) :
    ∀ (r : List α) (k : Nat), s ≤ k → l.drop k = r → LoopF B (k : Int) = some (if allFrom p k r then .inl () else .inr bad) := by
  intro r
  induction r with
  | nil =>
    intro k hs hd
    have : l.length ≤ k := by
      have := congrArg List.length hd
      simp at this; omega
    exact Loop_done (h3 k hs this)
  | cons x r ih =>
    intro k hs hd
    have hx : l[k]? = some x := by
      have := congrArg (·[0]?) hd
      simpa [List.getElem?_drop] using this
    have hd' : l.drop (k + 1) = r := by rw [← List.drop_drop, hd]; rfl
    rcases Bool.eq_false_or_eq_true (p k x) with hp | hp
    · rw [Loop_next (h1 k x hs hx (lt_of_get hx) hp), ih (k + 1) (by omega) hd']
      simp [allFrom, hp]
    · rw [Loop_done (h2 k x hs hx hp)]
      simp [allFrom, hp]
theorem allFrom_get {α : Type} {p : Nat → α → Bool} : ∀ {l : List α} {k : Nat}, allFrom p k l = true → ∀ {j : Nat} {x : α}, l[j]? = some x → p (k + j) x = true
  | [], _, _, j, x, hx => by simp at hx
  | y :: r, k, h, j, x, hx => by
    simp only [allFrom, Bool.and_eq_true] at h
    cases j with
    | zero => simp at hx; subst hx; exact h.1
    | succ j =>
      have := allFrom_get h.2 (j := j) (x := x) (by simpa using hx)
      rw [show k + (j + 1) = k + 1 + j by omega]; exact this

def ascB (l : List Int) : Bool := allFrom (fun k x => decide (l.getD (k - 1) 0 < x)) 1 (l.drop 1) && decide (0 < l.length)
theorem ascending_eq (l : List Int) (hl : l.length ≤ 1073741824) : survivor_ascending l = some (ascB l) := by
  have h := LoopF_allS 1 l (survivor_ascending_l1 l) (fun k x => decide (l.getD (k - 1) 0 < x)) false
    (fun k x hs hx hk hp => by
      have e : IntKind.i64.wrap ((k : Int) - 1) = ((k - 1 : Nat) : Int) := by rw [wrap_i64 (by omega) (by omega)]; omega
      obtain ⟨y, hy⟩ : ∃ y, l[k - 1]? = some y := ⟨_, List.getElem?_eq_getElem (by omega)⟩
      have hg : l.getD (k - 1) 0 = y := by simp [List.getD, hy]
      rw [hg, decide_eq_true_eq] at hp
      have : ¬ x ≤ y := by omega
      simp only [survivor_ascending_l1, if_pos (lt_true hx), idx_get hx, Option.bind_some, e, idx_get hy, if_neg this, wrap_succ hk (show l.length ≤ 4611686018427387904 by omega)])
    (fun k x hs hx hp => by
      have hk := lt_of_get hx
      have e : IntKind.i64.wrap ((k : Int) - 1) = ((k - 1 : Nat) : Int) := by rw [wrap_i64 (by omega) (by omega)]; omega
      obtain ⟨y, hy⟩ : ∃ y, l[k - 1]? = some y := ⟨_, List.getElem?_eq_getElem (by omega)⟩
      have hg : l.getD (k - 1) 0 = y := by simp [List.getD, hy]
      rw [hg, decide_eq_false_iff_not] at hp
      have : x ≤ y := by omega
      simp only [survivor_ascending_l1, if_pos (lt_true hx), idx_get hx, Option.bind_some, e, idx_get hy, if_pos this])
    (fun k hs hk => by
      have : ¬ ((k : Int) < (l.length : Int)) := by omega
      simp only [survivor_ascending_l1, if_neg this]) (l.drop 1) 1 (Nat.le_refl _) rfl
  have h' : LoopF (survivor_ascending_l1 l) 1 = _ := h
  simp only [survivor_ascending, h', Option.bind_some, ascB]
  have e : decide ((l.length : Int) > 0) = decide (0 < l.length) := by rw [Bool.eq_iff_iff]; simp
  cases allFrom (fun k x => decide (l.getD (k - 1) 0 < x)) 1 (l.drop 1) <;> simp [e]
theorem Cluster_eq (l : List Int) (hl : l.length ≤ 1073741824) : drossref55_Cluster l = some (ascB l) := ascending_eq l hl
theorem asc_lt {l : List Int} (h : ascB l = true) : ∀ (j k : Nat) {x y : Int}, j < k → l[j]? = some x → l[k]? = some y → x < y := by
  simp only [ascB, Bool.and_eq_true] at h
  have step : ∀ (k : Nat) {x y : Int}, l[k]? = some x → l[k + 1]? = some y → x < y := by
    intro k x y hx hy
    have := allFrom_get h.1 (j := k) (x := y) (by rw [List.getElem?_drop, Nat.add_comm]; exact hy)
    simp only [Nat.add_sub_cancel_left, decide_eq_true_eq, List.getD, hx, Option.getD_some] at this
    exact this
  intro j k
  induction k with
  | zero => intro x y hjk; omega
  | succ k ih =>
    intro x y hjk hx hy
    by_cases e : j = k
    · subst e; exact step j hx hy
    · obtain ⟨z, hz⟩ : ∃ z, l[k]? = some z := ⟨_, List.getElem?_eq_getElem (by have := lt_of_get hy; omega)⟩
      have := ih (by omega) hx hz
      have := step k hz hy
      omega
theorem asc_take {l : List Int} (h : ascB l = true) {k : Nat} {x : Int} (hx : l[k]? = some x) : x ∉ l.take k := by
  intro hm
  obtain ⟨j, hj⟩ := List.mem_iff_getElem?.1 hm
  rw [List.getElem?_take] at hj
  split at hj
  · rename_i hlt
    have := asc_lt h j k hlt hj hx
    omega
  · cases hj
theorem asc_ne {l : List Int} (h : ascB l = true) : l ≠ [] := by
  simp only [ascB, Bool.and_eq_true, decide_eq_true_eq] at h
  intro e; rw [e] at h; exact absurd h.2 (by simp)

theorem Has_eq (l : List Int) (x : Int) (hl : l.length ≤ 4611686018427387904) : drossref03_Has l x = some (decide (x ∈ l)) := by
  have h := LoopF_all l (drossref03_Has_l1 l x) (fun y => !(y == x)) true
    (fun k y hx hk hp => by
      simp only [Bool.not_eq_true'] at hp
      simp only [drossref03_Has_l1, if_pos (lt_true hx), idx_get hx, Option.bind_some, hp, Bool.false_eq_true, if_false, wrap_succ hk hl])
    (fun k y hx hp => by
      simp only [Bool.not_eq_false'] at hp
      simp only [drossref03_Has_l1, if_pos (lt_true hx), idx_get hx, Option.bind_some, hp, if_true])
    (by simp [drossref03_Has_l1])
  simp only [drossref03_Has, h, Option.bind_some]
  by_cases hm : x ∈ l
  · have : l.all (fun y => !(y == x)) = false := by rw [List.all_eq_false]; exact ⟨x, hm, by simp⟩
    simp [this, hm]
  · have : l.all (fun y => !(y == x)) = true := by
      rw [List.all_eq_true]
      intro y hy
      simp only [Bool.not_eq_true', beq_eq_false_iff_ne]
      intro e; rw [e] at hy; exact hm hy
    simp [this, hm]
theorem Index_int64_eq (l : List Int) (x : Int) (hl : l.length ≤ 1073741824) : slices_Index_int64 l x = some (posI (l.findIdx? (fun y => x == y))) := by
  have h := LoopF_find l (slices_Index_int64_l1 l x) (fun y => x == y)
    (fun k y hx hk hp => by simp only [slices_Index_int64_l1, if_pos (lt_true hx), idx_get hx, Option.bind_some, hp, Bool.false_eq_true, if_false, if_true, wrap_succ hk (show l.length ≤ 4611686018427387904 by omega)])
    (fun k y hx hp => by simp only [slices_Index_int64_l1, if_pos (lt_true hx), idx_get hx, Option.bind_some, hp, if_true])
    (by simp [slices_Index_int64_l1])
  simp only [slices_Index_int64, h, Option.bind_some]
  cases l.findIdx? (fun y => x == y) <;> rfl
theorem Contains_int64_eq (l : List Int) (x : Int) (hl : l.length ≤ 1073741824) : slices_Contains_int64 l x = some (decide (x ∈ l)) := by
  simp only [slices_Contains_int64, Index_int64_eq l x hl, Option.bind_some]
  rw [posI_any]
  congr 1
  rw [Bool.eq_iff_iff]
  simp
theorem IndexFunc_int64_eq (l : List Int) (f : Int → Option Bool) (p : Int → Bool) (hf : ∀ x ∈ l, f x = some (p x)) (hl : l.length ≤ 1073741824) : slices_IndexFunc_int64 l f = some (posI (l.findIdx? p)) := by
  have h := LoopF_find l (slices_IndexFunc_int64_l1 l f) p
    (fun k x hx hk hp => by simp [slices_IndexFunc_int64_l1, lt_true hx, idx_get hx, hf x (List.mem_of_getElem? hx), hp, wrap_succ hk (show l.length ≤ 4611686018427387904 by omega)])
    (fun k x hx hp => by simp [slices_IndexFunc_int64_l1, lt_true hx, idx_get hx, hf x (List.mem_of_getElem? hx), hp])
    (by simp [slices_IndexFunc_int64_l1])
  simp only [slices_IndexFunc_int64, h, Option.bind_some]
  cases l.findIdx? p <;> rfl
theorem ContainsFunc_int64_eq (l : List Int) (f : Int → Option Bool) (p : Int → Bool) (hf : ∀ x ∈ l, f x = some (p x)) (hl : l.length ≤ 1073741824) : slices_ContainsFunc_int64 l f = some (l.any p) := by
  simp only [slices_ContainsFunc_int64, IndexFunc_int64_eq l f p hf hl, Option.bind_some]
  exact congrArg some (posI_any p l)

/-! ### no ID in two clusters -/
def onceB : List Int → List (List Int) → Bool
  | _, [] => true
  | all, c :: cs => ascB c && c.all (fun x => !decide (x ∈ all)) && onceB (all ++ c) cs
theorem mget_mset {K V : Type} [DecidableEq K] (m : List (K × V)) (k x : K) (v : V) : mget (mset m k v) x = if x = k then some v else mget m x := by
  induction m with
  | nil => simp [mset, mget]
  | cons p r ih =>
    obtain ⟨a, u⟩ := p
    simp only [mset]
    by_cases h : k = a
    · subst h
      simp only [if_pos, mget]
      by_cases hx : x = k <;> simp [hx]
    · simp only [if_neg h, mget, ih]
      by_cases hx : x = a
      · subst hx
        have : ¬ x = k := fun e => h e.symm
        simp [this]
      · simp [hx]
theorem mset_len {K V : Type} [DecidableEq K] (m : List (K × V)) (k : K) (v : V) (h : mget m k = none) : (mset m k v).length = m.length + 1 := by
  induction m with
  | nil => rfl
  | cons p r ih =>
    obtain ⟨a, u⟩ := p
    simp only [mget] at h
    split at h
    · cases h
    · rename_i hn
      simp only [mset, if_neg hn, List.length_cons, ih h]
/-- a map holds exactly some IDs -/
def Holds (m : List (Int × Bool)) (all : List Int) : Prop := ∀ x, mget m x = if x ∈ all then some true else none

theorem disjoint_inner (c : List Int) (all : List Int) (hl : c.length ≤ 1073741824) (hc : ascB c = true) : ∀ (r : List Int) (k : Nat) (m : List (Int × Bool)), c.drop k = r → k ≤ c.length → Holds m (all ++ c.take k) →
    ∃ o, LoopF (survivor_disjoint_l3 c) (m, (k : Int)) = some o ∧ (match o with | .inl m' => Holds m' (all ++ c) ∧ r.all (fun x => !decide (x ∈ all)) = true ∧ m'.length = m.length + r.length | .inr z => z = ([], false) ∧ r.all (fun x => !decide (x ∈ all)) = false) := by
  intro r
  induction r with
  | nil =>
    intro k m hd hk hm
    have hk' : k = c.length := by
      have := congrArg List.length hd
      simp at this; omega
    subst hk'
    refine ⟨.inl m, Loop_done (by simp [survivor_disjoint_l3]), ?_⟩
    simp only [List.take_length] at hm
    exact ⟨hm, rfl, rfl⟩
  | cons x r ih =>
    intro k m hd hk hm
    have hx : c[k]? = some x := by
      have := congrArg (·[0]?) hd
      simpa [List.getElem?_drop] using this
    have hd' : c.drop (k + 1) = r := by rw [← List.drop_drop, hd]; rfl
    have hlt := lt_of_get hx
    have hnt := asc_take hc hx
    by_cases ha : x ∈ all
    · have hg : ((mget m x).getD false) = true := by rw [hm x, if_pos (by simp [ha])]; rfl
      refine ⟨.inr ([], false), Loop_done ?_, rfl, ?_⟩
      · simp only [survivor_disjoint_l3, if_pos (lt_true hx), idx_get hx, Option.bind_some, hg, if_true]
      · simp [ha]
    · have hn : mget m x = none := by rw [hm x, if_neg (by simp [ha, hnt])]
      have hg : ((mget m x).getD false) = false := by rw [hn]; rfl
      have hm' : Holds (mset m x true) (all ++ c.take (k + 1)) := by
        intro y
        rw [mget_mset, hm y]
        have ht : c.take (k + 1) = c.take k ++ [x] := by rw [List.take_add_one, hx]; rfl
        rw [ht]
        by_cases hy : y = x
        · subst hy; simp
        · simp [hy]
      obtain ⟨o, h1, h2⟩ := ih (k + 1) (mset m x true) hd' hlt hm'
      refine ⟨o, ?_, ?_⟩
      · rw [Loop_next (s' := (mset m x true, ((k + 1 : Nat) : Int))) (by simp only [survivor_disjoint_l3, if_pos (lt_true hx), idx_get hx, Option.bind_some, hg, Bool.false_eq_true, if_false, wrap_succ hlt (show c.length ≤ 4611686018427387904 by omega)])]
        exact h1
      · cases o with
        | inl m' =>
          simp only at h2 ⊢
          refine ⟨h2.1, by simp only [List.all_cons, h2.2.1, ha, decide_false, Bool.not_false, Bool.and_self], ?_⟩
          rw [h2.2.2, mset_len m x true hn, List.length_cons]; omega
        | inr z =>
          simp only at h2 ⊢
          refine ⟨h2.1, ?_⟩
          simp only [List.all_cons, h2.2, Bool.and_false]

theorem disjoint_outer (cs : List (List Int)) (hl : cs.length ≤ 1073741824) (hc : ∀ c ∈ cs, c.length ≤ 1073741824) : ∀ (r : List (List Int)) (k : Nat) (m : List (Int × Bool)) (all : List Int), cs.drop k = r → k ≤ cs.length → Holds m all → m.length = all.length →
    ∃ o, LoopF (survivor_disjoint_l4 cs) (m, (k : Int)) = some o ∧ (match o with | .inl m' => Holds m' (all ++ r.flatten) ∧ onceB all r = true ∧ m'.length = (all ++ r.flatten).length | .inr z => z = ([], false) ∧ onceB all r = false) := by
  intro r
  induction r with
  | nil =>
    intro k m all hd hk hm hlen
    have hk' : k = cs.length := by
      have := congrArg List.length hd
      simp at this; omega
    subst hk'
    exact ⟨.inl m, Loop_done (by simp [survivor_disjoint_l4]), by simpa using hm, rfl, by simpa using hlen⟩
  | cons c r ih =>
    intro k m all hd hk hm hlen
    have hx : cs[k]? = some c := by
      have := congrArg (·[0]?) hd
      simpa [List.getElem?_drop] using this
    have hd' : cs.drop (k + 1) = r := by rw [← List.drop_drop, hd]; rfl
    have hlt := lt_of_get hx
    have hcl := hc c (List.mem_of_getElem? hx)
    by_cases ha : ascB c = true
    · obtain ⟨o, h1, h2⟩ := disjoint_inner c all hcl ha c 0 m rfl (Nat.zero_le _) (by simpa using hm)
      simp only [Int.natCast_zero] at h1
      cases o with
      | inl m' =>
        simp only at h2
        obtain ⟨o', h3, h4⟩ := ih (k + 1) m' (all ++ c) hd' hlt h2.1 (by rw [h2.2.2, hlen]; simp)
        refine ⟨o', ?_, ?_⟩
        · rw [Loop_next (s' := (m', ((k + 1 : Nat) : Int))) (by simp only [survivor_disjoint_l4, if_pos (lt_true hx), idx_get hx, Option.bind_some, ascending_eq c hcl, ha, if_true, h1, wrap_succ hlt (show cs.length ≤ 4611686018427387904 by omega)])]
          exact h3
        · have e : onceB all (c :: r) = onceB (all ++ c) r := by simp only [onceB, ha, h2.2.1, Bool.true_and]
          rw [e]
          cases o' with
          | inl m'' => simpa [List.flatten_cons, List.append_assoc] using h4
          | inr z => exact h4
      | inr z =>
        simp only at h2
        refine ⟨.inr z, Loop_done ?_, h2.1, ?_⟩
        · simp only [survivor_disjoint_l4, if_pos (lt_true hx), idx_get hx, Option.bind_some, ascending_eq c hcl, ha, if_true, h1]
        · simp only [onceB, h2.2, Bool.and_false, Bool.false_and]
    · simp only [Bool.not_eq_true] at ha
      refine ⟨.inr ([], false), Loop_done ?_, rfl, ?_⟩
      · simp only [survivor_disjoint_l4, if_pos (lt_true hx), idx_get hx, Option.bind_some, ascending_eq c hcl, ha, Bool.false_eq_true, if_false]
      · simp only [onceB, ha, Bool.false_and]
theorem disjoint_eq (cs : List (List Int)) (hl : cs.length ≤ 1073741824) (hc : ∀ c ∈ cs, c.length ≤ 1073741824) :
    ∃ m, survivor_disjoint cs = some (m, onceB [] cs) ∧ (onceB [] cs = true → Holds m cs.flatten ∧ m.length = cs.flatten.length) := by
  obtain ⟨o, h1, h2⟩ := disjoint_outer cs hl hc cs 0 [] [] rfl (Nat.zero_le _) (fun x => by simp [mget]) rfl
  simp only [Int.natCast_zero] at h1
  simp only [survivor_disjoint, h1, Option.bind_some]
  cases o with
  | inl m' =>
    simp only [List.nil_append] at h2
    exact ⟨m', by simp [h2.2.1], fun _ => ⟨h2.1, h2.2.2⟩⟩
  | inr z =>
    simp only at h2
    refine ⟨[], by rw [h2.1, h2.2], fun h => ?_⟩
    rw [h2.2] at h; cases h

theorem once_eq (cs : List (List Int)) (hl : cs.length ≤ 1048576) (hc : ∀ c ∈ cs, c.length ≤ 1048576) : drossref55_once cs = some (onceB [] cs) := by
  have key : ∀ (r : List (List Int)) (k : Nat) (all : List Int), cs.drop k = r → k ≤ cs.length → all.length ≤ k * 1048576 → LoopF (drossref55_once_l4 cs) (all, (k : Int)) = some (if onceB all r then .inl () else .inr false) := by
    intro r
    induction r with
    | nil =>
      intro k all hd hk hm
      have hk' : k = cs.length := by
        have := congrArg List.length hd
        simp at this; omega
      subst hk'
      exact Loop_done (by simp [drossref55_once_l4, onceB])
    | cons c r ih =>
      intro k all hd hk hm
      have hx : cs[k]? = some c := by
        have := congrArg (·[0]?) hd
        simpa [List.getElem?_drop] using this
      have hd' : cs.drop (k + 1) = r := by rw [← List.drop_drop, hd]; rfl
      have hlt := lt_of_get hx
      have hcl := hc c (List.mem_of_getElem? hx)
      have hin := LoopF_all c (drossref55_once_l3 cs all k) (fun x => !decide (x ∈ all)) false
        (fun j x hj hjk hp => by
          simp only [Bool.not_eq_true', decide_eq_false_iff_not] at hp
          simp only [drossref55_once_l3, idx_get hx, Option.bind_some, if_pos (lt_true hj), idx_get hj, Has_eq all x (by omega), hp, decide_false, Bool.false_eq_true, if_false, wrap_succ hjk (show c.length ≤ 4611686018427387904 by omega)])
        (fun j x hj hp => by
          simp only [Bool.not_eq_false', decide_eq_true_eq] at hp
          simp only [drossref55_once_l3, idx_get hx, Option.bind_some, if_pos (lt_true hj), idx_get hj, Has_eq all x (by omega), hp, decide_true, if_true])
        (by simp [drossref55_once_l3, idx_get hx])
      by_cases ha : ascB c = true
      · rcases Bool.eq_false_or_eq_true (c.all fun x => !decide (x ∈ all)) with hall | hall
        · have hroom : roomB (all.length + c.length) 8 = true := room8 (by omega)
          rw [hall] at hin
          rw [Loop_next (s' := (all ++ c, ((k + 1 : Nat) : Int))) (by simp only [drossref55_once_l4, if_pos (lt_true hx), idx_get hx, Option.bind_some, Cluster_eq c (by omega), ha, if_true, hin, hroom, wrap_succ hlt (show cs.length ≤ 4611686018427387904 by omega)]),
            ih (k + 1) (all ++ c) hd' hlt (by simp; omega)]
          simp only [onceB, ha, hall, Bool.true_and]
        · rw [hall] at hin
          rw [Loop_done (t := .inr false) (by simp only [drossref55_once_l4, if_pos (lt_true hx), idx_get hx, Option.bind_some, Cluster_eq c (by omega), ha, if_true, hin, Bool.false_eq_true, if_false])]
          simp only [onceB, hall, Bool.and_false, Bool.false_and, Bool.false_eq_true, if_false]
      · simp only [Bool.not_eq_true] at ha
        rw [Loop_done (t := .inr false) (by simp only [drossref55_once_l4, if_pos (lt_true hx), idx_get hx, Option.bind_some, Cluster_eq c (by omega), ha, Bool.false_eq_true, if_false])]
        simp only [onceB, ha, Bool.false_and, Bool.false_eq_true, if_false]
  have h := key cs 0 [] rfl (Nat.zero_le _) (by simp)
  simp only [Int.natCast_zero] at h
  simp only [drossref55_once, h, Option.bind_some]
  cases onceB [] cs <;> rfl
theorem onceB_ne : ∀ {cs : List (List Int)} {all : List Int}, onceB all cs = true → ∀ c ∈ cs, c ≠ []
  | [], _, _, c, hc => by cases hc
  | d :: r, all, h, c, hc => by
    simp only [onceB, Bool.and_eq_true] at h
    rcases List.mem_cons.1 hc with e | e
    · subst e; exact asc_ne h.1.1
    · exact onceB_ne h.2 c e

/-! ### well-formed -/
def cl (m : Merged) (k : Nat) : List Int := m.Clusters.getD k []
def og (m : Merged) (k : Nat) : List Int := m.Origins.getD k []
def rowFits (m : Merged) (k : Nat) (r : Row) : Bool := decide (r.ID = (cl m k).headD 0) && (decide ((og m k).length = m.Table.Attrs.length) && (og m k).all fun x => decide (x ∈ cl m k))
def wfB (m : Merged) : Bool :=
  decide (tableErr m.Table = 0) && (decide (m.Clusters.length = m.Table.Rows.length) && (decide (m.Origins.length = m.Table.Rows.length) && (onceB [] m.Clusters && allFrom (rowFits m) 0 m.Table.Rows)))
structure MerOk (m : Merged) : Prop where
  tab : TabOk m.Table
  nattrs : m.Table.Attrs.length ≤ 1048576
  nrows : m.Table.Rows.length ≤ 1048576
  ncl : m.Clusters.length ≤ 1048576
  lcl : ∀ c ∈ m.Clusters, c.length ≤ 1048576
  nor : m.Origins.length ≤ 1048576
  lor : ∀ c ∈ m.Origins, c.length ≤ 1048576
theorem get_cl {m : Merged} {k : Nat} (h : k < m.Clusters.length) : m.Clusters[k]? = some (cl m k) := by simp [cl, List.getD, List.getElem?_eq_getElem h]
theorem get_og {m : Merged} {k : Nat} (h : k < m.Origins.length) : m.Origins[k]? = some (og m k) := by simp [og, List.getD, List.getElem?_eq_getElem h]
theorem head_get {l : List Int} (h : l ≠ []) : l[0]? = some (l.headD 0) := by
  cases l with
  | nil => exact absurd rfl h
  | cons x r => rfl

theorem wellFormed_eq (m : Merged) (H : MerOk m) : survivor_wellFormed m = some (wfB m) := by
  simp only [survivor_wellFormed, table_Valid_table m.Table H.tab, Option.bind_some, wfB]
  by_cases h1 : tableErr m.Table = 0
  · by_cases h2 : m.Clusters.length = m.Table.Rows.length
    · by_cases h3 : m.Origins.length = m.Table.Rows.length
      · obtain ⟨sm, hd, _⟩ := disjoint_eq m.Clusters (by have := H.ncl; omega) (fun c hc => by have := H.lcl c hc; omega)
        have e1 : ¬ ((tableErr m.Table != 0) = true) := by simp [h1]
        have e2 : ¬ (((m.Clusters.length : Int) != (m.Table.Rows.length : Int)) = true) := by simp [h2]
        have e3 : ¬ (((m.Origins.length : Int) != (m.Table.Rows.length : Int)) = true) := by simp [h3]
        rw [if_neg e1, if_neg e2, if_neg e3, hd]
        simp only [Option.bind_some]
        by_cases h4 : onceB [] m.Clusters = true
        · have hne := onceB_ne h4
          have hB : ∀ (k : Nat) (x : Row), m.Table.Rows[k]? = some x → survivor_wellFormed_l1 m (k : Int) = if rowFits m k x then some (.next ((k + 1 : Nat) : Int)) else some (.done (.inr false)) := by
            intro k x hx
            have hlt := lt_of_get hx
            have hc := get_cl (m := m) (k := k) (by omega)
            have ho := get_og (m := m) (k := k) (by omega)
            have hcl := H.lcl _ (List.mem_of_getElem? hc)
            have hol := H.lor _ (List.mem_of_getElem? ho)
            have hcf : slices_ContainsFunc_int64 (og m k) (fun y => survivor_wellFormed_1 y m k) = some ((og m k).any fun x => !decide (x ∈ cl m k)) :=
              ContainsFunc_int64_eq _ _ _ (fun y _ => by simp only [survivor_wellFormed_1, idx_get hc, Option.bind_some, Contains_int64_eq _ _ (show (cl m k).length ≤ 1073741824 by omega)]) (by omega)
            simp only [survivor_wellFormed_l1, if_pos (lt_true hx), idx_get hx, idx_get hc, idx_get ho, Option.bind_some, head_get (hne _ (List.mem_of_getElem? hc)), hcf, any_not_all, wrap_succ hlt (show m.Table.Rows.length ≤ 4611686018427387904 by have := H.nrows; omega), rowFits]
            by_cases a1 : x.ID = (cl m k).headD 0
            · by_cases a2 : (og m k).length = m.Table.Attrs.length
              · have a2' : ¬ (((((og m k).length : Int) != (m.Table.Attrs.length : Int))) = true) := by simp [a2]
                have a1' : ¬ ((x.ID != (cl m k).headD 0) = true) := by simp [a1]
                rw [if_neg a1', if_neg a2']
                simp only [a1, a2, decide_true, Bool.true_and]
                cases (og m k).all fun x => decide (x ∈ cl m k) <;> simp
              · have a2' : (((((og m k).length : Int) != (m.Table.Attrs.length : Int))) = true) := by simp; omega
                have a1' : ¬ ((x.ID != (cl m k).headD 0) = true) := by simp [a1]
                rw [if_neg a1', if_pos a2']
                simp [a2]
            · have a1' : ((x.ID != (cl m k).headD 0) = true) := by rw [bne_iff_ne]; exact a1
              rw [if_pos a1']
              simp only [a1, decide_false, Bool.false_and, Bool.false_eq_true, if_false]
          have h := LoopF_allk m.Table.Rows (survivor_wellFormed_l1 m) (rowFits m) false
            (fun k x hx hk hp => by rw [hB k x hx, if_pos hp]) (fun k x hx hp => by rw [hB k x hx, hp]; rfl) (by simp [survivor_wellFormed_l1]) m.Table.Rows 0 rfl (Nat.zero_le _)
          simp only [Int.natCast_zero] at h
          simp only [h4, if_true, h, Option.bind_some, h1, h2, h3, decide_true, Bool.true_and]
          cases allFrom (rowFits m) 0 m.Table.Rows <;> rfl
        · simp only [Bool.not_eq_true] at h4
          simp [h1, h2, h3, h4]
      · have h3' : ¬ ((m.Origins.length : Int) = m.Table.Rows.length) := by omega
        simp [h1, h2, h3, h3']
    · have h2' : ¬ ((m.Clusters.length : Int) = m.Table.Rows.length) := by omega
      simp [h1, h2, h2']
  · simp [h1]

theorem WellFormed_eq (m : Merged) (H : MerOk m) : drossref55_WellFormed m = some (wfB m) := by
  simp only [drossref55_WellFormed, ref_Valid_table m.Table H.tab, Option.bind_some, wfB]
  by_cases h1 : tableErr m.Table = 0
  · by_cases h2 : m.Clusters.length = m.Table.Rows.length
    · by_cases h3 : m.Origins.length = m.Table.Rows.length
      · have e1 : ¬ ((tableErr m.Table != 0) = true) := by simp [h1]
        have e2 : ¬ (((m.Clusters.length : Int) != (m.Table.Rows.length : Int)) = true) := by simp [h2]
        have e3 : ¬ (((m.Origins.length : Int) != (m.Table.Rows.length : Int)) = true) := by simp [h3]
        rw [if_neg e1, if_neg e2, if_neg e3, once_eq m.Clusters H.ncl H.lcl]
        simp only [Option.bind_some]
        by_cases h4 : onceB [] m.Clusters = true
        · have hne := onceB_ne h4
          have hB : ∀ (k : Nat) (x : Row), m.Table.Rows[k]? = some x → drossref55_WellFormed_l4 m (k : Int) = if rowFits m k x then some (.next ((k + 1 : Nat) : Int)) else some (.done (.inr false)) := by
            intro k x hx
            have hlt := lt_of_get hx
            have hc := get_cl (m := m) (k := k) (by omega)
            have ho := get_og (m := m) (k := k) (by omega)
            have hcl := H.lcl _ (List.mem_of_getElem? hc)
            have hol := H.lor _ (List.mem_of_getElem? ho)
            have hin := LoopF_all (og m k) (drossref55_WellFormed_l3 m k) (fun x => decide (x ∈ cl m k)) false
              (fun j y hj hjk hp => by
                simp only [decide_eq_true_eq] at hp
                simp only [drossref55_WellFormed_l3, idx_get ho, idx_get hc, Option.bind_some, if_pos (lt_true hj), idx_get hj, Has_eq _ y (show (cl m k).length ≤ 4611686018427387904 by omega), hp, decide_true, if_true, wrap_succ hjk (show (og m k).length ≤ 4611686018427387904 by omega)])
              (fun j y hj hp => by
                simp only [decide_eq_false_iff_not] at hp
                simp only [drossref55_WellFormed_l3, idx_get ho, idx_get hc, Option.bind_some, if_pos (lt_true hj), idx_get hj, Has_eq _ y (show (cl m k).length ≤ 4611686018427387904 by omega), hp, decide_false, Bool.false_eq_true, if_false])
              (by simp [drossref55_WellFormed_l3, idx_get ho])
            have hkc : (k : Int) < (m.Clusters.length : Int) := by omega
            simp only [drossref55_WellFormed_l4, if_pos hkc, idx_get hx, idx_get hc, idx_get ho, Option.bind_some, head_get (hne _ (List.mem_of_getElem? hc)), hin, wrap_succ hlt (show m.Table.Rows.length ≤ 4611686018427387904 by have := H.nrows; omega), rowFits]
            by_cases a1 : x.ID = (cl m k).headD 0
            · by_cases a2 : (og m k).length = m.Table.Attrs.length
              · have a2' : ¬ (((((og m k).length : Int) != (m.Table.Attrs.length : Int))) = true) := by simp [a2]
                have a1' : ¬ ((x.ID != (cl m k).headD 0) = true) := by simp [a1]
                rw [if_neg a1', if_neg a2']
                simp only [a1, a2, decide_true, Bool.true_and]
                cases (og m k).all fun x => decide (x ∈ cl m k) <;> simp
              · have a2' : (((((og m k).length : Int) != (m.Table.Attrs.length : Int))) = true) := by simp; omega
                have a1' : ¬ ((x.ID != (cl m k).headD 0) = true) := by simp [a1]
                rw [if_neg a1', if_pos a2']
                simp [a2]
            · have a1' : ((x.ID != (cl m k).headD 0) = true) := by rw [bne_iff_ne]; exact a1
              rw [if_pos a1']
              simp only [a1, decide_false, Bool.false_and, Bool.false_eq_true, if_false]
          have h := LoopF_allk m.Table.Rows (drossref55_WellFormed_l4 m) (rowFits m) false
            (fun k x hx hk hp => by rw [hB k x hx, if_pos hp]) (fun k x hx hp => by rw [hB k x hx, hp]; rfl) (by simp [drossref55_WellFormed_l4, h2]) m.Table.Rows 0 rfl (Nat.zero_le _)
          simp only [Int.natCast_zero] at h
          simp only [h4, if_true, h, Option.bind_some, h1, h2, h3, decide_true, Bool.true_and]
          cases allFrom (rowFits m) 0 m.Table.Rows <;> rfl
        · simp only [Bool.not_eq_true] at h4
          simp [h1, h2, h3, h4]
      · have h3' : ¬ ((m.Origins.length : Int) = m.Table.Rows.length) := by omega
        simp [h1, h2, h3, h3']
    · have h2' : ¬ ((m.Clusters.length : Int) = m.Table.Rows.length) := by omega
      simp [h1, h2, h2']
  · simp [h1]
end Go.Proofs.YtdmddoljldjjeaaGreat
/- SurvivorChoose answers true. -/
set_option linter.unusedVariables false
namespace Go.Proofs.YtdmddoljldjjeaaGreat
open Go Go.Ab
end Go.Proofs.YtdmddoljldjjeaaGreat
/- SurvivorSource answers true. -/
set_option linter.unusedVariables false
set_option linter.unusedSimpArgs false
namespace Go.Proofs.YtdmddoljldjjeaaGreat
open Go Go.Ab
theorem findIdx_lt {α : Type} (p : α → Bool) : ∀ (l : List α) {i : Nat}, l.findIdx? p = some i → i < l.length
  | [], i, h => by simp at h
  | x :: r, i, h => by
    rw [List.findIdx?_cons] at h
    split at h
    · cases h; simp
    · cases hr : r.findIdx? p with
      | none => rw [hr] at h; cases h
      | some j =>
        rw [hr] at h
        simp only [Option.map_some, Option.some.injEq] at h
        subst h
        have := findIdx_lt p r hr
        simp; omega
theorem wf_facts {m : Merged} (h : wfB m = true) : tableErr m.Table = 0 ∧ m.Clusters.length = m.Table.Rows.length ∧ m.Origins.length = m.Table.Rows.length ∧ onceB [] m.Clusters = true ∧
    ∀ (k : Nat) (r : Row), m.Table.Rows[k]? = some r → rowFits m k r = true := by
  simp only [wfB, Bool.and_eq_true, decide_eq_true_eq] at h
  obtain ⟨h1, h2, h3, h4, h5⟩ := h
  refine ⟨h1, h2, h3, h4, fun k r hr => ?_⟩
  have := allFrom_get h5 hr
  rwa [Nat.zero_add] at this
end Go.Proofs.YtdmddoljldjjeaaGreat
/- Which merged tables merge a table: both ways of telling agree. -/
set_option linter.unusedVariables false
set_option linter.unusedSimpArgs false
namespace Go.Proofs.YtdmddoljldjjeaaGreat
open Go Go.Ab
theorem allFrom_iff {α : Type} (p : Nat → α → Bool) : ∀ (l : List α) (k : Nat), allFrom p k l = true ↔ ∀ (j : Nat) (x : α), l[j]? = some x → p (k + j) x = true
  | [], k => by simp [allFrom]
  | y :: r, k => by
    simp only [allFrom, Bool.and_eq_true, allFrom_iff p r (k + 1)]
    constructor
    · rintro ⟨h1, h2⟩ j x hx
      cases j with
      | zero => simp at hx; subst hx; exact h1
      | succ j =>
        have := h2 j x (by simpa using hx)
        rwa [Nat.add_assoc, Nat.add_comm 1] at this
    · intro h
      refine ⟨h 0 y rfl, fun j x hx => ?_⟩
      have := h (j + 1) x (by simpa using hx)
      rwa [Nat.add_assoc, Nat.add_comm 1]
theorem allFrom_same {α : Type} [DecidableEq α] (a b : List α) (h : a.length = b.length) : allFrom (fun k x => decide (b[k]? = some x)) 0 a = decide (a = b) := by
  rw [Bool.eq_iff_iff, allFrom_iff, decide_eq_true_eq]
  simp only [Nat.zero_add, decide_eq_true_eq]
  constructor
  · intro hh
    apply List.ext_getElem? 
    intro i
    by_cases hi : i < a.length
    · rw [List.getElem?_eq_getElem hi]
      exact (hh i _ (List.getElem?_eq_getElem hi)).symm
    · rw [List.getElem?_eq_none (by omega), List.getElem?_eq_none (by omega)]
  · rintro rfl j x hx; exact hx
theorem Strings_eq (a b : List (List UInt8)) (ha : a.length ≤ 1073741824) : drossref03_Strings a b = some (decide (a = b)) := by
  simp only [drossref03_Strings]
  by_cases hl : a.length = b.length
  · have e : ¬ (((a.length : Int) != (b.length : Int)) = true) := by simp [hl]
    have h := LoopF_allk a (drossref03_Strings_l1 a b) (fun k x => decide (b[k]? = some x)) false
      (fun k x hx hk hp => by
        simp only [decide_eq_true_eq] at hp
        simp only [drossref03_Strings_l1, if_pos (lt_true hx), idx_get hx, idx_get hp, Option.bind_some, beq_self_eq_true, if_true, wrap_succ hk (show a.length ≤ 4611686018427387904 by omega)])
      (fun k x hx hp => by
        have hk := lt_of_get hx
        have hb : b[k]? = some (b[k]'(by omega)) := List.getElem?_eq_getElem (by omega)
        rw [hb] at hp
        simp only [Option.some.injEq, decide_eq_false_iff_not] at hp
        have hp' : ¬ ((x == b[k]'(by omega)) = true) := by rw [beq_iff_eq]; exact fun e => hp e.symm
        simp only [drossref03_Strings_l1, if_pos (lt_true hx), idx_get hx, idx_get hb, Option.bind_some, if_neg hp'])
      (by simp [drossref03_Strings_l1]) a 0 rfl (Nat.zero_le _)
    simp only [Int.natCast_zero, allFrom_same a b hl] at h
    rw [if_neg e, h]
    by_cases hab : a = b <;> simp [hab]
  · have e : (((a.length : Int) != (b.length : Int)) = true) := by rw [bne_iff_ne]; omega
    rw [if_pos e]
    have : a ≠ b := fun h => hl (by rw [h])
    simp [this]
theorem Equal_string_eq (a b : List (List UInt8)) (ha : a.length ≤ 1073741824) : slices_Equal_string a b = some (decide (a = b)) := Strings_eq a b ha

theorem ContainsFunc_Row_eq (l : List Row) (f : Row → Option Bool) (p : Row → Bool) (hf : ∀ x ∈ l, f x = some (p x)) (hl : l.length ≤ 1073741824) : slices_ContainsFunc_Row l f = some (l.any p) := by
  simp only [slices_ContainsFunc_Row, IndexFunc_Row_eq l f p hf hl, Option.bind_some]
  exact congrArg some (posI_any p l)

/-- the IDs of a table -/
def ids (t : Table) : List Int := t.Rows.map (·.ID)
def divA (t : Table) (cs : List (List Int)) : Bool := onceB [] cs && (decide (cs.flatten.length = t.Rows.length) && (ids t).all fun x => decide (x ∈ cs.flatten))
def divB (t : Table) (cs : List (List Int)) : Bool := onceB [] cs && (decide (cs.flatten.length = t.Rows.length) && cs.flatten.all fun x => decide (x ∈ ids t))
theorem divides_eq (t : Table) (cs : List (List Int)) (hr : t.Rows.length ≤ 1073741824) (hl : cs.length ≤ 1073741824) (hc : ∀ c ∈ cs, c.length ≤ 1073741824) : survivor_divides t cs = some (divA t cs) := by
  obtain ⟨m, h1, h2⟩ := disjoint_eq cs hl hc
  simp only [survivor_divides, h1, Option.bind_some, divA]
  by_cases h : onceB [] cs = true
  · obtain ⟨h3, h4⟩ := h2 h
    simp only [h, if_true, h4, Bool.true_and]
    by_cases h5 : cs.flatten.length = t.Rows.length
    · have e : ¬ (((cs.flatten.length : Int) != (t.Rows.length : Int)) = true) := by simp [h5]
      rw [if_neg e, ContainsFunc_Row_eq t.Rows (fun y => survivor_divides_1 y m) (fun y => !decide (y.ID ∈ cs.flatten)) (fun y _ => by
        simp only [survivor_divides_1, h3 y.ID]
        by_cases hy : y.ID ∈ cs.flatten <;> simp [hy]) hr]
      simp only [Option.bind_some, any_not_all, Bool.not_not, h5, decide_true, Bool.true_and, ids, List.all_map, Function.comp_def]
    · have e : (((cs.flatten.length : Int) != (t.Rows.length : Int)) = true) := by rw [bne_iff_ne]; omega
      rw [if_pos e]
      simp only [h5, decide_false, Bool.false_and, Bool.and_false]
  · simp only [Bool.not_eq_true] at h
    simp only [h, Bool.false_eq_true, if_false, Bool.false_and]
theorem findB_snd (t : Table) (id : Int) : (findB t id).2 = decide (id ∈ ids t) := by
  unfold findB ids
  cases h : t.Rows.findIdx? (fun r => r.ID == id) with
  | none =>
    rw [List.findIdx?_eq_none_iff] at h
    simp only [List.mem_map]
    symm
    rw [decide_eq_false_iff_not]
    rintro ⟨r, hr, he⟩
    have := h r hr
    simp [he] at this
  | some i =>
    have hi := findIdx_lt _ _ h
    symm
    rw [decide_eq_true_eq, List.mem_map]
    have hp : (fun r : Row => r.ID == id) (t.Rows[i]'hi) = true := by
      rw [List.findIdx?_eq_some_iff_getElem] at h
      exact h.2.1
    exact ⟨_, List.getElem_mem hi, by simpa using hp⟩
theorem findB_get (t : Table) (id : Int) (h : id ∈ ids t) : ∃ (i : Nat) (r : Row), findB t id = ((i : Int), true) ∧ t.Rows[i]? = some r ∧ r.ID = id := by
  have h2 := findB_snd t id
  simp only [h, decide_true] at h2
  unfold findB at h2 ⊢
  cases hf : t.Rows.findIdx? (fun r => r.ID == id) with
  | none => rw [hf] at h2; cases h2
  | some i =>
    have hi := findIdx_lt _ _ hf
    rw [List.findIdx?_eq_some_iff_getElem] at hf
    exact ⟨i, _, rfl, List.getElem?_eq_getElem hi, by simpa using hf.2.1⟩
theorem Of_loop (t : Table) (cs : List (List Int)) (hr : t.Rows.length ≤ 1073741824) (hl : cs.length ≤ 1048576) (hc : ∀ c ∈ cs, c.length ≤ 1048576) : ∀ (r : List (List Int)) (k n : Nat), cs.drop k = r → k ≤ cs.length → n ≤ k * 1048576 →
    LoopF (drossref55_Of_l4 t cs) ((n : Int), (k : Int)) = some (if r.flatten.all (fun x => decide (x ∈ ids t)) then .inl ((n + r.flatten.length : Nat) : Int) else .inr false) := by
  intro r
  induction r with
  | nil =>
    intro k n hd hk hn
    have hk' : k = cs.length := by
      have := congrArg List.length hd
      simp at this; omega
    subst hk'
    exact Loop_done (by simp [drossref55_Of_l4])
  | cons c r ih =>
    intro k n hd hk hn
    have hx : cs[k]? = some c := by
      have := congrArg (·[0]?) hd
      simpa [List.getElem?_drop] using this
    have hd' : cs.drop (k + 1) = r := by rw [← List.drop_drop, hd]; rfl
    have hlt := lt_of_get hx
    have hcl := hc c (List.mem_of_getElem? hx)
    have hin := LoopF_all c (drossref55_Of_l3 t cs k) (fun x => decide (x ∈ ids t)) false
      (fun j x hj hjk hp => by
        simp only [decide_eq_true_eq] at hp
        simp only [drossref55_Of_l3, idx_get hx, Option.bind_some, if_pos (lt_true hj), idx_get hj, ref_Find_eq t x hr, findB_snd, hp, decide_true, if_true, wrap_succ hjk (show c.length ≤ 4611686018427387904 by omega)])
      (fun j x hj hp => by
        simp only [decide_eq_false_iff_not] at hp
        simp only [drossref55_Of_l3, idx_get hx, Option.bind_some, if_pos (lt_true hj), idx_get hj, ref_Find_eq t x hr, findB_snd, hp, decide_false, Bool.false_eq_true, if_false])
      (by simp [drossref55_Of_l3, idx_get hx])
    by_cases ha : (c.all fun x => decide (x ∈ ids t)) = true
    · rw [if_pos ha] at hin
      have hw : IntKind.i64.wrap ((n : Int) + (c.length : Int)) = ((n + c.length : Nat) : Int) := by
        rw [wrap_i64 (by omega) (by omega)]; omega
      rw [Loop_next (s' := (((n + c.length : Nat) : Int), ((k + 1 : Nat) : Int))) (by simp only [drossref55_Of_l4, if_pos (lt_true hx), idx_get hx, Option.bind_some, hin, hw, wrap_succ hlt (show cs.length ≤ 4611686018427387904 by omega)]),
        ih (k + 1) (n + c.length) hd' hlt (by omega)]
      simp only [List.flatten_cons, List.all_append, ha, Bool.true_and, List.length_append, Nat.add_assoc]
    · rw [if_neg ha] at hin
      rw [Loop_done (t := .inr false) (by simp only [drossref55_Of_l4, if_pos (lt_true hx), idx_get hx, Option.bind_some, hin])]
      simp only [Bool.not_eq_true] at ha
      simp only [List.flatten_cons, List.all_append, ha, Bool.false_and, Bool.false_eq_true, if_false]
theorem Of_eq (t : Table) (cs : List (List Int)) (hr : t.Rows.length ≤ 1073741824) (hl : cs.length ≤ 1048576) (hc : ∀ c ∈ cs, c.length ≤ 1048576) : drossref55_Of t cs = some (divB t cs) := by
  have h := Of_loop t cs hr hl hc cs 0 0 rfl (Nat.zero_le _) (by omega)
  simp only [Int.natCast_zero, Nat.zero_add] at h
  simp only [drossref55_Of, once_eq cs hl hc, Option.bind_some, h, divB]
  cases onceB [] cs
  · rfl
  · simp only [if_true, Bool.true_and]
    cases cs.flatten.all (fun x => decide (x ∈ ids t))
    · simp
    · simp only [if_true, Bool.and_true]
      congr 1
      rw [Bool.eq_iff_iff, beq_iff_eq, decide_eq_true_eq]; omega

/-! ### the two ways of dividing agree for a table whose IDs ascend -/
theorem nodup_sub_len : ∀ {l l' : List Int}, l.Nodup → (∀ x ∈ l, x ∈ l') → l.length ≤ l'.length
  | [], l', _, _ => Nat.zero_le _
  | x :: r, l', hn, hs => by
    rw [List.nodup_cons] at hn
    have hx : x ∈ l' := hs x (by simp)
    have h := nodup_sub_len (l' := l'.erase x) hn.2 (fun y hy => by
      have hne : y ≠ x := fun e => hn.1 (e ▸ hy)
      rw [List.mem_erase_of_ne hne]
      exact hs y (by simp [hy]))
    rw [List.length_erase_of_mem hx] at h
    have : 0 < l'.length := List.length_pos_of_mem hx
    simp; omega
theorem nodup_swap {l l' : List Int} (h1 : l.Nodup) (h3 : l.length = l'.length) (hs : ∀ x ∈ l, x ∈ l') (x : Int) (hx : x ∈ l') : x ∈ l := by
  apply Classical.byContradiction
  intro hn
  have h := nodup_sub_len (l := x :: l) (l' := l') (List.nodup_cons.2 ⟨hn, h1⟩) (fun y hy => by
    rcases List.mem_cons.1 hy with e | e
    · subst e; exact hx
    · exact hs y e)
  simp at h; omega
theorem rowsCode_zero (n : Nat) : ∀ (l : List Row) (a : Int), rowsCode n a l = 0 → (∀ r ∈ l, a < r.ID ∧ r.Values.length = n) ∧ (l.map (·.ID)).Nodup
  | [], a, _ => ⟨fun r hr => by simp at hr, by simp⟩
  | r :: l, a, h => by
    simp only [rowsCode] at h
    by_cases h1 : r.ID ≤ a
    · rw [if_pos h1] at h; cases h
    · rw [if_neg h1] at h
      by_cases h2 : r.Values.length = n
      · rw [if_neg (by simp [h2])] at h
        by_cases h3 : r.Values.all valid = true
        · rw [if_pos h3] at h
          obtain ⟨h4, h5⟩ := rowsCode_zero n l r.ID h
          refine ⟨fun q hq => ?_, ?_⟩
          · rcases List.mem_cons.1 hq with e | e
            · subst e; exact ⟨by omega, h2⟩
            · have := h4 q e; exact ⟨by omega, this.2⟩
          · rw [List.map_cons, List.nodup_cons]
            refine ⟨fun hm => ?_, h5⟩
            obtain ⟨q, hq, he⟩ := List.mem_map.1 hm
            have := (h4 q hq).1
            omega
        · rw [if_neg h3] at h; cases h
      · rw [if_pos h2] at h; cases h
theorem tableErr_zero {t : Table} (h : tableErr t = 0) : (∀ r ∈ t.Rows, r.Values.length = t.Attrs.length) ∧ (ids t).Nodup := by
  unfold tableErr at h
  split at h
  · cases h
  · split at h
    · cases h
    · split at h
      · cases h
      · split at h
        · cases h
        · obtain ⟨h1, h2⟩ := rowsCode_zero _ _ _ h
          exact ⟨fun r hr => (h1 r hr).2, h2⟩
theorem asc_nodup {l : List Int} (h : ascB l = true) : l.Nodup := by
  rw [List.nodup_iff_pairwise_ne, List.pairwise_iff_getElem]
  intro i j hi hj hij
  have := asc_lt h i j hij (List.getElem?_eq_getElem hi) (List.getElem?_eq_getElem hj)
  omega
theorem once_nodup : ∀ {cs : List (List Int)} {all : List Int}, onceB all cs = true → cs.flatten.Nodup ∧ ∀ x ∈ cs.flatten, x ∉ all
  | [], all, _ => ⟨by simp, fun x hx => by simp at hx⟩
  | c :: cs, all, h => by
    simp only [onceB, Bool.and_eq_true, List.all_eq_true, Bool.not_eq_true', decide_eq_false_iff_not] at h
    obtain ⟨⟨h1, h2⟩, h3⟩ := h
    obtain ⟨h4, h5⟩ := once_nodup h3
    refine ⟨?_, fun x hx => ?_⟩
    · rw [List.flatten_cons, List.nodup_append]
      exact ⟨asc_nodup h1, h4, fun a ha b hb e => h5 b hb (by simp [← e, ha])⟩
    · rw [List.flatten_cons, List.mem_append] at hx
      rcases hx with e | e
      · exact h2 x e
      · exact fun hh => h5 x e (by simp [hh])
theorem once_apart : ∀ {cs : List (List Int)} {all : List Int}, onceB all cs = true → ∀ (i j : Nat) (a b : List Int) (x : Int), cs[i]? = some a → cs[j]? = some b → x ∈ a → x ∈ b → i = j
  | [], all, _, i, j, a, b, x, hi, _, _, _ => by simp at hi
  | c :: cs, all, h, i, j, a, b, x, hi, hj, ha, hb => by
    simp only [onceB, Bool.and_eq_true] at h
    obtain ⟨_, h3⟩ := h
    have h5 := (once_nodup h3).2
    cases i with
    | zero =>
      cases j with
      | zero => rfl
      | succ j =>
        simp at hi hj
        subst hi
        exact absurd (show x ∈ all ++ c by simp [ha]) (h5 x (List.mem_flatten.2 ⟨b, List.mem_of_getElem? hj, hb⟩))
    | succ i =>
      cases j with
      | zero =>
        simp at hi hj
        subst hj
        exact absurd (show x ∈ all ++ c by simp [hb]) (h5 x (List.mem_flatten.2 ⟨a, List.mem_of_getElem? hi, ha⟩))
      | succ j =>
        simp at hi hj
        rw [once_apart h3 i j a b x hi hj ha hb]
theorem div_same {t : Table} (h : tableErr t = 0) (cs : List (List Int)) : divA t cs = divB t cs := by
  obtain ⟨_, h2⟩ := tableErr_zero h
  unfold divA divB
  by_cases h1 : onceB [] cs = true
  · obtain ⟨h3, _⟩ := once_nodup h1
    by_cases h4 : cs.flatten.length = t.Rows.length
    · have h5 : (ids t).length = cs.flatten.length := by rw [h4]; simp [ids]
      simp only [h1, h4, decide_true, Bool.true_and]
      rw [Bool.eq_iff_iff, List.all_eq_true, List.all_eq_true]
      simp only [decide_eq_true_eq]
      exact ⟨fun hs x hx => nodup_swap h2 h5 hs x hx, fun hs x hx => nodup_swap h3 h5.symm hs x hx⟩
    · simp only [h4, decide_false, Bool.false_and, Bool.and_false]
  · simp only [Bool.not_eq_true] at h1
    simp only [h1, Bool.false_and]
end Go.Proofs.YtdmddoljldjjeaaGreat
/- SurvivorMerge answers true. -/
set_option linter.unusedVariables false
namespace Go.Proofs.YtdmddoljldjjeaaGreat
open Go Go.Ab
theorem mergedV_len (rows : List Row) : ∀ (rules : List Int) (b : List Value × List Int), (rules.foldl (stepM rows) b).1.length = b.1.length + rules.length ∧ (rules.foldl (stepM rows) b).2.length = b.2.length + rules.length
  | [], b => ⟨rfl, rfl⟩
  | r :: l, b => by
    obtain ⟨h1, h2⟩ := mergedV_len rows l (stepM rows b r)
    rw [List.foldl_cons]
    simp only [stepM, List.length_append, List.length_cons, List.length_nil] at h1 h2 ⊢
    omega
theorem chosen_mem (rows : List Row) (a : Nat) (rule : Int) : (chosen rows a rule).1 = ⟨0, 0, []⟩ ∨ ∃ r ∈ rows, (chosen rows a rule).1 = cellV r a := by
  unfold chosen
  cases hn : nn rows a with
  | nil => exact .inl rfl
  | cons r l =>
    refine .inr ?_
    have hm : ∀ x ∈ r :: l, x ∈ rows := by
      intro x hx
      rw [← hn] at hx
      exact (List.mem_filter.1 hx).1
    have key : ∀ (l : List Row) (o : Value × Int), (∃ r ∈ rows, o.1 = cellV r a) → (∀ x ∈ l, x ∈ rows) → ∃ r ∈ rows, ((l.map fun x => (cellV x a, x.ID)).foldl (pickF (betterB (fun x => (((rows.map (cellV · a)).countP (veq · x) : Nat) : Int)) rule)) o).1 = cellV r a := by
      intro l
      induction l with
      | nil => intro o h _; exact h
      | cons y l ih =>
        intro o h hl
        rw [List.map_cons, List.foldl_cons]
        refine ih _ ?_ (fun x hx => hl x (by simp [hx]))
        unfold pickF
        split
        · exact ⟨y, hl y (by simp), rfl⟩
        · exact h
    exact key l (cellV r a, r.ID) ⟨r, hm r (by simp), rfl⟩ (fun x hx => hm x (by simp [hx]))
theorem mergedV_short (rows : List Row) (hs : Short rows) : ∀ (rules : List Int) (b : List Value × List Int), (∀ v ∈ b.1, v.Str.length ≤ 1073741824) → ∀ v ∈ (rules.foldl (stepM rows) b).1, v.Str.length ≤ 1073741824
  | [], b, h => h
  | r :: l, b, h => by
    rw [List.foldl_cons]
    refine mergedV_short rows hs l _ ?_
    intro v hv
    simp only [stepM, List.mem_append, List.mem_singleton] at hv
    rcases hv with hv | rfl
    · exact h v hv
    · rcases chosen_mem rows b.1.length r with e | ⟨x, hx, e⟩
      · rw [e]; simp
      · rw [e]
        unfold cellV
        rw [List.getD]
        cases hg : x.Values[b.1.length]? with
        | none => simp
        | some y => simpa using hs x hx y (List.mem_of_getElem? hg)
end Go.Proofs.YtdmddoljldjjeaaGreat
/- The merged table: sorting, keeping. -/
set_option linter.unusedVariables false
set_option linter.unusedSimpArgs false
namespace Go.Proofs.YtdmddoljldjjeaaGreat
open Go Go.Ab
/-! ### both sort by insertion -/
theorem sort_inner : ∀ (k : Nat) (data : List (List Int)), k < data.length → data.length ≤ 1048576 → (∀ x ∈ data, x ≠ []) →
    ∃ l, LoopF survivor_Table_l16 (data, (k : Int)) = some l ∧ LoopF drossref55_Table_l4 (data, (k : Int)) = some l ∧ l.Perm data := by
  intro k
  induction k with
  | zero =>
    intro data hk hl hne
    exact ⟨data, Loop_done (by simp [survivor_Table_l16]), Loop_done (by simp [drossref55_Table_l4]), List.Perm.refl _⟩
  | succ k ih =>
    intro data hk hl hne
    have hpos : (((k + 1 : Nat) : Int) > 0) := by omega
    have hw : IntKind.i64.wrap (((k + 1 : Nat) : Int) - 1) = (k : Int) := by
      rw [wrap_i64 (by omega) (by omega)]; omega
    have hk' : k < data.length := by omega
    have h1 : data[k + 1]? = some (data[k + 1]'hk) := List.getElem?_eq_getElem hk
    have h0 : data[k]? = some (data[k]'hk') := List.getElem?_eq_getElem hk'
    have n1 := head_get (hne _ (List.mem_of_getElem? h1))
    have n0 := head_get (hne _ (List.mem_of_getElem? h0))
    have hs : (data.set (k + 1) (data[k]'hk'))[k]? = some (data[k]'hk') := by
      rw [List.getElem?_set, if_neg (by omega)]; exact h0
    have hcmp : survivor_Table_2 (data[k + 1]'hk) (data[k]'hk') = some (sgn ((data[k + 1]'hk).headD 0) ((data[k]'hk').headD 0)) := by
      simp only [survivor_Table_2, n1, n0, Option.bind_some, cmp_int64_eq]
    by_cases hc : (data[k + 1]'hk).headD 0 < (data[k]'hk').headD 0
    · have hsg : sgn ((data[k + 1]'hk).headD 0) ((data[k]'hk').headD 0) < 0 := by unfold sgn; rw [if_pos hc]; omega
      have hp : ((data.set (k + 1) (data[k]'hk')).set k (data[k + 1]'hk)).Perm data := List.set_set_perm hk hk'
      obtain ⟨l, e1, e2, e3⟩ := ih ((data.set (k + 1) (data[k]'hk')).set k (data[k + 1]'hk)) (by simp; omega) (by simpa using hl) (fun x hx => hne x (hp.mem_iff.1 hx))
      refine ⟨l, ?_, ?_, e3.trans hp⟩
      · rw [Loop_next (s' := ((data.set (k + 1) (data[k]'hk')).set k (data[k + 1]'hk), (k : Int))) (by
          simp only [survivor_Table_l16, if_pos hpos, idx_get h1, hw, idx_get h0, Option.bind_some, hcmp, if_pos hsg, Int.toNat_natCast, idx_get hs])]
        exact e1
      · rw [Loop_next (s' := ((data.set (k + 1) (data[k]'hk')).set k (data[k + 1]'hk), (k : Int))) (by
          simp only [drossref55_Table_l4, if_pos hpos, idx_get h1, hw, idx_get h0, Option.bind_some, n1, n0, if_pos hc, Int.toNat_natCast, idx_get hs])]
        exact e2
    · have hsg : ¬ sgn ((data[k + 1]'hk).headD 0) ((data[k]'hk').headD 0) < 0 := by unfold sgn; rw [if_neg hc]; split <;> omega
      refine ⟨data, Loop_done ?_, Loop_done ?_, List.Perm.refl _⟩
      · simp only [survivor_Table_l16, if_pos hpos, idx_get h1, hw, idx_get h0, Option.bind_some, hcmp, if_neg hsg]
      · simp only [drossref55_Table_l4, if_pos hpos, idx_get h1, hw, idx_get h0, Option.bind_some, n1, n0, if_neg hc]
theorem sort_outer (cs : List (List Int)) (hl : cs.length ≤ 1048576) : ∀ (n i : Nat) (data : List (List Int)), n = cs.length - i → data.length = cs.length → (∀ x ∈ data, x ≠ []) →
    ∃ l, LoopF (survivor_Table_l17 cs) (data, (i : Int)) = some l ∧ LoopF drossref55_Table_l5 (data, (i : Int)) = some l ∧ l.Perm data := by
  intro n
  induction n with
  | zero =>
    intro i data hn hd hne
    have h1 : ¬ ((i : Int) < ((cs.length : Nat) : Int)) := by omega
    have h2 : ¬ ((i : Int) < ((data.length : Nat) : Int)) := by omega
    exact ⟨data, Loop_done (by simp only [survivor_Table_l17, if_neg h1]), Loop_done (by simp only [drossref55_Table_l5, if_neg h2]), List.Perm.refl _⟩
  | succ n ih =>
    intro i data hn hd hne
    have h1 : ((i : Int) < ((cs.length : Nat) : Int)) := by omega
    have h2 : ((i : Int) < ((data.length : Nat) : Int)) := by omega
    obtain ⟨l, e1, e2, e3⟩ := sort_inner i data (by omega) (by omega) hne
    obtain ⟨l', e4, e5, e6⟩ := ih (i + 1) l (by omega) (by rw [e3.length_eq, hd]) (fun x hx => hne x (e3.mem_iff.1 hx))
    have hw := wrap_nat (k := i) (by omega)
    refine ⟨l', ?_, ?_, e6.trans e3⟩
    · rw [Loop_next (s' := (l, ((i + 1 : Nat) : Int))) (by simp only [survivor_Table_l17, if_pos h1, e1, Option.bind_some, hw])]; exact e4
    · rw [Loop_next (s' := (l, ((i + 1 : Nat) : Int))) (by simp only [drossref55_Table_l5, if_pos h2, e2, Option.bind_some, hw])]; exact e5
theorem sort_same (cs : List (List Int)) (hl : cs.length ≤ 12) (hne : ∀ x ∈ cs, x ≠ []) :
    ∃ l, LoopF (survivor_Table_l18 cs) () = some l ∧ LoopF drossref55_Table_l5 (cs, 0) = some l ∧ l.Perm cs := by
  obtain ⟨l, e1, e2, e3⟩ := sort_outer cs (by omega) _ 1 cs rfl rfl hne
  simp only [Int.natCast_one] at e1 e2
  have hw : IntKind.i64.wrap (((cs.length : Nat) : Int) - 0) ≤ 12 := by
    rw [wrap_i64 (by omega) (by omega)]; omega
  have hw1 : IntKind.i64.wrap (0 + 1) = 1 := by decide
  refine ⟨l, Loop_done ?_, ?_, e3⟩
  · simp only [survivor_Table_l18, if_pos hw, hw1, e1, Option.bind_some, e3.length_eq, if_true]
  · by_cases h0 : cs.length = 0
    · have hc : cs = [] := List.eq_nil_of_length_eq_zero h0
      subst hc
      rw [← e2]
      rw [Loop_done (t := []) (by simp [drossref55_Table_l5]), Loop_done (t := []) (by simp [drossref55_Table_l5])]
    · have h2 : ((0 : Int) < ((cs.length : Nat) : Int)) := by omega
      have hi : LoopF drossref55_Table_l4 (cs, 0) = some cs := Loop_done (by simp [drossref55_Table_l4])
      rw [Loop_next (s' := (cs, 1)) (by simp only [drossref55_Table_l5, if_pos h2, hi, Option.bind_some, hw1])]
      exact e2
theorem Len_some {n : Nat} (h : n ≤ 12) : ∃ x, bits_Len (IntKind.u64.wrap ((n : Nat) : Int)) = some x := by
  have : n = 0 ∨ n = 1 ∨ n = 2 ∨ n = 3 ∨ n = 4 ∨ n = 5 ∨ n = 6 ∨ n = 7 ∨ n = 8 ∨ n = 9 ∨ n = 10 ∨ n = 11 ∨ n = 12 := by omega
  rcases this with rfl | rfl | rfl | rfl | rfl | rfl | rfl | rfl | rfl | rfl | rfl | rfl | rfl <;>
  exact ⟨_, by simp only [bits_Len, bits_Len64]; rw [if_pos (by decide)]; rfl⟩

/-! ### the rows of some IDs -/
def keepR (t : Table) (l : List Int) : List Row := t.Rows.filter fun r => decide (r.ID ∈ l)
theorem Clone_string_eq (l : List (List UInt8)) (h : l.length ≤ 1073741824) : slices_Clone_string l = some l := by
  unfold slices_Clone_string; rw [if_pos (room_le (by omega) (by omega))]
theorem Clone_int64_eq (l : List Int) (h : l.length ≤ 1073741824) : slices_Clone_int64 l = some l := by
  unfold slices_Clone_int64; rw [if_pos (room_le (by omega) (by omega))]
theorem copy_loop {B : List Row × Int → Option (LS (List Row × Int) (List Row))} (rows : List Row)
    (hB : ∀ (k : Nat) (out : List Row) x, rows[k]? = some x → out.length ≤ 1048576 → B (out, (k : Int)) = some (.next (out ++ [x], ((k + 1 : Nat) : Int))))
    (hE : ∀ out, B (out, (rows.length : Int)) = some (.done out)) (hl : rows.length ≤ 1048576) : LoopF B ([], 0) = some rows := by
  have h := LoopF_foldl rows (fun (b : List Row) i => (b, i)) B (fun b x => b ++ [x]) id (fun k b => b.length = k) (b0 := []) (s0 := ([], 0)) rfl rfl
    (fun k b x hx hk hI => ⟨hB k b x hx (by omega), by simp [hI]⟩) (fun b _ => hE b)
  rw [h]
  have key : ∀ (l : List Row) (b : List Row), l.foldl (fun b x => b ++ [x]) b = b ++ l := by
    intro l
    induction l with
    | nil => simp
    | cons x l ih => intro b; rw [List.foldl_cons, ih]; simp
  rw [key]; rfl
theorem with_eq (t : Table) (rows : List Row) (ha : t.Attrs.length ≤ 1073741824) (hl : rows.length ≤ 1048576) (hv : ∀ r ∈ rows, r.Values.length ≤ 1048576) : table_with t rows = some ⟨t.Name, t.Attrs, rows⟩ := by
  simp only [table_with, Clone_string_eq _ ha, Option.bind_some]
  rw [copy_loop rows (fun k out x hx ho => by
    have hk := lt_of_get hx
    have hvx := hv x (List.mem_of_getElem? hx)
    have r1 : roomB x.Values.length 32 = true := room_le (by omega) (by omega)
    have r2 : roomB (out.length + 1) 32 = true := room_le (by omega) (by omega)
    have hcp : table_copied x = some x := by
      simp only [table_copied, slices_Clone_Value]
      rw [if_pos r1]; rfl
    simp only [table_with_l1, if_pos (lt_true hx), idx_get hx, Option.bind_some, hcp, r2, if_true, wrap_succ hk (show rows.length ≤ 4611686018427387904 by omega)]) (fun out => by simp [table_with_l1]) hl]
  rfl
theorem With_eq (t : Table) (rows : List Row) (ha : t.Attrs.length ≤ 1073741824) (hl : rows.length ≤ 1048576) (hv : ∀ r ∈ rows, r.Values.length ≤ 1048576) : drossref03_With t rows = some ⟨t.Name, t.Attrs, rows⟩ := by
  have r0 : roomB t.Attrs.length 16 = true := room_le (by omega) (by omega)
  simp only [drossref03_With, r0, if_true]
  rw [copy_loop rows (fun k out x hx ho => by
    have hk := lt_of_get hx
    have hvx := hv x (List.mem_of_getElem? hx)
    have r1 : roomB x.Values.length 32 = true := room_le (by omega) (by omega)
    have r2 : roomB (out.length + 1) 32 = true := room_le (by omega) (by omega)
    have hcp : drossref03_cp x = some x := by
      simp only [drossref03_cp, r1, if_true]
    simp only [drossref03_With_l1, if_pos (lt_true hx), idx_get hx, Option.bind_some, hcp, r2, if_true, wrap_succ hk (show rows.length ≤ 4611686018427387904 by omega)]) (fun out => by simp [drossref03_With_l1]) hl]
  rfl
theorem keep_loop {B : List Row × Int → Option (LS (List Row × Int) (List Row))} (rows : List Row) (p : Row → Bool)
    (hB : ∀ (k : Nat) (out : List Row) x, rows[k]? = some x → out.length ≤ 1048576 → B (out, (k : Int)) = some (.next (if p x then out ++ [x] else out, ((k + 1 : Nat) : Int))))
    (hE : ∀ out, B (out, (rows.length : Int)) = some (.done out)) (hl : rows.length ≤ 1048576) : LoopF B ([], 0) = some (rows.filter p) := by
  have h := LoopF_foldl rows (fun (b : List Row) i => (b, i)) B (fun b x => if p x then b ++ [x] else b) id (fun k b => b.length ≤ k) (b0 := []) (s0 := ([], 0)) rfl (Nat.le_refl _)
    (fun k b x hx hk hI => ⟨hB k b x hx (by omega), by split <;> (try simp only [List.length_append, List.length_singleton]) <;> omega⟩) (fun b _ => hE b)
  rw [h]
  have key : ∀ (l : List Row) (b : List Row), l.foldl (fun b x => if p x then b ++ [x] else b) b = b ++ l.filter p := by
    intro l
    induction l with
    | nil => simp
    | cons x l ih =>
      intro b
      rw [List.foldl_cons, ih]
      by_cases hp : p x = true <;> simp [hp]
  rw [key]; rfl
theorem keep_small {t : Table} {l : List Int} (hn : t.Rows.length ≤ 1048576) (hv : ∀ r ∈ t.Rows, r.Values.length ≤ 1048576) : (keepR t l).length ≤ 1048576 ∧ ∀ r ∈ keepR t l, r.Values.length ≤ 1048576 :=
  ⟨Nat.le_trans (List.length_filter_le _ _) hn, fun r hr => hv r (List.mem_filter.1 hr).1⟩
theorem Keep_eq (t : Table) (l : List Int) (ha : t.Attrs.length ≤ 1073741824) (hn : t.Rows.length ≤ 1048576) (hv : ∀ r ∈ t.Rows, r.Values.length ≤ 1048576) (hl : l.length ≤ 1073741824) :
    table_Keep t l = some ⟨t.Name, t.Attrs, keepR t l⟩ ∧ drossref03_Keep t l = some ⟨t.Name, t.Attrs, keepR t l⟩ := by
  obtain ⟨k1, k2⟩ := keep_small (l := l) hn hv
  refine ⟨?_, ?_⟩
  · simp only [table_Keep]
    rw [keep_loop t.Rows (fun r => decide (r.ID ∈ l)) (fun k out x hx ho => by
      have hk := lt_of_get hx
      have r2 : roomB (out.length + 1) 32 = true := room_le (by omega) (by omega)
      simp only [table_Keep_l1, if_pos (lt_true hx), idx_get hx, Option.bind_some, Contains_int64_eq l x.ID hl, r2, if_true, wrap_succ hk (show t.Rows.length ≤ 4611686018427387904 by omega)]
      by_cases hm : x.ID ∈ l <;> simp [hm]) (fun out => by simp [table_Keep_l1]) hn]
    simp only [Option.bind_some]
    exact (congrArg (Option.bind · _) (with_eq t (keepR t l) ha k1 k2)).trans rfl
  · simp only [drossref03_Keep]
    rw [keep_loop t.Rows (fun r => decide (r.ID ∈ l)) (fun k out x hx ho => by
      have hk := lt_of_get hx
      have r2 : roomB (out.length + 1) 32 = true := room_le (by omega) (by omega)
      simp only [drossref03_Keep_l1, if_pos (lt_true hx), idx_get hx, Option.bind_some, Has_eq l x.ID (by omega), r2, if_true, wrap_succ hk (show t.Rows.length ≤ 4611686018427387904 by omega)]
      by_cases hm : x.ID ∈ l <;> simp [hm]) (fun out => by simp [drossref03_Keep_l1]) hn]
    simp only [Option.bind_some]
    exact (congrArg (Option.bind · _) (With_eq t (keepR t l) ha k1 k2)).trans rfl
end Go.Proofs.YtdmddoljldjjeaaGreat
/- The merged table: its rows. -/
set_option linter.unusedVariables false
set_option linter.unusedSimpArgs false
namespace Go.Proofs.YtdmddoljldjjeaaGreat
open Go Go.Ab
theorem okRows_filter (n : Nat) (p : Row → Bool) : ∀ (l : List Row) (a b : Int), b ≤ a → rowsCode n a l = 0 → okRows b (l.filter p) = true
  | [], _, _, _, _ => rfl
  | r :: l, a, b, hab, h => by
    simp only [rowsCode] at h
    by_cases h1 : r.ID ≤ a
    · rw [if_pos h1] at h; cases h
    · rw [if_neg h1] at h
      by_cases h2 : r.Values.length = n
      · rw [if_neg (by simp [h2])] at h
        by_cases h3 : r.Values.all valid = true
        · rw [if_pos h3] at h
          rw [List.filter_cons]
          split
          · simp only [okRows, h3, Bool.and_true, Bool.and_eq_true, decide_eq_true_eq]
            exact ⟨by omega, okRows_filter n p l r.ID r.ID (Int.le_refl _) h⟩
          · exact okRows_filter n p l r.ID b (by omega) h
        · rw [if_neg h3] at h; cases h
      · rw [if_pos h2] at h; cases h
theorem tableErr_code {t : Table} (h : tableErr t = 0) : rowsCode t.Attrs.length 0 t.Rows = 0 := by
  unfold tableErr at h
  split at h
  · cases h
  · split at h
    · cases h
    · split at h
      · cases h
      · split at h
        · cases h
        · exact h
structure KR (t : Table) (rows : List Row) (rules : List Int) : Prop where
  ok : RowsOk rows
  ne : rows ≠ []
  err : rowsErr rows = 0
  okr : okRows 0 rows = true
  lens : ∀ r ∈ rows, r.Values.length = t.Attrs.length
theorem keep_rows {t : Table} (hv : tableErr t = 0) (T : TabOk t) {l : List Int} (hl : l ≠ []) (hs : ∀ x ∈ l, x ∈ ids t) (rules : List Int) : KR t (keepR t l) rules := by
  have hlen : ∀ r ∈ keepR t l, r.Values.length = t.Attrs.length := fun r hr => (tableErr_zero hv).1 r (List.mem_filter.1 hr).1
  have hne : keepR t l ≠ [] := by
    obtain ⟨x, r, rfl⟩ : ∃ x r, l = x :: r := by cases l with | nil => exact absurd rfl hl | cons x r => exact ⟨x, r, rfl⟩
    obtain ⟨q, hq, he⟩ := List.mem_map.1 (hs x (by simp))
    have : q ∈ keepR t (x :: r) := List.mem_filter.2 ⟨hq, by simp [he]⟩
    intro e; rw [e] at this; cases this
  refine ⟨⟨Nat.le_trans (List.length_filter_le _ _) T.rows, fun r hr => T.vals r (List.mem_filter.1 hr).1, fun r hr => T.short r (List.mem_filter.1 hr).1⟩, hne, ?_, okRows_filter _ _ _ _ _ (Int.le_refl _) (tableErr_code hv), hlen⟩
  cases hk : keepR t l with
  | nil => exact absurd hk hne
  | cons q r =>
    simp only [rowsErr]
    rw [if_pos]
    rw [List.all_eq_true]
    intro x hx
    rw [← hk] at hx
    have h1 := hlen x hx
    have h2 := hlen q (by rw [hk]; simp)
    simp [h1, h2]
/-- the merged row of some IDs, and its origins -/
def mrow (t : Table) (rules : List Int) (l : List Int) : Row := ⟨((keepR t l)[0]?.map (·.ID)).getD 0, (mergedV (keepR t l) rules).1⟩
def morg (t : Table) (rules : List Int) (l : List Int) : List Int := (mergedV (keepR t l) rules).2
theorem merge_both {t : Table} {rules l : List Int} (K : KR t (keepR t l) rules) (hr : rules.length ≤ 1048576) (hrl : rules.length = t.Attrs.length) (hok : rules.all okRule = true) :
    survivor_Merge (keepR t l) rules = some (mrow t rules l, morg t rules l, 0) ∧ drossref55_merge (keepR t l) rules = some ⟨mrow t rules l, morg t rules l⟩ := by
  obtain ⟨r0, rs, hrows⟩ : ∃ r q, keepR t l = r :: q := by cases h : keepR t l with | nil => exact absurd h K.ne | cons r q => exact ⟨r, q, rfl⟩
  have h0 : (keepR t l)[0]? = some r0 := by rw [hrows]; rfl
  have hr0 : r0.Values.length = t.Attrs.length := K.lens r0 (by rw [hrows]; simp)
  have ha : ∀ a, a < rules.length → Has (keepR t l) a := fun a h => has_of K.err h0 (by omega)
  refine ⟨?_, ?_⟩
  · rw [Merge_eq _ _ K.ok hr]
    unfold merging
    rw [if_neg (by simp [K.err]), if_neg (by rw [h0]; simp [hrl, hr0]), if_neg (by simp [K.okr, hok])]
    rfl
  · rw [ref_merge_eq _ rules r0 h0 K.ok.len hr ha K.ok.short (okRows_pos _ 0 (by omega) K.okr)]
    unfold mrow morg
    rw [h0]; rfl
/-- the merged table for sorted clusters -/
def mtab (t : Table) (rules : List Int) (l : List (List Int)) : Merged := ⟨⟨t.Name, t.Attrs, l.map (mrow t rules)⟩, l, l.map (morg t rules)⟩
def stepT (t : Table) (rules : List Int) (b : List Row × List (List Int) × List (List Int)) (x : List Int) : List Row × List (List Int) × List (List Int) := (b.1 ++ [mrow t rules x], b.2.1 ++ [x], b.2.2 ++ [morg t rules x])
theorem stepT_fold (t : Table) (rules : List Int) : ∀ (l : List (List Int)) (b : List Row × List (List Int) × List (List Int)), l.foldl (stepT t rules) b = (b.1 ++ l.map (mrow t rules), b.2.1 ++ l, b.2.2 ++ l.map (morg t rules))
  | [], b => by simp
  | x :: l, b => by
    rw [List.foldl_cons, stepT_fold t rules l]
    simp [stepT]
structure TabArgs (t : Table) (rules : List Int) (l : List (List Int)) : Prop where
  err : tableErr t = 0
  ok : TabOk t
  nr : t.Rows.length ≤ 1048576
  nv : ∀ r ∈ t.Rows, r.Values.length ≤ 1048576
  rl : rules.length = t.Attrs.length
  rs : rules.length ≤ 1048576
  rok : rules.all okRule = true
  cl : l.length ≤ 1048576
  ne : ∀ x ∈ l, x ≠ []
  sub : ∀ x ∈ l, ∀ y ∈ x, y ∈ ids t
  len : ∀ x ∈ l, x.length ≤ 1048576
theorem table_loops {t : Table} {rules : List Int} {l : List (List Int)} (A : TabArgs t rules l) :
    LoopF (survivor_Table_l19 t rules l) ([], [], [], 0) = some (.inl ((mtab t rules l).Table.Rows, l, (mtab t rules l).Origins)) ∧
    LoopF (drossref55_Table_l8 t rules l) ([], [], [], 0) = some ((mtab t rules l).Table.Rows, l, (mtab t rules l).Origins) := by
  have hat : t.Attrs.length ≤ 1073741824 := A.ok.attrs
  have hcl := A.cl
  have step : ∀ (k : Nat) (b : List Row × List (List Int) × List (List Int)) x, l[k]? = some x → (b.1.length = k ∧ b.2.1.length = k ∧ b.2.2.length = k) → k < l.length →
      survivor_Table_l19 t rules l (b.1, b.2.1, b.2.2, (k : Int)) = some (.next ((stepT t rules b x).1, (stepT t rules b x).2.1, (stepT t rules b x).2.2, ((k + 1 : Nat) : Int))) ∧
      drossref55_Table_l8 t rules l (b.1, b.2.1, b.2.2, (k : Int)) = some (.next ((stepT t rules b x).1, (stepT t rules b x).2.1, (stepT t rules b x).2.2, ((k + 1 : Nat) : Int))) := by
    intro k b x hx hI hk
    have hm := List.mem_of_getElem? hx
    have hxl := A.len x hm
    obtain ⟨e1, e2⟩ := Keep_eq t x hat A.nr A.nv (by omega)
    obtain ⟨e3, e4⟩ := merge_both (keep_rows A.err A.ok (A.ne x hm) (A.sub x hm) rules) A.rs A.rl A.rok
    have r1 : roomB (b.1.length + 1) 32 = true := room_le (by omega) (by omega)
    have r2 : roomB (b.2.1.length + 1) 24 = true := room_le (by omega) (by omega)
    have r3 : roomB (b.2.2.length + 1) 24 = true := room_le (by omega) (by omega)
    have r4 : roomB x.length 8 = true := room_le (by omega) (by omega)
    have hw := wrap_succ hk (show l.length ≤ 4611686018427387904 by omega)
    refine ⟨?_, ?_⟩
    · simp only [survivor_Table_l19, if_pos (lt_true hx), idx_get hx, Option.bind_some, e1, e3, bne_self_eq_false, Bool.false_eq_true, if_false, r1, r2, r3, if_true, Clone_int64_eq x (by omega), hw, stepT]
    · simp only [drossref55_Table_l8, if_pos (lt_true hx), idx_get hx, Option.bind_some, e2, e4, r1, r2, r3, r4, if_true, hw, stepT]
  have inv : ∀ (k : Nat) (b : List Row × List (List Int) × List (List Int)) x, (b.1.length = k ∧ b.2.1.length = k ∧ b.2.2.length = k) → ((stepT t rules b x).1.length = k + 1 ∧ (stepT t rules b x).2.1.length = k + 1 ∧ (stepT t rules b x).2.2.length = k + 1) := by
    intro k b x h; simp [stepT, h]
  refine ⟨?_, ?_⟩
  · have h := LoopF_foldl l (fun (b : List Row × List (List Int) × List (List Int)) i => (b.1, b.2.1, b.2.2, i)) (survivor_Table_l19 t rules l) (stepT t rules) (fun b => (Sum.inl b : (List Row × List (List Int) × List (List Int)) ⊕ (Merged × Int))) (fun k b => b.1.length = k ∧ b.2.1.length = k ∧ b.2.2.length = k) (b0 := ([], [], [])) (s0 := ([], [], [], 0)) rfl ⟨rfl, rfl, rfl⟩
      (fun k b x hx hk hI => ⟨(step k b x hx hI hk).1, inv k b x hI⟩) (fun b _ => by simp [survivor_Table_l19])
    rw [h, stepT_fold]; rfl
  · have h := LoopF_foldl l (fun (b : List Row × List (List Int) × List (List Int)) i => (b.1, b.2.1, b.2.2, i)) (drossref55_Table_l8 t rules l) (stepT t rules) id (fun k b => b.1.length = k ∧ b.2.1.length = k ∧ b.2.2.length = k) (b0 := ([], [], [])) (s0 := ([], [], [], 0)) rfl ⟨rfl, rfl, rfl⟩
      (fun k b x hx hk hI => ⟨(step k b x hx hI hk).2, inv k b x hI⟩) (fun b _ => by simp [drossref55_Table_l8])
    rw [h, stepT_fold]; rfl
/-- the clusters, sorted as both sort them -/
noncomputable def sorted (cs : List (List Int)) : List (List Int) := (LoopF drossref55_Table_l5 (cs, 0)).getD []
def noTab : Merged := ⟨⟨[], [], []⟩, [], []⟩
/-- what both answer -/
noncomputable def tableB (t : Table) (cs : List (List Int)) (rules : List Int) : Merged × Int :=
  if tableErr t ≠ 0 then (noTab, tableErr t) else if rules.length ≠ t.Attrs.length then (noTab, 6) else if rules.all okRule = false then (noTab, 1)
  else if divA t cs = false then (noTab, 1) else (mtab t rules (sorted cs), 0)
structure TB (t : Table) (cs : List (List Int)) (rules : List Int) : Prop where
  ok : TabOk t
  nr : t.Rows.length ≤ 1048576
  nv : ∀ r ∈ t.Rows, r.Values.length ≤ 1048576
  ncs : cs.length ≤ 12
  lcs : ∀ c ∈ cs, c.length ≤ 1048576
  nrul : rules.length ≤ 1048576
theorem sorted_ok {t : Table} {cs : List (List Int)} (hc : cs.length ≤ 12) (hd : divA t cs = true) : LoopF (survivor_Table_l18 cs) () = some (sorted cs) ∧ LoopF drossref55_Table_l5 (cs, 0) = some (sorted cs) ∧ (sorted cs).Perm cs := by
  simp only [divA, Bool.and_eq_true] at hd
  obtain ⟨l, e1, e2, e3⟩ := sort_same cs hc (fun x hx => onceB_ne hd.1 x hx)
  have e : sorted cs = l := by unfold sorted; rw [e2]; rfl
  rw [e]; exact ⟨e1, e2, e3⟩
theorem tabArgs {t : Table} {cs : List (List Int)} {rules : List Int} (B : TB t cs rules) (h1 : tableErr t = 0) (h2 : rules.length = t.Attrs.length) (h3 : rules.all okRule = true) (h4 : divA t cs = true) : TabArgs t rules (sorted cs) := by
  obtain ⟨_, _, hp⟩ := sorted_ok B.ncs h4
  have hd := h4
  rw [div_same h1] at hd
  simp only [divA, divB, Bool.and_eq_true, List.all_eq_true, decide_eq_true_eq] at h4 hd
  exact ⟨h1, B.ok, B.nr, B.nv, h2, B.nrul, h3, by have := hp.length_eq; have := B.ncs; omega, fun x hx => onceB_ne h4.1 x (hp.mem_iff.1 hx), fun x hx y hy => hd.2.2 y (List.mem_flatten.2 ⟨x, hp.mem_iff.1 hx, hy⟩), fun x hx => B.lcs x (hp.mem_iff.1 hx)⟩
theorem Table_eq (t : Table) (cs : List (List Int)) (rules : List Int) (B : TB t cs rules) : survivor_Table t cs rules = some (tableB t cs rules) ∧ drossref55_Table t cs rules = some (tableB t cs rules) := by
  have hncs := B.ncs
  have hnr := B.nrul
  have hlcs : ∀ c ∈ cs, c.length ≤ 1073741824 := fun c hc => by have := B.lcs c hc; omega
  have hcf : slices_ContainsFunc_int rules (fun y => survivor_Table_1 y) = some (!rules.all okRule) := by
    rw [← any_not_all]
    exact ContainsFunc_int_eq _ _ _ (fun y _ => by simp [survivor_Table_1, validRule_eq, okRule]) (by omega)
  have hroom : roomB cs.length 24 = true := room_le (by omega) (by omega)
  have hroom2 : roomB t.Attrs.length 16 = true := room_le (by have := B.ok.attrs; omega) (by omega)
  obtain ⟨z, hz⟩ := Len_some hncs
  simp only [survivor_Table, drossref55_Table, table_Valid_table t B.ok, ref_Valid_table t B.ok, Option.bind_some, tableB, noTab]
  by_cases h1 : tableErr t = 0
  · by_cases h2 : rules.length = t.Attrs.length
    · have h2' : ¬ (((rules.length : Int) != (t.Attrs.length : Int)) = true) := by simp [h2]
      by_cases h3 : rules.all okRule = true
      · by_cases h4 : divA t cs = true
        · obtain ⟨s1, s2, s3⟩ := sorted_ok hncs h4
          obtain ⟨l1, l2⟩ := table_loops (tabArgs B h1 h2 h3 h4)
          have hl7 : LoopF drossref55_Table_l7 () = some () := Loop_done rfl
          simp only [h1, bne_self_eq_false, Bool.false_eq_true, if_false, if_neg h2', hcf, h3, Bool.not_true, divides_eq t cs B.ok.rows (by omega) hlcs, Of_eq t cs B.ok.rows (by omega) B.lcs, ← div_same h1, h4, if_true, hroom, hz, Option.bind_some, s1, s2, s3.length_eq, Clone_string_eq _ B.ok.attrs, l1, l2, hroom2, hl7, Rules_eq rules (show rules.length ≤ 1073741824 by omega), ne_eq, not_true_eq_false, h2, Bool.true_eq_false]
          exact ⟨rfl, rfl⟩
        · simp only [Bool.not_eq_true] at h4
          simp [h1, h2, hcf, h3, divides_eq t cs B.ok.rows (by omega) hlcs, Of_eq t cs B.ok.rows (by omega) B.lcs, ← div_same h1, h4, Rules_eq rules (show rules.length ≤ 1073741824 by omega)]
      · simp only [Bool.not_eq_true] at h3
        simp [h1, h2, hcf, h3, Rules_eq rules (show rules.length ≤ 1073741824 by omega)]
    · have h2' : ¬ ((rules.length : Int) = (t.Attrs.length : Int)) := by omega
      simp [h1, h2, h2']
  · simp [h1]
end Go.Proofs.YtdmddoljldjjeaaGreat
/- Two merged tables that are the same. -/
set_option linter.unusedVariables false
set_option linter.unusedSimpArgs false
namespace Go.Proofs.YtdmddoljldjjeaaGreat
open Go Go.Ab
structure MB (m : Merged) : Prop where
  na : m.Table.Attrs.length ≤ 1073741824
  nr : m.Table.Rows.length ≤ 1073741824
  nv : ∀ r ∈ m.Table.Rows, r.Values.length ≤ 1073741824
  sh : ∀ r ∈ m.Table.Rows, ∀ v ∈ r.Values, v.Str.length ≤ 1073741824
  nc : m.Clusters.length ≤ 1073741824
  lc : ∀ c ∈ m.Clusters, c.length ≤ 1073741824
  no : m.Origins.length ≤ 1073741824
  lo : ∀ c ∈ m.Origins, c.length ≤ 1073741824
theorem same_loop {α : Type} [DecidableEq α] (a b : List α) (h : a.length = b.length) {B : Int → Option (LS Int (Unit ⊕ Bool))}
    (hB : ∀ (k : Nat) x y, a[k]? = some x → b[k]? = some y → B (k : Int) = if decide (x = y) = true then some (.next ((k + 1 : Nat) : Int)) else some (.done (.inr false)))
    (hE : B (a.length : Int) = some (.done (.inl ()))) : LoopF B 0 = some (if decide (a = b) then .inl () else .inr false) := by
  have hl := LoopF_allk a B (fun k x => decide (b[k]? = some x)) false
    (fun k x hx hk hp => by
      simp only [decide_eq_true_eq] at hp
      rw [hB k x x hx hp]; simp)
    (fun k x hx hp => by
      have hk := lt_of_get hx
      have hb : b[k]? = some (b[k]'(by omega)) := List.getElem?_eq_getElem (by omega)
      rw [hb] at hp
      simp only [Option.some.injEq, decide_eq_false_iff_not] at hp
      rw [hB k x _ hx hb, if_neg]
      simp only [decide_eq_true_eq]; exact fun e => hp e.symm) hE a 0 rfl (Nat.zero_le _)
  simp only [Int.natCast_zero, allFrom_same a b h] at hl
  exact hl
theorem Equal_eq (a b : Table) (h1 : a.Attrs.length ≤ 1073741824) (h2 : a.Rows.length ≤ 1073741824) (h3 : ∀ r ∈ a.Rows, r.Values.length ≤ 1073741824) (h4 : ∀ r ∈ a.Rows, ∀ v ∈ r.Values, v.Str.length ≤ 1073741824) : drossref03_Equal a b = some (decide (a = b)) := by
  simp only [drossref03_Equal, Strings_eq _ _ h1, Option.bind_some]
  obtain ⟨an, aa, ar⟩ := a
  obtain ⟨bn, ba, br⟩ := b
  simp only at h1 h2 h3 h4 ⊢
  by_cases e1 : an = bn
  · by_cases e2 : aa = ba
    · by_cases h : ar.length = br.length
      · have e : ¬ (((ar.length : Int) != (br.length : Int)) = true) := by simp [h]
        have hl := same_loop ar br h (B := drossref03_Equal_l1 ⟨an, aa, ar⟩ ⟨bn, ba, br⟩) (fun k x y hx hy => by
          have hk := lt_of_get hx
          have hm := List.mem_of_getElem? hx
          simp only [drossref03_Equal_l1, if_pos (lt_true hx), idx_get hx, idx_get hy, Option.bind_some, EqualRows_eq x y (h3 x hm) (h4 x hm), wrap_succ hk (show ar.length ≤ 4611686018427387904 by omega)]) (by simp [drossref03_Equal_l1])
        simp only [e1, e2, beq_self_eq_true, if_true, decide_true, if_neg e] at hl ⊢
        rw [hl]
        by_cases hab : ar = br <;> simp [hab]
      · have e : (((ar.length : Int) != (br.length : Int)) = true) := by rw [bne_iff_ne]; omega
        have : ar ≠ br := fun hh => h (by rw [hh])
        simp [e1, e2, e, this]
    · simp [e1, e2]
  · simp [e1]
theorem mb_mtab {t : Table} {rules : List Int} {l : List (List Int)} (A : TabArgs t rules l) : MB (mtab t rules l) := by
  have hcl := A.cl
  have hrs := A.rs
  have hlen : ∀ x, (mergedV (keepR t x) rules).1.length = rules.length ∧ (mergedV (keepR t x) rules).2.length = rules.length := fun x => by
    have h := mergedV_len (keepR t x) rules ([], [])
    simp only [List.length_nil, Nat.zero_add] at h
    exact h
  refine ⟨A.ok.attrs, by simp only [mtab, List.length_map]; omega, ?_, ?_, by simp only [mtab]; omega, fun c hc => by have := A.len c hc; omega, by simp only [mtab, List.length_map]; omega, ?_⟩
  · intro r hr
    obtain ⟨x, hx, rfl⟩ := List.mem_map.1 hr
    show (mergedV (keepR t x) rules).1.length ≤ _
    rw [(hlen x).1]; omega
  · intro r hr
    obtain ⟨x, hx, rfl⟩ := List.mem_map.1 hr
    exact mergedV_short (keepR t x) (fun r hr => A.ok.short r (List.mem_filter.1 hr).1) rules ([], []) (by simp)
  · intro c hc
    obtain ⟨x, hx, rfl⟩ := List.mem_map.1 hc
    show (mergedV (keepR t x) rules).2.length ≤ _
    rw [(hlen x).2]; omega
end Go.Proofs.YtdmddoljldjjeaaGreat
/- Equality of merged tables as the program tells it. -/
set_option linter.unusedVariables false
set_option linter.unusedSimpArgs false
namespace Go.Proofs.YtdmddoljldjjeaaGreat
open Go Go.Ab
end Go.Proofs.YtdmddoljldjjeaaGreat
/- Merging: both ways agree; what it gives. -/
set_option linter.unusedVariables false
set_option linter.unusedSimpArgs false
namespace Go.Proofs.YtdmddoljldjjeaaGreat
open Go Go.Ab
def rowV (t : Table) (i : Nat) : List Value := (t.Rows.getD i ⟨0, []⟩).Values
def valAt (t : Table) (i j : Nat) : Value := (rowV t i).getD j ⟨0, 0, []⟩
/-- the value that a table holds at an ID and a column -/
def atID (t : Table) (id : Int) (j : Nat) : Value := valAt t (findB t id).1.toNat j
def rowMer (t m : Table) (og : List Int) (k : Nat) : Bool := allFrom (fun j x => decide (atID t x j = valAt m k j)) 0 og
def mergesB (t : Table) (m : Merged) : Bool :=
  wfB m && (decide (t.Name = m.Table.Name) && (decide (t.Attrs = m.Table.Attrs) && (divA t m.Clusters && allFrom (fun k x => rowMer t m.Table x k) 0 m.Origins)))
theorem get_row {t : Table} {k : Nat} (h : k < t.Rows.length) : t.Rows[k]? = some (t.Rows.getD k ⟨0, []⟩) := by simp [List.getD, List.getElem?_eq_getElem h]
theorem get_val {t : Table} {k j : Nat} (h : j < (rowV t k).length) : (t.Rows.getD k ⟨0, []⟩).Values[j]? = some (valAt t k j) := by
  unfold valAt
  show (rowV t k)[j]? = _
  rw [List.getElem?_eq_getElem h, List.getD, List.getElem?_eq_getElem h]; rfl
theorem rowV_len {t : Table} (h : tableErr t = 0) {k : Nat} (hk : k < t.Rows.length) : (rowV t k).length = t.Attrs.length :=
  (tableErr_zero h).1 _ (List.mem_of_getElem? (get_row hk))
structure MF (t : Table) (m : Merged) : Prop where
  tv : tableErr t = 0
  mv : tableErr m.Table = 0
  ncl : m.Clusters.length = m.Table.Rows.length
  nor : m.Origins.length = m.Table.Rows.length
  once : onceB [] m.Clusters = true
  fits : ∀ (k : Nat) (r : Row), m.Table.Rows[k]? = some r → rowFits m k r = true
  attrs : t.Attrs = m.Table.Attrs
  ids : ∀ x, x ∈ ids t ↔ x ∈ m.Clusters.flatten
theorem mf_of {t : Table} {m : Merged} (ht : tableErr t = 0) (hw : wfB m = true) (ha : t.Attrs = m.Table.Attrs) (hd : divA t m.Clusters = true) : MF t m := by
  obtain ⟨h1, h2, h3, h4, h5⟩ := wf_facts hw
  refine ⟨ht, h1, h2, h3, h4, h5, ha, fun x => ?_⟩
  have hd' : divB t m.Clusters = true := by rw [← div_same ht]; exact hd
  simp only [divA, divB, Bool.and_eq_true, List.all_eq_true, decide_eq_true_eq] at hd hd'
  exact ⟨hd.2.2 x, hd'.2.2 x⟩
theorem og_len {t : Table} {m : Merged} (M : MF t m) {k : Nat} (hk : k < m.Table.Rows.length) : (og m k).length = m.Table.Attrs.length ∧ ∀ x ∈ og m k, x ∈ ids t := by
  have := M.fits k _ (get_row hk)
  simp only [rowFits, Bool.and_eq_true, List.all_eq_true, decide_eq_true_eq] at this
  refine ⟨this.2.1, fun x hx => (M.ids x).2 ?_⟩
  have hc := get_cl (m := m) (k := k) (by have := M.ncl; omega)
  exact List.mem_flatten.2 ⟨_, List.mem_of_getElem? hc, this.2.2 x hx⟩
theorem id_get {t : Table} (h : tableErr t = 0) {x : Int} (hx : x ∈ ids t) : ∃ i : Nat, (findB t x).1 = (i : Int) ∧ t.Rows[i]? = some (t.Rows.getD i ⟨0, []⟩) ∧ (rowV t i).length = t.Attrs.length ∧ ∀ j, atID t x j = valAt t i j := by
  obtain ⟨i, r, h1, h2, h3⟩ := findB_get t x hx
  have hi := lt_of_get h2
  exact ⟨i, by rw [h1], get_row hi, rowV_len h hi, fun j => by unfold atID; rw [h1]; rfl⟩

theorem merges_row {t : Table} {m : Merged} (M : MF t m) (H : MerOk m) (T : TabOk t) (k : Nat) (hk : k < m.Table.Rows.length) :
    LoopF (survivor_merges_l3 t m k (m.Table.Rows.getD k ⟨0, []⟩)) 0 = some (if rowMer t m.Table (og m k) k then .inl () else .inr false) ∧
    LoopF (drossref55_Merging_l3 t m k) 0 = some (if rowMer t m.Table (og m k) k then .inl () else .inr false) := by
  obtain ⟨ho1, ho2⟩ := og_len M hk
  have ho := get_og (m := m) (k := k) (by have := M.nor; omega)
  have hlen : (rowV m.Table k).length = (og m k).length := by rw [rowV_len M.mv hk, ho1]
  have hL := H.lor _ (List.mem_of_getElem? ho)
  have hA := M.attrs
  have hrl : (m.Table.Rows.getD k ⟨0, []⟩).Values.length = (og m k).length := hlen
  refine ⟨?_, ?_⟩
  · have h := LoopF_allk (og m k) (survivor_merges_l3 t m k (m.Table.Rows.getD k ⟨0, []⟩)) (fun j x => decide (atID t x j = valAt m.Table k j)) false
      (fun j x hj hjk hp => by
        obtain ⟨i, e1, e2, e3, e4⟩ := id_get M.tv (ho2 x (List.mem_of_getElem? hj))
        simp only [decide_eq_true_eq] at hp
        have g1 := get_val (t := m.Table) (k := k) (j := j) (by omega)
        have g2 := get_val (t := t) (k := i) (j := j) (by rw [e3, hA, ← ho1]; exact hjk)
        rw [← e4 j] at g2
        have hv : ((atID t x j).Kind == (valAt m.Table k j).Kind && ((atID t x j).Num == (valAt m.Table k j).Num && (atID t x j).Str == (valAt m.Table k j).Str)) = true := (veq_iff _ _).2 hp
        have hlt : (j : Int) < (((m.Table.Rows.getD k ⟨0, []⟩).Values.length : Nat) : Int) := by omega
        simp only [survivor_merges_l3, if_pos hlt, idx_get g1, idx_get ho, idx_get hj, Option.bind_some, table_Find_eq t x T.rows, e1, idx_get e2, idx_get g2, if_pos hv, wrap_succ hjk (show (og m k).length ≤ 4611686018427387904 by omega)])
      (fun j x hj hp => by
        obtain ⟨i, e1, e2, e3, e4⟩ := id_get M.tv (ho2 x (List.mem_of_getElem? hj))
        have hjk := lt_of_get hj
        simp only [decide_eq_false_iff_not] at hp
        have g1 := get_val (t := m.Table) (k := k) (j := j) (by omega)
        have g2 := get_val (t := t) (k := i) (j := j) (by rw [e3, hA, ← ho1]; exact hjk)
        rw [← e4 j] at g2
        have hv : ¬ (((atID t x j).Kind == (valAt m.Table k j).Kind && ((atID t x j).Num == (valAt m.Table k j).Num && (atID t x j).Str == (valAt m.Table k j).Str)) = true) := fun e => hp ((veq_iff _ _).1 e)
        have hlt : (j : Int) < (((m.Table.Rows.getD k ⟨0, []⟩).Values.length : Nat) : Int) := by omega
        simp only [survivor_merges_l3, if_pos hlt, idx_get g1, idx_get ho, idx_get hj, Option.bind_some, table_Find_eq t x T.rows, e1, idx_get e2, idx_get g2, if_neg hv])
      (by
        have : ¬ (((og m k).length : Int) < (((m.Table.Rows.getD k ⟨0, []⟩).Values.length : Nat) : Int)) := by omega
        simp only [survivor_merges_l3, if_neg this]) (og m k) 0 rfl (Nat.zero_le _)
    simp only [Int.natCast_zero] at h
    exact h
  · have h := LoopF_allk (og m k) (drossref55_Merging_l3 t m k) (fun j x => decide (atID t x j = valAt m.Table k j)) false
      (fun j x hj hjk hp => by
        obtain ⟨i, e1, e2, e3, e4⟩ := id_get M.tv (ho2 x (List.mem_of_getElem? hj))
        simp only [decide_eq_true_eq] at hp
        have g1 := get_val (t := m.Table) (k := k) (j := j) (by omega)
        have g2 := get_val (t := t) (k := i) (j := j) (by rw [e3, hA, ← ho1]; exact hjk)
        rw [← e4 j] at g2
        have hs := T.short _ (List.mem_of_getElem? e2) _ (List.mem_of_getElem? g2)
        have hv : ¬ ((vcmp (atID t x j) (valAt m.Table k j) != 0) = true) := by rw [hp]; simp [(vcmp_eq _ _).2 rfl]
        simp only [drossref55_Merging_l3, if_pos (lt_true hj), idx_get g1, idx_get ho, idx_get hj, Option.bind_some, ref_Find_eq t x T.rows, e1, idx_get e2, idx_get g2, idx_get (get_row hk), ref_Compare_eq _ _ hs, if_neg hv, wrap_succ hjk (show (og m k).length ≤ 4611686018427387904 by omega)])
      (fun j x hj hp => by
        obtain ⟨i, e1, e2, e3, e4⟩ := id_get M.tv (ho2 x (List.mem_of_getElem? hj))
        have hjk := lt_of_get hj
        simp only [decide_eq_false_iff_not] at hp
        have g1 := get_val (t := m.Table) (k := k) (j := j) (by omega)
        have g2 := get_val (t := t) (k := i) (j := j) (by rw [e3, hA, ← ho1]; exact hjk)
        rw [← e4 j] at g2
        have hs := T.short _ (List.mem_of_getElem? e2) _ (List.mem_of_getElem? g2)
        have hv : ((vcmp (atID t x j) (valAt m.Table k j) != 0) = true) := by rw [bne_iff_ne]; exact fun e => hp ((vcmp_eq _ _).1 e)
        simp only [drossref55_Merging_l3, if_pos (lt_true hj), idx_get g1, idx_get ho, idx_get hj, Option.bind_some, ref_Find_eq t x T.rows, e1, idx_get e2, idx_get g2, idx_get (get_row hk), ref_Compare_eq _ _ hs, if_pos hv])
      (by simp [drossref55_Merging_l3, idx_get ho]) (og m k) 0 rfl (Nat.zero_le _)
    simp only [Int.natCast_zero] at h
    exact h
theorem get_og' {m : Merged} {k : Nat} {x : List Int} (h : m.Origins[k]? = some x) : x = og m k := by
  have := get_og (lt_of_get h)
  rw [h] at this
  exact Option.some.inj this
theorem merges_eq (t : Table) (m : Merged) (ht : tableErr t = 0) (H : MerOk m) (T : TabOk t) (hat : t.Attrs.length ≤ 1073741824) :
    survivor_merges t m = some (mergesB t m) ∧ drossref55_Merging t m = some (mergesB t m) := by
  have hat' : m.Table.Attrs.length ≤ 1073741824 := by have := H.nattrs; omega
  have hdl : ∀ c ∈ m.Clusters, c.length ≤ 1073741824 := fun c hc => by have := H.lcl c hc; omega
  have hnc := H.ncl
  simp only [survivor_merges, drossref55_Merging, wellFormed_eq m H, WellFormed_eq m H, Option.bind_some, mergesB, Equal_string_eq _ _ hat, Strings_eq _ _ hat', divides_eq t m.Clusters T.rows (by omega) hdl, Of_eq t m.Clusters T.rows hnc H.lcl, ← div_same ht]
  by_cases h1 : wfB m = true
  · by_cases h2 : t.Name = m.Table.Name
    · by_cases h3 : t.Attrs = m.Table.Attrs
      · by_cases h4 : divA t m.Clusters = true
        · have M := mf_of ht h1 h3 h4
          have ha := LoopF_allk m.Origins (survivor_merges_l4 t m) (fun k x => rowMer t m.Table x k) false
            (fun k x hx hk hp => by
              have hk' : k < m.Table.Rows.length := by have := M.nor; omega
              obtain ⟨e1, e2⟩ := merges_row M H T k hk'
              obtain rfl := get_og' hx
              rw [if_pos hp] at e1
              have hlt : (k : Int) < (m.Table.Rows.length : Int) := by omega
              simp only [survivor_merges_l4, if_pos hlt, idx_get (get_row hk'), Option.bind_some, e1, wrap_succ hk (show m.Origins.length ≤ 4611686018427387904 by have := H.nor; omega)])
            (fun k x hx hp => by
              have hk := lt_of_get hx
              have hk' : k < m.Table.Rows.length := by have := M.nor; omega
              obtain ⟨e1, e2⟩ := merges_row M H T k hk'
              obtain rfl := get_og' hx
              rw [if_neg (by rw [hp]; simp)] at e1
              have hlt : (k : Int) < (m.Table.Rows.length : Int) := by omega
              simp only [survivor_merges_l4, if_pos hlt, idx_get (get_row hk'), Option.bind_some, e1])
            (by
              have : ¬ ((m.Origins.length : Int) < (m.Table.Rows.length : Int)) := by have := M.nor; omega
              simp only [survivor_merges_l4, if_neg this]) m.Origins 0 rfl (Nat.zero_le _)
          have hb := LoopF_allk m.Origins (drossref55_Merging_l4 t m) (fun k x => rowMer t m.Table x k) false
            (fun k x hx hk hp => by
              have hk' : k < m.Table.Rows.length := by have := M.nor; omega
              obtain ⟨e1, e2⟩ := merges_row M H T k hk'
              obtain rfl := get_og' hx
              rw [if_pos hp] at e2
              simp only [drossref55_Merging_l4, if_pos (lt_true hx), Option.bind_some, e2, wrap_succ hk (show m.Origins.length ≤ 4611686018427387904 by have := H.nor; omega)])
            (fun k x hx hp => by
              have hk := lt_of_get hx
              have hk' : k < m.Table.Rows.length := by have := M.nor; omega
              obtain ⟨e1, e2⟩ := merges_row M H T k hk'
              obtain rfl := get_og' hx
              rw [if_neg (by rw [hp]; simp)] at e2
              simp only [drossref55_Merging_l4, if_pos (lt_true hx), Option.bind_some, e2])
            (by simp [drossref55_Merging_l4]) m.Origins 0 rfl (Nat.zero_le _)
          simp only [Int.natCast_zero] at ha hb
          have e2 : (t.Name == m.Table.Name) = true := by simp [h2]
          have e2' : (m.Table.Name == t.Name) = true := by simp [h2]
          have e3' : m.Table.Attrs = t.Attrs := h3.symm
          have d3 : decide (m.Table.Attrs = t.Attrs) = true := by simp [h3]
          have d4 : decide (t.Attrs = m.Table.Attrs) = true := by simp [h3]
          have d5 : decide (t.Name = m.Table.Name) = true := by simp [h2]
          simp only [h1, h4, e2, e2', if_true, d3, d4, d5, Bool.true_and, ha, hb, Option.bind_some]
          cases allFrom (fun k x => rowMer t m.Table x k) 0 m.Origins <;> exact ⟨rfl, rfl⟩
        · simp only [Bool.not_eq_true] at h4
          simp [h1, h2, h3, h4]
      · have h3' : ¬ m.Table.Attrs = t.Attrs := fun e => h3 e.symm
        simp [h1, h2, h3, h3']
    · have h2' : ¬ m.Table.Name = t.Name := fun e => h2 e.symm
      simp [h1, h2, h2']
  · simp only [Bool.not_eq_true] at h1
    simp [h1]
end Go.Proofs.YtdmddoljldjjeaaGreat
/- Sorting by insertion, for any order. -/
set_option linter.unusedVariables false
set_option linter.unusedSimpArgs false
namespace Go.Ab
open Go
theorem swap_get {α : Type} {data : List α} {k : Nat} {x y : α} (h1 : k + 1 < data.length) (j : Nat) : ((data.set (k + 1) y).set k x)[j]? = if j = k then some x else if j = k + 1 then some y else data[j]? := by
  rw [List.getElem?_set, List.getElem?_set]
  by_cases hk : k = j
  · subst hk; simp; omega
  · rw [if_neg hk, if_neg (Ne.symm hk)]
    by_cases hk1 : k + 1 = j
    · subst hk1; simp [h1]
    · rw [if_neg hk1, if_neg (Ne.symm hk1)]
theorem ins_inner {α : Type} (lt : α → α → Bool) (asym : ∀ x y, lt x y = true → lt y x = false) (ntr : ∀ x y z, lt y x = false → lt z y = false → lt z x = false) (N : Nat) (B : List α × Int → Option (LS (List α × Int) (List α)))
    (hB : ∀ (data : List α) (k : Nat) (x y : α), data.length ≤ N → data[k + 1]? = some x → data[k]? = some y → B (data, ((k + 1 : Nat) : Int)) = if lt x y = true then some (.next ((data.set (k + 1) y).set k x, (k : Int))) else some (.done data))
    (hB0 : ∀ data, B (data, 0) = some (.done data)) :
    ∀ (k : Nat) (data : List α), k < data.length → data.length ≤ N → ∃ l, LoopF B (data, (k : Int)) = some l ∧ l.Perm data ∧
      ∀ i, k ≤ i → i < data.length → (∀ a b x y, a < b → b ≤ i → b ≠ k → data[a]? = some x → data[b]? = some y → lt y x = false) → ∀ a b x y, a < b → b ≤ i → l[a]? = some x → l[b]? = some y → lt y x = false := by
  intro k
  induction k with
  | zero =>
    intro data hk hl
    exact ⟨data, Loop_done (hB0 data), List.Perm.refl _, fun i _ _ h a b x y hab hb => h a b x y hab hb (by omega)⟩
  | succ k ih =>
    intro data hk hl
    have hk' : k < data.length := by omega
    have h1 : data[k + 1]? = some (data[k + 1]'hk) := List.getElem?_eq_getElem hk
    have h0 : data[k]? = some (data[k]'hk') := List.getElem?_eq_getElem hk'
    generalize hx : data[k + 1]'hk = x0 at h1
    generalize hy : data[k]'hk' = y0 at h0
    have hb := hB data k x0 y0 hl h1 h0
    by_cases hc : lt x0 y0 = true
    · rw [if_pos hc] at hb
      have hp : ((data.set (k + 1) y0).set k x0).Perm data := by rw [← hx, ← hy]; exact List.set_set_perm hk hk'
      obtain ⟨l, e1, e2, e3⟩ := ih ((data.set (k + 1) y0).set k x0) (by simp; omega) (by simpa using hl)
      refine ⟨l, by rw [Loop_next hb]; exact e1, e2.trans hp, fun i hi hil hq => e3 i (by omega) (by simpa using hil) ?_⟩
      intro a b x y hab hbi hbk hxa hyb
      rw [swap_get hk] at hxa hyb
      rw [if_neg hbk] at hyb
      by_cases hb1 : b = k + 1
      · rw [if_pos hb1] at hyb
        cases hyb
        by_cases ha : a = k
        · rw [if_pos ha] at hxa; cases hxa; exact asym _ _ hc
        · rw [if_neg ha, if_neg (by omega)] at hxa
          exact hq a k x y0 (by omega) (by omega) (by omega) hxa h0
      · rw [if_neg hb1] at hyb
        by_cases ha : a = k
        · rw [if_pos ha] at hxa; cases hxa
          exact hq (k + 1) b x0 y (by omega) hbi hb1 h1 hyb
        · rw [if_neg ha] at hxa
          by_cases ha1 : a = k + 1
          · rw [if_pos ha1] at hxa; cases hxa
            exact hq k b y0 y (by omega) hbi hb1 h0 hyb
          · rw [if_neg ha1] at hxa
            exact hq a b x y hab hbi hb1 hxa hyb
    · rw [if_neg hc] at hb
      simp only [Bool.not_eq_true] at hc
      refine ⟨data, Loop_done hb, List.Perm.refl _, fun i hi hil hq => ?_⟩
      intro a b x y hab hbi hxa hyb
      by_cases hbk : b = k + 1
      · subst hbk
        rw [h1] at hyb; cases hyb
        by_cases ha : a = k
        · subst ha; rw [h0] at hxa; cases hxa; exact hc
        · exact ntr _ _ _ (hq a k x y0 (by omega) (by omega) (by omega) hxa h0) hc
      · exact hq a b x y hab hbi hbk hxa hyb
theorem ins_outer {α : Type} (lt : α → α → Bool) (asym : ∀ x y, lt x y = true → lt y x = false) (ntr : ∀ x y z, lt y x = false → lt z y = false → lt z x = false) (N : Nat) (hN : N ≤ 4611686018427387904) (B : List α × Int → Option (LS (List α × Int) (List α)))
    (hB : ∀ (data : List α) (k : Nat) (x y : α), data.length ≤ N → data[k + 1]? = some x → data[k]? = some y → B (data, ((k + 1 : Nat) : Int)) = if lt x y = true then some (.next ((data.set (k + 1) y).set k x, (k : Int))) else some (.done data))
    (hB0 : ∀ data, B (data, 0) = some (.done data)) (D : List α × Int → Option (LS (List α × Int) (List α)))
    (hD : ∀ (data : List α) (i : Nat) l, data.length ≤ N → i < data.length → LoopF B (data, (i : Int)) = some l → D (data, (i : Int)) = some (.next (l, ((i + 1 : Nat) : Int))))
    (hD0 : ∀ (data : List α), data.length ≤ N → D (data, (data.length : Int)) = some (.done data)) :
    ∀ (n i : Nat) (data : List α), n = data.length - i → i ≤ data.length → data.length ≤ N → (∀ a b x y, a < b → b < i → data[a]? = some x → data[b]? = some y → lt y x = false) →
      ∃ l, LoopF D (data, (i : Int)) = some l ∧ l.Perm data ∧ l.Pairwise fun x y => lt y x = false := by
  intro n
  induction n with
  | zero =>
    intro i data hn hi hl hq
    have : i = data.length := by omega
    subst this
    refine ⟨data, Loop_done (hD0 data hl), List.Perm.refl _, ?_⟩
    rw [List.pairwise_iff_getElem]
    intro a b ha hb hab
    exact hq a b _ _ hab hb (List.getElem?_eq_getElem ha) (List.getElem?_eq_getElem hb)
  | succ n ih =>
    intro i data hn hi hl hq
    have hi' : i < data.length := by omega
    obtain ⟨l, e1, e2, e3⟩ := ins_inner lt asym ntr N B hB hB0 i data hi' hl
    have hlen := e2.length_eq
    obtain ⟨l', f1, f2, f3⟩ := ih (i + 1) l (by omega) (by omega) (by omega) (fun a b x y hab hb => e3 i (Nat.le_refl _) hi' (fun a b x y hab hb hbk => hq a b x y hab (by omega)) a b x y hab (by omega))
    exact ⟨l', by rw [Loop_next (hD data i l hl hi' e1)]; exact f1, f2.trans e2, f3⟩
end Go.Ab

/- The Lean functions that the program's functions are lifted to, and the plain laws about them. -/
import Derived.Lib.Repeat
import Derived.Test.YtbiklagfjeileaaGreatA2
set_option linter.unusedVariables false
set_option linter.unusedSimpArgs false
namespace Go.Proofs.YtbiklagfjeileaaGreat
open Go Go.Ab
structure Value where
  Kind : Int
  Num : Int
  Str : List UInt8
  deriving DecidableEq
structure Row where
  ID : Int
  Values : List Value
  deriving DecidableEq
structure Table where
  Name : List UInt8
  Attrs : List (List UInt8)
  Rows : List Row
  deriving DecidableEq
structure Arr2_int64 where
  x0 : Int
  x1 : Int
  deriving DecidableEq
structure Arr3_int where
  x0 : Int
  x1 : Int
  x2 : Int
  deriving DecidableEq
structure Ratio where
  Num : Int
  Den : Int
  deriving DecidableEq
structure Drossref04_Wide where
  Hi : Int
  Lo : Int
  deriving DecidableEq
noncomputable def drossref53_Table_l1 (l_1 : List (List UInt8)) : (List Row × Int) → Option (LS (List Row × Int) ((List Row) ⊕ (Table × Bool))) := fun (t_29, i_30) =>
  if i_30 < (l_1.length : Int) then
  (idx l_1 i_30).bind fun (x_60 : List UInt8) =>
  if (x_60.length : Int) > 12 then
  some (.done (.inr ((Table.mk [] [] []), false)))
  else
  if (x_60 == [63]) = true then
  if roomB (t_29.length + 1) 32 = true then
  some (.next ((t_29 ++ [(Row.mk (IntKind.i64.wrap (1 + (IntKind.i64.wrap (2 * i_30)))) [(Value.mk 0 0 [])])]), (IntKind.i64.wrap (i_30 + 1))))
  else none
  else
  (show Option (Bool) from
  if ((x_60.length : Int) == 1) = true then
  (x_60[0]?).bind fun (c_77 : UInt8) =>
  if ((c_77.toNat : Nat) : Int) ≥ 48 then
  some (decide (((c_77.toNat : Nat) : Int) ≤ 57))
  else
  some false
  else
  some false).bind (fun t54_71 =>
  if t54_71 = true then
  (x_60[0]?).bind fun (c_81 : UInt8) =>
  if roomB (t_29.length + 1) 32 = true then
  some (.next ((t_29 ++ [(Row.mk (IntKind.i64.wrap (1 + (IntKind.i64.wrap (2 * i_30)))) [(Value.mk 1 (IntKind.i64.wrap (IntKind.u8.wrap (((c_81.toNat : Nat) : Int) - 48))) [])])]), (IntKind.i64.wrap (i_30 + 1))))
  else none
  else
  if roomB (t_29.length + 1) 32 = true then
  some (.next ((t_29 ++ [(Row.mk (IntKind.i64.wrap (1 + (IntKind.i64.wrap (2 * i_30)))) [(Value.mk 2 0 x_60)])]), (IntKind.i64.wrap (i_30 + 1))))
  else none)
  else
  some (.done (.inl t_29))
noncomputable def drossref53_Table (l_1 : List (List UInt8)) : Option (Table × Bool) :=
  (LoopF (drossref53_Table_l1 l_1) ([], 0)).bind (fun o => match o with
  | .inl t_58 =>
  some ((Table.mk [114] [[97]] t_58), (decide ((l_1.length : Int) ≤ 8)))
  | .inr r_88 =>
  some r_88)
noncomputable def table_isName_l1 (s_92 : List UInt8) : Int → Option (LS (Int) ((Unit) ⊕ (Bool))) := fun t19_119 =>
  if t19_119 < (s_92.length : Int) then
  (idx s_92 t19_119).bind fun (c_150 : UInt8) =>
  (show Option (Bool) from
  if ((c_150.toNat : Nat) : Int) ≥ 97 then
  if ((c_150.toNat : Nat) : Int) ≤ 122 then
  some true
  else
  if ((c_150.toNat : Nat) : Int) ≥ 65 then
  if ((c_150.toNat : Nat) : Int) ≤ 90 then
  some true
  else
  some (((c_150.toNat : Nat) : Int) == 95)
  else
  some (((c_150.toNat : Nat) : Int) == 95)
  else
  if ((c_150.toNat : Nat) : Int) ≥ 65 then
  if ((c_150.toNat : Nat) : Int) ≤ 90 then
  some true
  else
  some (((c_150.toNat : Nat) : Int) == 95)
  else
  some (((c_150.toNat : Nat) : Int) == 95)).bind (fun letter_158 =>
  if letter_158 = true then
  some (.next (IntKind.i64.wrap (t19_119 + 1)))
  else
  if (t19_119 == 0) = true then
  some (.done (.inr false))
  else
  if ((c_150.toNat : Nat) : Int) < 48 then
  some (.done (.inr false))
  else
  if ((c_150.toNat : Nat) : Int) > 57 then
  some (.done (.inr false))
  else
  some (.next (IntKind.i64.wrap (t19_119 + 1))))
  else
  some (.done (.inl ()))
noncomputable def table_isName (s_92 : List UInt8) : Option (Bool) :=
  if (s_92 == []) = true then
  some false
  else
  if (s_92.length : Int) > 24 then
  some false
  else
  if (s_92 == [110, 117, 108, 108]) = true then
  some false
  else
  (LoopF (table_isName_l1 s_92) 0).bind (fun o => match o with
  | .inl () =>
  some true
  | .inr r_174 =>
  some r_174)
noncomputable def slices_Index_string_l1 (s_178 : List (List UInt8)) (v_179 : List UInt8) : Int → Option (LS (Int) ((Unit) ⊕ (Int))) := fun t8_185 =>
  if t8_185 < (s_178.length : Int) then
  (idx s_178 t8_185).bind fun (x_193 : List UInt8) =>
  if (v_179 == x_193) = true then
  some (.done (.inr t8_185))
  else
  some (.next (IntKind.i64.wrap (t8_185 + 1)))
  else
  some (.done (.inl ()))
noncomputable def slices_Index_string (s_178 : List (List UInt8)) (v_179 : List UInt8) : Option (Int) :=
  (LoopF (slices_Index_string_l1 s_178 v_179) 0).bind (fun o => match o with
  | .inl () =>
  some (-1)
  | .inr r_198 =>
  some r_198)
noncomputable def slices_Contains_string (s_202 : List (List UInt8)) (v_203 : List UInt8) : Option (Bool) :=
  (slices_Index_string s_202 v_203).bind fun (r_204 : Int) =>
  some (decide (r_204 ≥ 0))
noncomputable def slices_IndexFunc_Value_l1 (s_207 : List Value) (f_208 : Value → Option (Bool)) : Int → Option (LS (Int) ((Unit) ⊕ (Int))) := fun t8_218 =>
  if t8_218 < (s_207.length : Int) then
  (idx s_207 t8_218).bind fun (x_228 : Value) =>
  (f_208 x_228).bind fun (r_230 : Bool) =>
  if r_230 = true then
  some (.done (.inr t8_218))
  else
  some (.next (IntKind.i64.wrap (t8_218 + 1)))
  else
  some (.done (.inl ()))
noncomputable def slices_IndexFunc_Value (s_207 : List Value) (f_208 : Value → Option (Bool)) : Option (Int) :=
  (LoopF (slices_IndexFunc_Value_l1 s_207 f_208) 0).bind (fun o => match o with
  | .inl () =>
  some (-1)
  | .inr r_235 =>
  some r_235)
noncomputable def slices_ContainsFunc_Value (s_239 : List Value) (f_240 : Value → Option (Bool)) : Option (Bool) :=
  (slices_IndexFunc_Value s_239 f_240).bind fun (r_243 : Int) =>
  some (decide (r_243 ≥ 0))
noncomputable def value_Valid (v_246 : Value) : Option (Bool) :=
  if (v_246.Kind == 0) = true then
  if (v_246.Num == 0) = true then
  some (v_246.Str == [])
  else
  some false
  else
  if (v_246.Kind == 1) = true then
  some (v_246.Str == [])
  else
  if (v_246.Kind == 2) = true then
  if (v_246.Num == 0) = true then
  some (decide ((v_246.Str.length : Int) ≤ 200))
  else
  some false
  else
  if (v_246.Kind == 3) = true then
  if v_246.Num ≥ 1 then
  some (v_246.Str == [])
  else
  some false
  else
  some false
noncomputable def table_validValues_1 (v_255 : Value) : Option (Bool) :=
  (value_Valid v_255).bind fun (r_256 : Bool) =>
  some (!r_256)
noncomputable def table_validValues (l_259 : List Value) : Option (Bool) :=
  (slices_ContainsFunc_Value l_259 (fun (y_260 : Value) => table_validValues_1 y_260)).bind fun (r_261 : Bool) =>
  some (!r_261)
noncomputable def table_Valid_l1 (t_264 : Table) : Int → Option (LS (Int) ((Unit) ⊕ (Int))) := fun t25_284 =>
  if t25_284 < (t_264.Attrs.length : Int) then
  (idx t_264.Attrs t25_284).bind fun (x_305 : List UInt8) =>
  (table_isName x_305).bind fun (r_307 : Bool) =>
  if r_307 = true then
  if (0 : Int) ≤ t25_284 then
  if t25_284 ≤ (t_264.Attrs.length : Int) then
  (slices_Contains_string (t_264.Attrs.take (t25_284.toNat)) x_305).bind fun (r_314 : Bool) =>
  if r_314 = true then
  some (.done (.inr 1))
  else
  some (.next (IntKind.i64.wrap (t25_284 + 1)))
  else none
  else none
  else
  some (.done (.inr 1))
  else
  some (.done (.inl ()))
noncomputable def table_Valid_l2 (t_264 : Table) : (Int × Int) → Option (LS (Int × Int) ((Unit) ⊕ (Int))) := fun (last_330, t45_331) =>
  if t45_331 < (t_264.Rows.length : Int) then
  (idx t_264.Rows t45_331).bind fun (x_347 : Row) =>
  if x_347.ID ≤ last_330 then
  some (.done (.inr 1))
  else
  if ((x_347.Values.length : Int) != (t_264.Attrs.length : Int)) = true then
  some (.done (.inr 6))
  else
  (table_validValues x_347.Values).bind fun (r_351 : Bool) =>
  if r_351 = true then
  some (.next (x_347.ID, (IntKind.i64.wrap (t45_331 + 1))))
  else
  some (.done (.inr 1))
  else
  some (.done (.inl ()))
noncomputable def table_Valid (t_264 : Table) : Option (Int) :=
  (table_isName t_264.Name).bind fun (r_265 : Bool) =>
  if r_265 = true then
  if (t_264.Attrs.length : Int) > 16 then
  some 3
  else
  if (t_264.Rows.length : Int) > 1000 then
  some 3
  else
  (LoopF (table_Valid_l1 t_264) 0).bind (fun o => match o with
  | .inl () =>
  (LoopF (table_Valid_l2 t_264) (0, 0)).bind (fun o => match o with
  | .inl () =>
  some 0
  | .inr r_356 =>
  some r_356)
  | .inr r_359 =>
  some r_359)
  else
  some 1
noncomputable def blocking_check (t_363 : Table) (attr_364 : Int) (right_365 : Bool) : Option (Int) :=
  (table_Valid t_363).bind fun (r_366 : Int) =>
  if (r_366 != 0) = true then
  some r_366
  else
  if (t_363.Rows.length : Int) > 200 then
  some 3
  else
  (show Option (Bool) from
  if attr_364 < 0 then
  some true
  else
  some (decide (attr_364 ≥ (t_363.Attrs.length : Int)))).bind (fun t18_371 =>
  if t18_371 = true then
  some 6
  else
  if right_365 = true then
  some 0
  else
  some 7)
noncomputable def blocking_pairs_l3 (t_379 : Table) (ok_380 : Int → Int → Option (Bool)) (t11_426 : Int) : (List Arr2_int64 × Int) → Option (LS (List Arr2_int64 × Int) (List Arr2_int64)) := fun (out_482, k_483) =>
  if k_483 < (t_379.Rows.length : Int) then
  (ok_380 t11_426 k_483).bind fun (r_499 : Bool) =>
  if r_499 = true then
  (idx t_379.Rows t11_426).bind fun (x_502 : Row) =>
  (idx t_379.Rows k_483).bind fun (x_504 : Row) =>
  if roomB (out_482.length + 1) 16 = true then
  some (.next ((out_482 ++ [(Arr2_int64.mk x_502.ID x_504.ID)]), (IntKind.i64.wrap (k_483 + 1))))
  else none
  else
  some (.next (out_482, (IntKind.i64.wrap (k_483 + 1))))
  else
  some (.done out_482)
noncomputable def blocking_pairs_l4 (t_379 : Table) (ok_380 : Int → Int → Option (Bool)) : (List Arr2_int64 × Int) → Option (LS (List Arr2_int64 × Int) (List Arr2_int64)) := fun (out_425, t11_426) =>
  if t11_426 < (t_379.Rows.length : Int) then
  (LoopF (blocking_pairs_l3 t_379 ok_380 t11_426) (out_425, (IntKind.i64.wrap (t11_426 + 1)))).bind (fun out_495 =>
  some (.next (out_495, (IntKind.i64.wrap (t11_426 + 1)))))
  else
  some (.done out_425)
noncomputable def blocking_pairs (t_379 : Table) (ok_380 : Int → Int → Option (Bool)) : Option (List Arr2_int64) :=
  (LoopF (blocking_pairs_l4 t_379 ok_380) ([], 0)).bind (fun out_468 =>
  some out_468)
noncomputable def blocking_Prefix_1 (i_514 : Int) (c_515 : Table) (c_516 : Int) (c_517 : Int) : Option (List UInt8) :=
  (idx c_515.Rows i_514).bind fun (x_522 : Row) =>
  (idx x_522.Values c_516).bind fun (x_524 : Value) =>
  if (0 : Int) ≤ (if (x_524.Str.length : Int) < c_517 then (x_524.Str.length : Int) else c_517) then
  if (if (x_524.Str.length : Int) < c_517 then (x_524.Str.length : Int) else c_517) ≤ (x_524.Str.length : Int) then
  some (x_524.Str.take ((if (x_524.Str.length : Int) < c_517 then (x_524.Str.length : Int) else c_517).toNat))
  else none
  else none
noncomputable def cmp_Or_int_l1 (vals_529 : List Int) : Int → Option (LS (Int) ((Unit) ⊕ (Int))) := fun t8_537 =>
  if t8_537 < (vals_529.length : Int) then
  (idx vals_529 t8_537).bind fun (x_549 : Int) =>
  if (x_549 != 0) = true then
  some (.done (.inr x_549))
  else
  some (.next (IntKind.i64.wrap (t8_537 + 1)))
  else
  some (.done (.inl ()))
noncomputable def cmp_Or_int (vals_529 : List Int) : Option (Int) :=
  (LoopF (cmp_Or_int_l1 vals_529) 0).bind (fun o => match o with
  | .inl () =>
  some 0
  | .inr r_554 =>
  some r_554)
noncomputable def cmp_isNaN_int (x_558 : Int) : Option (Bool) :=
  some (x_558 != x_558)
noncomputable def cmp_Compare_int (x_560 : Int) (y_561 : Int) : Option (Int) :=
  (cmp_isNaN_int x_560).bind fun (r_564 : Bool) =>
  (cmp_isNaN_int y_561).bind fun (r_568 : Bool) =>
  if r_564 = true then
  if r_568 = true then
  some 0
  else
  some (-1)
  else
  if r_568 = true then
  some 1
  else
  if x_560 < y_561 then
  some (-1)
  else
  if x_560 > y_561 then
  some 1
  else
  some 0
noncomputable def cmp_isNaN_int64 (x_576 : Int) : Option (Bool) :=
  some (x_576 != x_576)
noncomputable def cmp_Compare_int64 (x_578 : Int) (y_579 : Int) : Option (Int) :=
  (cmp_isNaN_int64 x_578).bind fun (r_582 : Bool) =>
  (cmp_isNaN_int64 y_579).bind fun (r_586 : Bool) =>
  if r_582 = true then
  if r_586 = true then
  some 0
  else
  some (-1)
  else
  if r_586 = true then
  some 1
  else
  if x_578 < y_579 then
  some (-1)
  else
  if x_578 > y_579 then
  some 1
  else
  some 0
noncomputable def bytealg_CompareString (a_594 : List UInt8) (b_595 : List UInt8) : Option (Int) :=
  some (Lib.compareBytes a_594 b_595)
noncomputable def strings_Compare (a_599 : List UInt8) (b_600 : List UInt8) : Option (Int) :=
  (bytealg_CompareString a_599 b_600).bind fun (r_601 : Int) =>
  some r_601
noncomputable def value_Compare (a_604 : Value) (b_605 : Value) : Option (Int) :=
  (cmp_Compare_int a_604.Kind b_605.Kind).bind fun (r_606 : Int) =>
  (cmp_Compare_int64 a_604.Num b_605.Num).bind fun (r_608 : Int) =>
  (strings_Compare a_604.Str b_605.Str).bind fun (r_610 : Int) =>
  (cmp_Or_int [r_606, r_608, r_610]).bind fun (r_612 : Int) =>
  some r_612
noncomputable def blocking_alike_1 (i_615 : Int) (k_616 : Int) (c_617 : Table) (c_618 : Int) (c_619 : Int → Int → Option (Bool)) : Option (Bool) :=
  (idx c_617.Rows i_615).bind fun (x_631 : Row) =>
  (idx x_631.Values c_618).bind fun (x_633 : Value) =>
  (idx c_617.Rows k_616).bind fun (x_635 : Row) =>
  (idx x_635.Values c_618).bind fun (x_637 : Value) =>
  (show Option (Bool) from
  if (x_633.Kind == 2) = true then
  some (x_637.Kind == 2)
  else
  some false).bind (fun t35_640 =>
  if t35_640 = true then
  (c_619 i_615 k_616).bind fun (r_645 : Bool) =>
  some r_645
  else
  (value_Compare x_633 x_637).bind fun (r_647 : Int) =>
  some (r_647 == 0))
noncomputable def blocking_alike (t_651 : Table) (attr_652 : Int) (ok_653 : Int → Int → Option (Bool)) : Option (Unit) :=
  some ()
noncomputable def blocking_Prefix_2 (i_658 : Int) (k_659 : Int) (c_660 : Int → Option (List UInt8)) : Option (Bool) :=
  (c_660 i_658).bind fun (r_663 : List UInt8) =>
  (c_660 k_659).bind fun (r_665 : List UInt8) =>
  some (r_663 == r_665)
noncomputable def blocking_Prefix (t_668 : Table) (attr_669 : Int) (size_670 : Int) : Option (List Arr2_int64 × Int) :=
  (show Option (Int) from
  if size_670 ≥ 1 then
  (blocking_check t_668 attr_669 (decide (size_670 ≤ 200))).bind fun (r_680 : Int) =>
  some r_680
  else
  (blocking_check t_668 attr_669 false).bind fun (r_682 : Int) =>
  some r_682).bind (fun e_676 =>
  if (e_676 != 0) = true then
  some ([], e_676)
  else
  (blocking_alike t_668 attr_669 (fun (y_686 : Int) (y_687 : Int) => blocking_Prefix_2 y_686 y_687 (fun (y_685 : Int) => blocking_Prefix_1 y_685 t_668 attr_669 size_670))).bind fun (r_688 : Unit) =>
  (blocking_pairs t_668 (fun (y_693 : Int) (y_694 : Int) => blocking_alike_1 y_693 y_694 t_668 attr_669 (fun (y_691 : Int) (y_692 : Int) => blocking_Prefix_2 y_691 y_692 (fun (y_690 : Int) => blocking_Prefix_1 y_690 t_668 attr_669 size_670)))).bind fun (r_695 : List Arr2_int64) =>
  some (r_695, 0))
noncomputable def blocking_Window_1 (i_809 : Int) (k_810 : Int) (c_811 : Table) (c_812 : Int) : Option (Int) :=
  (idx c_811.Rows i_809).bind fun (x_813 : Row) =>
  (idx x_813.Values c_812).bind fun (x_815 : Value) =>
  (idx c_811.Rows k_810).bind fun (x_817 : Row) =>
  (idx x_817.Values c_812).bind fun (x_819 : Value) =>
  (value_Compare x_815 x_819).bind fun (r_821 : Int) =>
  (cmp_Compare_int i_809 k_810).bind fun (r_823 : Int) =>
  (cmp_Or_int [r_821, r_823]).bind fun (r_825 : Int) =>
  some r_825
noncomputable def blocking_Window_2 (i_828 : Int) (k_829 : Int) (c_830 : List Int) (c_831 : Int) : Option (Bool) :=
  (idx c_830 i_828).bind fun (x_832 : Int) =>
  (idx c_830 k_829).bind fun (x_834 : Int) =>
  some (decide ((if (IntKind.i64.wrap (x_834 - x_832)) > (IntKind.i64.wrap (x_832 - x_834)) then (IntKind.i64.wrap (x_834 - x_832)) else (IntKind.i64.wrap (x_832 - x_834))) < c_831))
noncomputable def blocking_Window_l1 (t_837 : Table) : (List Int × Int) → Option (LS (List Int × Int) (List Int)) := fun (order_862, t32_863) =>
  if t32_863 < ((t_837.Rows.length : Nat) : Int) then
  (idx order_862 t32_863).bind fun (x_871 : Int) =>
  some (.next ((order_862.set t32_863.toNat t32_863), (IntKind.i64.wrap (t32_863 + 1))))
  else
  some (.done order_862)
noncomputable def blocking_Window_l2 (l_880 : List Int) : (List Int × Int) → Option (LS (List Int × Int) (List Int)) := fun (place_897, t48_898) =>
  if t48_898 < ((l_880.length : Nat) : Int) then
  (idx l_880 t48_898).bind fun (x_912 : Int) =>
  (idx place_897 x_912).bind fun (x_914 : Int) =>
  some (.next ((place_897.set x_912.toNat t48_898), (IntKind.i64.wrap (t48_898 + 1))))
  else
  some (.done place_897)
noncomputable def blocking_Window (t_837 : Table) (attr_838 : Int) (w_839 : Int) : Option (List Arr2_int64 × Int) :=
  (show Option (Int) from
  if w_839 ≥ 2 then
  (blocking_check t_837 attr_838 (decide (w_839 ≤ 200))).bind fun (r_849 : Int) =>
  some r_849
  else
  (blocking_check t_837 attr_838 false).bind fun (r_851 : Int) =>
  some r_851).bind (fun e_845 =>
  if (e_845 != 0) = true then
  some ([], e_845)
  else
  if 0 ≤ (t_837.Rows.length : Int) then
  if roomB t_837.Rows.length 8 = true then
  (LoopF (blocking_Window_l1 t_837) ((List.replicate t_837.Rows.length 0), 0)).bind (fun order_868 =>
  (srtF (fun (y_882 : Int) (y_883 : Int) => blocking_Window_1 y_882 y_883 t_837 attr_838) order_868).bind fun (l_880 : List Int) =>
  if 0 ≤ ((l_880.length : Nat) : Int) then
  if roomB l_880.length 8 = true then
  (LoopF (blocking_Window_l2 l_880) ((List.replicate l_880.length 0), 0)).bind (fun place_907 =>
  (blocking_pairs t_837 (fun (y_918 : Int) (y_919 : Int) => blocking_Window_2 y_918 y_919 place_907 w_839)).bind fun (r_920 : List Arr2_int64) =>
  some (r_920, 0))
  else none
  else none)
  else none
  else none)
noncomputable def slices_IndexFunc_string_l1 (s_926 : List (List UInt8)) (f_927 : (List UInt8) → Option (Bool)) : Int → Option (LS (Int) ((Unit) ⊕ (Int))) := fun t8_937 =>
  if t8_937 < (s_926.length : Int) then
  (idx s_926 t8_937).bind fun (x_947 : List UInt8) =>
  (f_927 x_947).bind fun (r_949 : Bool) =>
  if r_949 = true then
  some (.done (.inr t8_937))
  else
  some (.next (IntKind.i64.wrap (t8_937 + 1)))
  else
  some (.done (.inl ()))
noncomputable def slices_IndexFunc_string (s_926 : List (List UInt8)) (f_927 : (List UInt8) → Option (Bool)) : Option (Int) :=
  (LoopF (slices_IndexFunc_string_l1 s_926 f_927) 0).bind (fun o => match o with
  | .inl () =>
  some (-1)
  | .inr r_954 =>
  some r_954)
noncomputable def slices_ContainsFunc_string (s_958 : List (List UInt8)) (f_959 : (List UInt8) → Option (Bool)) : Option (Bool) :=
  (slices_IndexFunc_string s_958 f_959).bind fun (r_962 : Int) =>
  some (decide (r_962 ≥ 0))
noncomputable def similarity_long_1 (s_965 : List UInt8) : Option (Bool) :=
  some (decide ((s_965.length : Int) > 200))
noncomputable def similarity_long (l_967 : List (List UInt8)) : Option (Bool) :=
  (slices_ContainsFunc_string l_967 (fun (y_968 : List UInt8) => similarity_long_1 y_968)).bind fun (r_969 : Bool) =>
  some r_969
noncomputable def strings_Repeat (x : List UInt8) (n : Int) : Option (List UInt8) := repF x n
noncomputable def cmp_isNaN_string (x_996 : List UInt8) : Option (Bool) :=
  some (!(x_996 == x_996))
noncomputable def similarity_Grams_l1 (s_1088 : List UInt8) (q_1089 : Int) (w_1109 : List UInt8) : (List (List UInt8) × Int) → Option (LS (List (List UInt8) × Int) (List (List UInt8))) := fun (out_1116, t32_1117) =>
  if t32_1117 < (IntKind.i64.wrap ((IntKind.i64.wrap ((s_1088.length : Int) + q_1089)) - 1)) then
  if 0 ≤ t32_1117 then
  if t32_1117 ≤ (IntKind.i64.wrap (t32_1117 + q_1089)) then
  if (IntKind.i64.wrap (t32_1117 + q_1089)) ≤ (w_1109.length : Int) then
  if roomB (out_1116.length + 1) 16 = true then
  some (.next ((out_1116 ++ [((w_1109.drop t32_1117.toNat).take ((IntKind.i64.wrap (t32_1117 + q_1089)).toNat - t32_1117.toNat))]), (IntKind.i64.wrap (t32_1117 + 1))))
  else none
  else none
  else none
  else none
  else
  some (.done out_1116)
noncomputable def similarity_Grams (s_1088 : List UInt8) (q_1089 : Int) : Option (List (List UInt8) × Int) :=
  (similarity_long [s_1088]).bind fun (r_1090 : Bool) =>
  if r_1090 = true then
  some ([], 3)
  else
  if q_1089 < 1 then
  some ([], 7)
  else
  if q_1089 > 4 then
  some ([], 7)
  else
  (strings_Repeat [1] (IntKind.i64.wrap (q_1089 - 1))).bind fun (r_1097 : List UInt8) =>
  if r_1097.length + s_1088.length ≤ 9223372036854775807 then
  (some (r_1097 ++ s_1088)).bind fun (w_1106 : List UInt8) =>
  if w_1106.length + r_1097.length ≤ 9223372036854775807 then
  (some (w_1106 ++ r_1097)).bind fun (w_1109 : List UInt8) =>
  (LoopF (similarity_Grams_l1 s_1088 q_1089 w_1109) ([], 0)).bind (fun out_1124 =>
  (srtSF out_1124).bind fun (l_1133 : List (List UInt8)) =>
  some (l_1133, 0))
  else none
  else none
noncomputable def cmp_Compare_string (x_1138 : List UInt8) (y_1139 : List UInt8) : Option (Int) :=
  (cmp_isNaN_string x_1138).bind fun (r_1142 : Bool) =>
  (cmp_isNaN_string y_1139).bind fun (r_1146 : Bool) =>
  if r_1142 = true then
  if r_1146 = true then
  some 0
  else
  some (-1)
  else
  if r_1146 = true then
  some 1
  else
  if (Op.bytesLess x_1138 y_1139) = true then
  some (-1)
  else
  if (x_1138 == y_1139) = true then
  some 0
  else
  some 1
noncomputable def blocking_common_l1 (a_1154 : List (List UInt8)) (b_1155 : List (List UInt8)) : (Int × Int × Int) → Option (LS (Int × Int × Int) (Int)) := fun (n_1172, i_1173, k_1174) =>
  if i_1173 < (a_1154.length : Int) then
  if k_1174 < (b_1155.length : Int) then
  (idx a_1154 i_1173).bind fun (x_1200 : List UInt8) =>
  (idx b_1155 k_1174).bind fun (x_1202 : List UInt8) =>
  (cmp_Compare_string x_1200 x_1202).bind fun (r_1204 : Int) =>
  if r_1204 < 0 then
  some (.next (n_1172, (IntKind.i64.wrap (i_1173 + 1)), k_1174))
  else
  if r_1204 > 0 then
  some (.next (n_1172, i_1173, (IntKind.i64.wrap (k_1174 + 1))))
  else
  some (.next ((IntKind.i64.wrap (n_1172 + 1)), (IntKind.i64.wrap (i_1173 + 1)), (IntKind.i64.wrap (k_1174 + 1))))
  else
  some (.done n_1172)
  else
  some (.done n_1172)
noncomputable def blocking_common (a_1154 : List (List UInt8)) (b_1155 : List (List UInt8)) : Option (Int) :=
  (LoopF (blocking_common_l1 a_1154 b_1155) (0, 0, 0)).bind (fun n_1191 =>
  some n_1191)
noncomputable def blocking_Filter_1 (a_1212 : Int) (b_1213 : Int) (c_1214 : List Int) (c_1215 : Int) (c_1216 : List (List (List UInt8))) (c_1217 : Int) : Option (Bool) :=
  (idx c_1214 a_1212).bind fun (x_1222 : Int) =>
  (idx c_1214 b_1213).bind fun (x_1224 : Int) =>
  if (if (IntKind.i64.wrap (x_1224 - x_1222)) > (IntKind.i64.wrap (x_1222 - x_1224)) then (IntKind.i64.wrap (x_1224 - x_1222)) else (IntKind.i64.wrap (x_1222 - x_1224))) ≤ c_1215 then
  (idx c_1216 a_1212).bind fun (x_1229 : List (List UInt8)) =>
  (idx c_1216 b_1213).bind fun (x_1233 : List (List UInt8)) =>
  (blocking_common x_1229 x_1233).bind fun (r_1235 : Int) =>
  some (decide (r_1235 ≥ (IntKind.i64.wrap ((IntKind.i64.wrap ((IntKind.i64.wrap ((if x_1224 > x_1222 then x_1224 else x_1222) + c_1217)) - 1)) - (IntKind.i64.wrap (c_1215 * c_1217))))))
  else
  some false
noncomputable def blocking_Filter_l1 (t_1238 : Table) (attr_1239 : Int) (q_1241 : Int) : (List (List (List UInt8)) × List Int × Int) → Option (LS (List (List (List UInt8)) × List Int × Int) ((List (List (List UInt8)) × List Int) ⊕ (List Arr2_int64 × Int))) := fun (grams_1294, size_1295, t49_1296) =>
  if t49_1296 < (t_1238.Rows.length : Int) then
  (idx t_1238.Rows t49_1296).bind fun (x_1323 : Row) =>
  (idx x_1323.Values attr_1239).bind fun (x_1327 : Value) =>
  if (x_1327.Kind == 2) = true then
  (similarity_Grams x_1327.Str q_1241).bind fun (r_1332 : List (List UInt8) × Int) =>
  if (r_1332.2 != 0) = true then
  some (.done (.inr ([], r_1332.2)))
  else
  (idx grams_1294 t49_1296).bind fun (x_1335 : List (List UInt8)) =>
  (idx size_1295 t49_1296).bind fun (x_1337 : Int) =>
  some (.next ((grams_1294.set t49_1296.toNat r_1332.1), (size_1295.set t49_1296.toNat (x_1327.Str.length : Int)), (IntKind.i64.wrap (t49_1296 + 1))))
  else
  some (.next (grams_1294, size_1295, (IntKind.i64.wrap (t49_1296 + 1))))
  else
  some (.done (.inl (grams_1294, size_1295)))
noncomputable def blocking_Filter (t_1238 : Table) (attr_1239 : Int) (k_1240 : Int) (q_1241 : Int) : Option (List Arr2_int64 × Int) :=
  (show Option (Int) from
  if k_1240 ≥ 0 then
  if k_1240 ≤ 200 then
  if q_1241 ≥ 1 then
  (blocking_check t_1238 attr_1239 (decide (q_1241 ≤ 4))).bind fun (r_1259 : Int) =>
  some r_1259
  else
  (blocking_check t_1238 attr_1239 false).bind fun (r_1261 : Int) =>
  some r_1261
  else
  (blocking_check t_1238 attr_1239 false).bind fun (r_1263 : Int) =>
  some r_1263
  else
  (blocking_check t_1238 attr_1239 false).bind fun (r_1265 : Int) =>
  some r_1265).bind (fun e_1253 =>
  if (e_1253 != 0) = true then
  some ([], e_1253)
  else
  if 0 ≤ (t_1238.Rows.length : Int) then
  if roomB t_1238.Rows.length 24 = true then
  if roomB t_1238.Rows.length 8 = true then
  (LoopF (blocking_Filter_l1 t_1238 attr_1239 q_1241) ((List.replicate t_1238.Rows.length []), (List.replicate t_1238.Rows.length 0), 0)).bind (fun o => match o with
  | .inl (grams_1317, size_1318) =>
  (blocking_alike t_1238 attr_1239 (fun (y_1341 : Int) (y_1342 : Int) => blocking_Filter_1 y_1341 y_1342 size_1318 k_1240 grams_1317 q_1241)).bind fun (r_1343 : Unit) =>
  (blocking_pairs t_1238 (fun (y_1347 : Int) (y_1348 : Int) => blocking_alike_1 y_1347 y_1348 t_1238 attr_1239 (fun (y_1345 : Int) (y_1346 : Int) => blocking_Filter_1 y_1345 y_1346 size_1318 k_1240 grams_1317 q_1241))).bind fun (r_1349 : List Arr2_int64) =>
  some (r_1349, 0)
  | .inr r_1351 =>
  some r_1351)
  else none
  else none
  else none)
noncomputable def drossref53_Same_l1 (a_1356 : List Arr2_int64) (b_1357 : List Arr2_int64) : Int → Option (LS (Int) ((Unit) ⊕ (Bool))) := fun i_1365 =>
  if i_1365 < (a_1356.length : Int) then
  (idx a_1356 i_1365).bind fun (x_1373 : Arr2_int64) =>
  (idx b_1357 i_1365).bind fun (x_1375 : Arr2_int64) =>
  if ((x_1373.x0 == x_1375.x0) && (x_1373.x1 == x_1375.x1)) = true then
  some (.next (IntKind.i64.wrap (i_1365 + 1)))
  else
  some (.done (.inr false))
  else
  some (.done (.inl ()))
noncomputable def drossref53_Same (a_1356 : List Arr2_int64) (b_1357 : List Arr2_int64) : Option (Bool) :=
  if ((a_1356.length : Int) != (b_1357.length : Int)) = true then
  some false
  else
  (LoopF (drossref53_Same_l1 a_1356 b_1357) 0).bind (fun o => match o with
  | .inl () =>
  some true
  | .inr r_1380 =>
  some r_1380)
noncomputable def drosslaw53_awake : Option (Bool) :=
  (drossref53_Table [[115, 109, 105, 116, 104], [115, 109, 121, 116, 104], [115, 109, 105, 116, 104, 115, 111, 110], [106, 111, 110, 101, 115]]).bind fun (r_1386 : Table × Bool) =>
  (blocking_Prefix r_1386.1 0 3).bind fun (r_1390 : List Arr2_int64 × Int) =>
  (blocking_Filter r_1386.1 0 1 2).bind fun (r_1394 : List Arr2_int64 × Int) =>
  (blocking_Window r_1386.1 0 2).bind fun (r_1398 : List Arr2_int64 × Int) =>
  if r_1386.2 = true then
  if (r_1390.2 == 0) = true then
  if (r_1394.2 == 0) = true then
  if (r_1398.2 == 0) = true then
  (drossref53_Same r_1390.1 [(Arr2_int64.mk 1 5)]).bind fun (r_1404 : Bool) =>
  if r_1404 = true then
  (drossref53_Same r_1394.1 [(Arr2_int64.mk 1 3)]).bind fun (r_1407 : Bool) =>
  if r_1407 = true then
  (drossref53_Same r_1398.1 [(Arr2_int64.mk 1 5), (Arr2_int64.mk 1 7), (Arr2_int64.mk 3 5)]).bind fun (r_1410 : Bool) =>
  some r_1410
  else
  some false
  else
  some false
  else
  some false
  else
  some false
  else
  some false
  else
  some false
noncomputable def drossref03_letter (c_1440 : Int) : Option (Bool) :=
  if c_1440 ≥ 97 then
  if c_1440 ≤ 122 then
  some true
  else
  if c_1440 ≥ 65 then
  if c_1440 ≤ 90 then
  some true
  else
  some (c_1440 == 95)
  else
  some (c_1440 == 95)
  else
  if c_1440 ≥ 65 then
  if c_1440 ≤ 90 then
  some true
  else
  some (c_1440 == 95)
  else
  some (c_1440 == 95)
noncomputable def drossref03_Name_l1 (s_1448 : List UInt8) : Int → Option (LS (Int) ((Unit) ⊕ (Bool))) := fun i_1467 =>
  if i_1467 < (s_1448.length : Int) then
  (idx s_1448 i_1467).bind fun (c_1477 : UInt8) =>
  (drossref03_letter ((c_1477.toNat : Nat) : Int)).bind fun (r_1479 : Bool) =>
  if r_1479 = true then
  some (.next (IntKind.i64.wrap (i_1467 + 1)))
  else
  if ((c_1477.toNat : Nat) : Int) < 48 then
  some (.done (.inr false))
  else
  if ((c_1477.toNat : Nat) : Int) > 57 then
  some (.done (.inr false))
  else
  some (.next (IntKind.i64.wrap (i_1467 + 1)))
  else
  some (.done (.inl ()))
noncomputable def drossref03_Name (s_1448 : List UInt8) : Option (Bool) :=
  if ((s_1448.length : Int) == 0) = true then
  some false
  else
  if (s_1448.length : Int) > 24 then
  some false
  else
  (s_1448[0]?).bind fun (c_1453 : UInt8) =>
  (drossref03_letter ((c_1453.toNat : Nat) : Int)).bind fun (r_1455 : Bool) =>
  if r_1455 = true then
  if (s_1448 == [110, 117, 108, 108]) = true then
  some false
  else
  (LoopF (drossref03_Name_l1 s_1448) 0).bind (fun o => match o with
  | .inl () =>
  some true
  | .inr r_1486 =>
  some r_1486)
  else
  some false
noncomputable def drossref03_Attr_l1 (l_1490 : List (List UInt8)) (name_1491 : List UInt8) : Int → Option (LS (Int) ((Unit) ⊕ (Int))) := fun i_1496 =>
  if i_1496 < (l_1490.length : Int) then
  (idx l_1490 i_1496).bind fun (x_1502 : List UInt8) =>
  if (x_1502 == name_1491) = true then
  some (.done (.inr i_1496))
  else
  some (.next (IntKind.i64.wrap (i_1496 + 1)))
  else
  some (.done (.inl ()))
noncomputable def drossref03_Attr (l_1490 : List (List UInt8)) (name_1491 : List UInt8) : Option (Int) :=
  (LoopF (drossref03_Attr_l1 l_1490 name_1491) 0).bind (fun o => match o with
  | .inl () =>
  some (-1)
  | .inr r_1507 =>
  some r_1507)
noncomputable def drossref03_Names_l1 (l_1511 : List (List UInt8)) : Int → Option (LS (Int) ((Unit) ⊕ (Bool))) := fun i_1523 =>
  if i_1523 < (l_1511.length : Int) then
  (idx l_1511 i_1523).bind fun (x_1538 : List UInt8) =>
  (drossref03_Name x_1538).bind fun (r_1540 : Bool) =>
  if r_1540 = true then
  if (0 : Int) ≤ i_1523 then
  if i_1523 ≤ (l_1511.length : Int) then
  (drossref03_Attr (l_1511.take (i_1523.toNat)) x_1538).bind fun (r_1547 : Int) =>
  if r_1547 ≥ 0 then
  some (.done (.inr false))
  else
  some (.next (IntKind.i64.wrap (i_1523 + 1)))
  else none
  else none
  else
  some (.done (.inr false))
  else
  some (.done (.inl ()))
noncomputable def drossref03_Names (l_1511 : List (List UInt8)) : Option (Bool) :=
  (LoopF (drossref03_Names_l1 l_1511) 0).bind (fun o => match o with
  | .inl () =>
  some true
  | .inr r_1552 =>
  some r_1552)
noncomputable def drossref01_Valid (v_1556 : Value) : Option (Bool) :=
  if (v_1556.Kind == 0) = true then
  if (v_1556.Num == 0) = true then
  some (v_1556.Str == [])
  else
  some false
  else
  if (v_1556.Kind == 1) = true then
  some (v_1556.Str == [])
  else
  if (v_1556.Kind == 2) = true then
  if (v_1556.Num == 0) = true then
  some (decide ((v_1556.Str.length : Int) ≤ 200))
  else
  some false
  else
  if (v_1556.Kind == 3) = true then
  if v_1556.Num ≥ 1 then
  some (v_1556.Str == [])
  else
  some false
  else
  some false
noncomputable def drossref01_Valids_l1 (l_1565 : List Value) : Int → Option (LS (Int) ((Unit) ⊕ (Bool))) := fun i_1572 =>
  if i_1572 < (l_1565.length : Int) then
  (idx l_1565 i_1572).bind fun (x_1580 : Value) =>
  (drossref01_Valid x_1580).bind fun (r_1582 : Bool) =>
  if r_1582 = true then
  some (.next (IntKind.i64.wrap (i_1572 + 1)))
  else
  some (.done (.inr false))
  else
  some (.done (.inl ()))
noncomputable def drossref01_Valids (l_1565 : List Value) : Option (Bool) :=
  (LoopF (drossref01_Valids_l1 l_1565) 0).bind (fun o => match o with
  | .inl () =>
  some true
  | .inr r_1587 =>
  some r_1587)
noncomputable def drossref03_Valid_l1 (t_1591 : Table) : (Int × Int) → Option (LS (Int × Int) ((Unit) ⊕ (Int))) := fun (before_1610, i_1611) =>
  if i_1611 < (t_1591.Rows.length : Int) then
  (idx t_1591.Rows i_1611).bind fun (x_1625 : Row) =>
  if x_1625.ID ≤ before_1610 then
  some (.done (.inr 1))
  else
  if ((x_1625.Values.length : Int) != (t_1591.Attrs.length : Int)) = true then
  some (.done (.inr 6))
  else
  (drossref01_Valids x_1625.Values).bind fun (r_1629 : Bool) =>
  if r_1629 = true then
  some (.next (x_1625.ID, (IntKind.i64.wrap (i_1611 + 1))))
  else
  some (.done (.inr 1))
  else
  some (.done (.inl ()))
noncomputable def drossref03_Valid (t_1591 : Table) : Option (Int) :=
  (drossref03_Name t_1591.Name).bind fun (r_1592 : Bool) =>
  if r_1592 = true then
  if (t_1591.Attrs.length : Int) > 16 then
  some 3
  else
  if (t_1591.Rows.length : Int) > 1000 then
  some 3
  else
  (drossref03_Names t_1591.Attrs).bind fun (r_1597 : Bool) =>
  if r_1597 = true then
  (LoopF (drossref03_Valid_l1 t_1591) (0, 0)).bind (fun o => match o with
  | .inl () =>
  some 0
  | .inr r_1634 =>
  some r_1634)
  else
  some 1
  else
  some 1
noncomputable def blocking_compare (a_3706 : Arr2_int64) (b_3707 : Arr2_int64) : Option (Int) :=
  (cmp_Compare_int64 a_3706.x0 b_3707.x0).bind fun (r_3708 : Int) =>
  (cmp_Compare_int64 a_3706.x1 b_3707.x1).bind fun (r_3710 : Int) =>
  (cmp_Or_int [r_3708, r_3710]).bind fun (r_3712 : Int) =>
  some r_3712
noncomputable def blocking_Union_l3 (l_3746 : List (List Arr2_int64)) : (Int × Int) → Option (LS (Int × Int) (Int)) := fun (size_3810, t11_3811) =>
  if t11_3811 < (l_3746.length : Int) then
  (idx l_3746 t11_3811).bind fun (x_3824 : List Arr2_int64) =>
  if (IntKind.i64.wrap (size_3810 + (x_3824.length : Int))) < 0 then
  none
  else
  some (.next ((IntKind.i64.wrap (size_3810 + (x_3824.length : Int))), (IntKind.i64.wrap (t11_3811 + 1))))
  else
  some (.done size_3810)
noncomputable def blocking_Union_l4 (l_3746 : List (List Arr2_int64)) : (List Arr2_int64 × Int) → Option (LS (List Arr2_int64 × Int) (List Arr2_int64)) := fun (newslice_3838, t27_3839) =>
  if t27_3839 < (l_3746.length : Int) then
  (idx l_3746 t27_3839).bind fun (x_3848 : List Arr2_int64) =>
  if roomB (newslice_3838.length + x_3848.length) 16 = true then
  some (.next ((newslice_3838 ++ x_3848), (IntKind.i64.wrap (t27_3839 + 1))))
  else none
  else
  some (.done newslice_3838)
noncomputable def blocking_Union_l7 (l_3858 : List Arr2_int64) (k_3946 : Int) : (List Arr2_int64 × Int × Int) → Option (LS (List Arr2_int64 × Int × Int) (List Arr2_int64 × Int)) := fun (s_4061, k_4062, k2_4063) =>
  if k2_4063 < (((l_3858.length - k_3946.toNat) : Nat) : Int) then
  (idx ((s_4061.drop k_3946.toNat).take (l_3858.length - k_3946.toNat)) k2_4063).bind fun (x_4090 : Arr2_int64) =>
  (idx ((s_4061.drop k_3946.toNat).take (l_3858.length - k_3946.toNat)) (IntKind.i64.wrap (k2_4063 - 1))).bind fun (x_4093 : Arr2_int64) =>
  if ((x_4090.x0 == x_4093.x0) && (x_4090.x1 == x_4093.x1)) = true then
  some (.next (s_4061, k_4062, (IntKind.i64.wrap (k2_4063 + 1))))
  else
  (idx s_4061 k_4062).bind fun (x_4098 : Arr2_int64) =>
  some (.next ((s_4061.set k_4062.toNat x_4090), (IntKind.i64.wrap (k_4062 + 1)), (IntKind.i64.wrap (k2_4063 + 1))))
  else
  some (.done (s_4061, k_4062))
noncomputable def blocking_Union_l8 (l_3858 : List Arr2_int64) : Int → Option (LS (Int) ((Unit) ⊕ (List Arr2_int64))) := fun k_3946 =>
  if k_3946 < ((l_3858.length : Nat) : Int) then
  (idx l_3858 k_3946).bind fun (x_4035 : Arr2_int64) =>
  (idx l_3858 (IntKind.i64.wrap (k_3946 - 1))).bind fun (x_4037 : Arr2_int64) =>
  if ((x_4035.x0 == x_4037.x0) && (x_4035.x1 == x_4037.x1)) = true then
  if 0 ≤ k_3946 then
  if k_3946 ≤ ((l_3858.length : Nat) : Int) then
  (LoopF (blocking_Union_l7 l_3858 k_3946) (l_3858, k_3946, 1)).bind (fun (s_4081, k_4082) =>
  if 0 ≤ k_4082 then
  if k_4082 ≤ ((s_4081.length : Nat) : Int) then
  if (0 : Int) ≤ k_4082 then
  if k_4082 ≤ ((((((s_4081.take k_4082.toNat)).length + ((List.replicate (s_4081.length - k_4082.toNat) (Arr2_int64.mk 0 0))).length) + ((s_4081.drop (k_4082.toNat + (s_4081.length - k_4082.toNat)))).length) : Nat) : Int) then
  (some ((((s_4081.take k_4082.toNat) ++ (List.replicate (s_4081.length - k_4082.toNat) (Arr2_int64.mk 0 0))) ++ (s_4081.drop (k_4082.toNat + (s_4081.length - k_4082.toNat)))) : List Arr2_int64)).bind fun (l_4106 : List Arr2_int64) =>
  if k_4082.toNat ≤ l_4106.length then
  (some (l_4106.take k_4082.toNat : List Arr2_int64)).bind fun (l_4109 : List Arr2_int64) =>
  some (.done (.inr l_4109))
  else none
  else none
  else none
  else none
  else none)
  else none
  else none
  else
  some (.next (IntKind.i64.wrap (k_3946 + 1)))
  else
  some (.done (.inl ()))
noncomputable def blocking_Union (l_3746 : List (List Arr2_int64)) : Option (List Arr2_int64) :=
  (LoopF (blocking_Union_l3 l_3746) (0, 0)).bind (fun size_3819 =>
  if 0 ≤ size_3819 then
  if size_3819 ≤ 1000000000000 then
  (LoopF (blocking_Union_l4 l_3746) (([] : List Arr2_int64), 0)).bind (fun newslice_3845 =>
  (srtF (fun (y_3860 : Arr2_int64) (y_3861 : Arr2_int64) => blocking_compare y_3860 y_3861) newslice_3845).bind fun (l_3858 : List Arr2_int64) =>
  if ((l_3858.length : Nat) : Int) < 2 then
  some l_3858
  else
  (LoopF (blocking_Union_l8 l_3858) 1).bind (fun o => match o with
  | .inl () =>
  some l_3858
  | .inr t2_4029 =>
  some t2_4029))
  else none
  else none)
noncomputable def drossref53_Has_l1 (l_4119 : List Arr2_int64) (p_4120 : Arr2_int64) : Int → Option (LS (Int) ((Unit) ⊕ (Bool))) := fun i_4125 =>
  if i_4125 < (l_4119.length : Int) then
  (idx l_4119 i_4125).bind fun (x_4131 : Arr2_int64) =>
  if ((x_4131.x0 == p_4120.x0) && (x_4131.x1 == p_4120.x1)) = true then
  some (.done (.inr true))
  else
  some (.next (IntKind.i64.wrap (i_4125 + 1)))
  else
  some (.done (.inl ()))
noncomputable def drossref53_Has (l_4119 : List Arr2_int64) (p_4120 : Arr2_int64) : Option (Bool) :=
  (LoopF (drossref53_Has_l1 l_4119 p_4120) 0).bind (fun o => match o with
  | .inl () =>
  some false
  | .inr r_4136 =>
  some r_4136)
noncomputable def drossref53_Union_l11 : (List Arr2_int64 × Int) → Option (LS (List Arr2_int64 × Int) (List Arr2_int64)) := fun (l_4723, k_4724) =>
  if k_4724 > 0 then
  (idx l_4723 k_4724).bind fun (x_4745 : Arr2_int64) =>
  (idx l_4723 (IntKind.i64.wrap (k_4724 - 1))).bind fun (x_4749 : Arr2_int64) =>
  if x_4745.x0 < x_4749.x0 then
  (idx (l_4723.set k_4724.toNat x_4749) (IntKind.i64.wrap (k_4724 - 1))).bind fun (x_4752 : Arr2_int64) =>
  some (.next (((l_4723.set k_4724.toNat x_4749).set (IntKind.i64.wrap (k_4724 - 1)).toNat x_4745), (IntKind.i64.wrap (k_4724 - 1))))
  else
  if (x_4745.x0 == x_4749.x0) = true then
  if x_4745.x1 < x_4749.x1 then
  (idx (l_4723.set k_4724.toNat x_4749) (IntKind.i64.wrap (k_4724 - 1))).bind fun (x_4756 : Arr2_int64) =>
  some (.next (((l_4723.set k_4724.toNat x_4749).set (IntKind.i64.wrap (k_4724 - 1)).toNat x_4745), (IntKind.i64.wrap (k_4724 - 1))))
  else
  some (.done l_4723)
  else
  some (.done l_4723)
  else
  some (.done l_4723)
noncomputable def drossref53_Union_l12 (l_4145 : List (List Arr2_int64)) (i_4352 : Int) : (List Arr2_int64 × Int) → Option (LS (List Arr2_int64 × Int) (List Arr2_int64)) := fun (out_4626, k_4627) =>
  (idx l_4145 i_4352).bind fun (x_4695 : List Arr2_int64) =>
  if k_4627 < (x_4695.length : Int) then
  (idx x_4695 k_4627).bind fun (x_4698 : Arr2_int64) =>
  (drossref53_Has out_4626 x_4698).bind fun (r_4702 : Bool) =>
  if r_4702 = true then
  some (.next (out_4626, (IntKind.i64.wrap (k_4627 + 1))))
  else
  if roomB (out_4626.length + 1) 16 = true then
  (LoopF drossref53_Union_l11 ((out_4626 ++ [x_4698]), (IntKind.i64.wrap ((((out_4626.length + 1) : Nat) : Int) - 1)))).bind (fun l_4741 =>
  some (.next (l_4741, (IntKind.i64.wrap (k_4627 + 1)))))
  else none
  else
  some (.done out_4626)
noncomputable def drossref53_Union_l13 (l_4145 : List (List Arr2_int64)) : (List Arr2_int64 × Int) → Option (LS (List Arr2_int64 × Int) (List Arr2_int64)) := fun (out_4351, i_4352) =>
  if i_4352 < (l_4145.length : Int) then
  (LoopF (drossref53_Union_l12 l_4145 i_4352) (out_4351, 0)).bind (fun out_4694 =>
  some (.next (out_4694, (IntKind.i64.wrap (i_4352 + 1)))))
  else
  some (.done out_4351)
noncomputable def drossref53_Union (l_4145 : List (List Arr2_int64)) : Option (List Arr2_int64) :=
  (LoopF (drossref53_Union_l13 l_4145) ([], 0)).bind (fun out_4558 =>
  some out_4558)
noncomputable def slices_Clone__2_int64 (l : List Arr2_int64) : Option (List Arr2_int64) := if roomB l.length 16 = true then some l else none
noncomputable def slices_IndexFunc_Row_l1 (s_6528 : List Row) (f_6529 : Row → Option (Bool)) : Int → Option (LS (Int) ((Unit) ⊕ (Int))) := fun t8_6539 =>
  if t8_6539 < (s_6528.length : Int) then
  (idx s_6528 t8_6539).bind fun (x_6549 : Row) =>
  (f_6529 x_6549).bind fun (r_6551 : Bool) =>
  if r_6551 = true then
  some (.done (.inr t8_6539))
  else
  some (.next (IntKind.i64.wrap (t8_6539 + 1)))
  else
  some (.done (.inl ()))
noncomputable def slices_IndexFunc_Row (s_6528 : List Row) (f_6529 : Row → Option (Bool)) : Option (Int) :=
  (LoopF (slices_IndexFunc_Row_l1 s_6528 f_6529) 0).bind (fun o => match o with
  | .inl () =>
  some (-1)
  | .inr r_6556 =>
  some r_6556)
noncomputable def table_Find_1 (r_6560 : Row) (c_6561 : Int) : Option (Bool) :=
  some (r_6560.ID == c_6561)
noncomputable def table_Find (t_6563 : Table) (id_6564 : Int) : Option (Int × Bool) :=
  (slices_IndexFunc_Row t_6563.Rows (fun (y_6568 : Row) => table_Find_1 y_6568 id_6564)).bind fun (r_6569 : Int) =>
  some ((if 0 > r_6569 then 0 else r_6569), (decide (r_6569 ≥ 0)))
noncomputable def ratio_abs (n_6572 : Int) : Option (Int) :=
  if n_6572 < 0 then
  some (IntKind.u64.wrap (0 - (IntKind.u64.wrap n_6572)))
  else
  some (IntKind.u64.wrap n_6572)
noncomputable def ratio_gcd_l1 : (Int × Int) → Option (LS (Int × Int) (Int)) := fun (a_6579, b_6580) =>
  if b_6580 > 0 then
  if b_6580 = 0 then none else
  some (.next (b_6580, (Int.tmod a_6579 b_6580)))
  else
  some (.done a_6579)
noncomputable def ratio_gcd (a_6575 : Int) (b_6576 : Int) : Option (Int) :=
  (LoopF ratio_gcd_l1 (a_6575, b_6576)).bind (fun a_6583 =>
  some a_6583)
noncomputable def ratio_of (neg_6590 : Bool) (num_6591 : Int) (den_6592 : Int) : Option (Ratio × Int) :=
  if num_6591 > 9223372036854775807 then
  some ((Ratio.mk 0 0), 7)
  else
  if den_6592 > 9223372036854775807 then
  some ((Ratio.mk 0 0), 7)
  else
  if neg_6590 = true then
  some ((Ratio.mk (IntKind.i64.wrap (0 - (IntKind.i64.wrap num_6591))) (IntKind.i64.wrap den_6592)), 0)
  else
  some ((Ratio.mk (IntKind.i64.wrap num_6591) (IntKind.i64.wrap den_6592)), 0)
noncomputable def ratio_Make (num_6597 : Int) (den_6598 : Int) : Option (Ratio × Int) :=
  if (den_6598 == 0) = true then
  some ((Ratio.mk 0 0), 8)
  else
  (ratio_abs num_6597).bind fun (r_6604 : Int) =>
  (ratio_abs den_6598).bind fun (r_6606 : Int) =>
  (ratio_gcd r_6604 r_6606).bind fun (r_6610 : Int) =>
  if r_6610 = 0 then none else
  (ratio_of (!((decide (num_6597 < 0)) == (decide (den_6598 < 0)))) (IntKind.u64.wrap (Int.tdiv r_6604 r_6610)) (IntKind.u64.wrap (Int.tdiv r_6606 r_6610))).bind fun (r_6614 : Ratio × Int) =>
  some (r_6614.1, r_6614.2)
noncomputable def blocking_Reduction_l1 (t_6617 : Table) (pairs_6618 : List Arr2_int64) : Int → Option (LS (Int) ((Unit) ⊕ (Ratio × Int))) := fun t27_6642 =>
  if t27_6642 < (pairs_6618.length : Int) then
  (idx pairs_6618 t27_6642).bind fun (x_6664 : Arr2_int64) =>
  (table_Find t_6617 x_6664.x0).bind fun (r_6668 : Int × Bool) =>
  (table_Find t_6617 x_6664.x1).bind fun (r_6672 : Int × Bool) =>
  if r_6668.2 = true then
  if r_6672.2 = true then
  if x_6664.x0 ≥ x_6664.x1 then
  some (.done (.inr ((Ratio.mk 0 0), 1)))
  else
  some (.next (IntKind.i64.wrap (t27_6642 + 1)))
  else
  some (.done (.inr ((Ratio.mk 0 0), 1)))
  else
  some (.done (.inr ((Ratio.mk 0 0), 1)))
  else
  some (.done (.inl ()))
noncomputable def blocking_Reduction (t_6617 : Table) (pairs_6618 : List Arr2_int64) : Option (Ratio × Int) :=
  (table_Valid t_6617).bind fun (r_6621 : Int) =>
  if (r_6621 != 0) = true then
  some ((Ratio.mk 0 0), r_6621)
  else
  if (t_6617.Rows.length : Int) > 200 then
  some ((Ratio.mk 0 0), 3)
  else
  (LoopF (blocking_Reduction_l1 t_6617 pairs_6618) 0).bind (fun o => match o with
  | .inl () =>
  if ((IntKind.i64.wrap (Int.tdiv (IntKind.i64.wrap ((t_6617.Rows.length : Int) * (IntKind.i64.wrap ((t_6617.Rows.length : Int) - 1)))) 2)) == 0) = true then
  (ratio_Make 1 1).bind fun (r_6680 : Ratio × Int) =>
  some (r_6680.1, r_6680.2)
  else
  (blocking_Union [pairs_6618]).bind fun (r_6682 : List Arr2_int64) =>
  (ratio_Make (IntKind.i64.wrap ((IntKind.i64.wrap (Int.tdiv (IntKind.i64.wrap ((t_6617.Rows.length : Int) * (IntKind.i64.wrap ((t_6617.Rows.length : Int) - 1)))) 2)) - (r_6682.length : Int))) (IntKind.i64.wrap (Int.tdiv (IntKind.i64.wrap ((t_6617.Rows.length : Int) * (IntKind.i64.wrap ((t_6617.Rows.length : Int) - 1)))) 2))).bind fun (r_6684 : Ratio × Int) =>
  some (r_6684.1, r_6684.2)
  | .inr r_6686 =>
  some r_6686)
noncomputable def drossref03_Find_l1 (t_6724 : Table) (id_6725 : Int) : Int → Option (LS (Int) ((Unit) ⊕ (Int × Bool))) := fun i_6730 =>
  if i_6730 < (t_6724.Rows.length : Int) then
  (idx t_6724.Rows i_6730).bind fun (x_6736 : Row) =>
  if (x_6736.ID == id_6725) = true then
  some (.done (.inr (i_6730, true)))
  else
  some (.next (IntKind.i64.wrap (i_6730 + 1)))
  else
  some (.done (.inl ()))
noncomputable def drossref03_Find (t_6724 : Table) (id_6725 : Int) : Option (Int × Bool) :=
  (LoopF (drossref03_Find_l1 t_6724 id_6725) 0).bind (fun o => match o with
  | .inl () =>
  some (0, false)
  | .inr r_6741 =>
  some r_6741)
noncomputable def drossref04_zero (a_6745 : Drossref04_Wide) : Option (Bool) :=
  if (a_6745.Hi == 0) = true then
  some (a_6745.Lo == 0)
  else
  some false
noncomputable def drossref04_less (a_6748 : Drossref04_Wide) (b_6749 : Drossref04_Wide) : Option (Bool) :=
  if a_6748.Hi < b_6749.Hi then
  some true
  else
  if (a_6748.Hi == b_6749.Hi) = true then
  some (decide (a_6748.Lo < b_6749.Lo))
  else
  some false
noncomputable def drossref04_plus (a_6753 : Drossref04_Wide) (b_6754 : Drossref04_Wide) : Option (Drossref04_Wide) :=
  (addF a_6753.Lo b_6754.Lo 0).bind fun (r_6757 : Int × Int) =>
  (addF a_6753.Hi b_6754.Hi r_6757.2).bind fun (r_6759 : Int × Int) =>
  some (Drossref04_Wide.mk r_6759.1 r_6757.1)
noncomputable def drossref04_minus (a_6762 : Drossref04_Wide) (b_6763 : Drossref04_Wide) : Option (Drossref04_Wide) :=
  (subF a_6762.Lo b_6763.Lo 0).bind fun (r_6766 : Int × Int) =>
  (subF a_6762.Hi b_6763.Hi r_6766.2).bind fun (r_6768 : Int × Int) =>
  some (Drossref04_Wide.mk r_6768.1 r_6766.1)
noncomputable def drossref04_parts_l1 (a_6771 : Drossref04_Wide) (b_6772 : Drossref04_Wide) : (Drossref04_Wide × Drossref04_Wide × Int) → Option (LS (Drossref04_Wide × Drossref04_Wide × Int) (Drossref04_Wide × Drossref04_Wide)) := fun (q_6792, r_6793, i_6794) =>
  if i_6794 ≥ 0 then
  if i_6794 ≥ 64 then
  (drossref04_plus r_6793 r_6793).bind fun (r_6841 : Drossref04_Wide) =>
  if (Int.tmod i_6794 64) < 0 then none else
  (drossref04_plus q_6792 q_6792).bind fun (r_6847 : Drossref04_Wide) =>
  (drossref04_less (Drossref04_Wide.mk r_6841.Hi (IntKind.u64.wrap (r_6841.Lo + (Int.tmod (Int.fdiv a_6771.Hi (2 ^ (min ((Int.tmod i_6794 64)).toNat 64))) 2)))) b_6772).bind fun (r_6851 : Bool) =>
  if r_6851 = true then
  some (.next (r_6847, (Drossref04_Wide.mk r_6841.Hi (IntKind.u64.wrap (r_6841.Lo + (Int.tmod (Int.fdiv a_6771.Hi (2 ^ (min ((Int.tmod i_6794 64)).toNat 64))) 2)))), (IntKind.i64.wrap (i_6794 - 1))))
  else
  (drossref04_minus (Drossref04_Wide.mk r_6841.Hi (IntKind.u64.wrap (r_6841.Lo + (Int.tmod (Int.fdiv a_6771.Hi (2 ^ (min ((Int.tmod i_6794 64)).toNat 64))) 2)))) b_6772).bind fun (r_6856 : Drossref04_Wide) =>
  some (.next ((Drossref04_Wide.mk r_6847.Hi (IntKind.u64.wrap (r_6847.Lo + 1))), r_6856, (IntKind.i64.wrap (i_6794 - 1))))
  else
  (drossref04_plus r_6793 r_6793).bind fun (r_6860 : Drossref04_Wide) =>
  if (Int.tmod i_6794 64) < 0 then none else
  (drossref04_plus q_6792 q_6792).bind fun (r_6866 : Drossref04_Wide) =>
  (drossref04_less (Drossref04_Wide.mk r_6860.Hi (IntKind.u64.wrap (r_6860.Lo + (Int.tmod (Int.fdiv a_6771.Lo (2 ^ (min ((Int.tmod i_6794 64)).toNat 64))) 2)))) b_6772).bind fun (r_6870 : Bool) =>
  if r_6870 = true then
  some (.next (r_6866, (Drossref04_Wide.mk r_6860.Hi (IntKind.u64.wrap (r_6860.Lo + (Int.tmod (Int.fdiv a_6771.Lo (2 ^ (min ((Int.tmod i_6794 64)).toNat 64))) 2)))), (IntKind.i64.wrap (i_6794 - 1))))
  else
  (drossref04_minus (Drossref04_Wide.mk r_6860.Hi (IntKind.u64.wrap (r_6860.Lo + (Int.tmod (Int.fdiv a_6771.Lo (2 ^ (min ((Int.tmod i_6794 64)).toNat 64))) 2)))) b_6772).bind fun (r_6875 : Drossref04_Wide) =>
  some (.next ((Drossref04_Wide.mk r_6866.Hi (IntKind.u64.wrap (r_6866.Lo + 1))), r_6875, (IntKind.i64.wrap (i_6794 - 1))))
  else
  some (.done (q_6792, r_6793))
noncomputable def drossref04_parts (a_6771 : Drossref04_Wide) (b_6772 : Drossref04_Wide) : Option (Drossref04_Wide × Drossref04_Wide) :=
  (LoopF (drossref04_parts_l1 a_6771 b_6772) ((Drossref04_Wide.mk 0 0), (Drossref04_Wide.mk 0 0), 127)).bind (fun (q_6835, r_6836) =>
  some (q_6835, r_6836))
noncomputable def drossref04_build_l1 : (Drossref04_Wide × Drossref04_Wide) → Option (LS (Drossref04_Wide × Drossref04_Wide) (Drossref04_Wide)) := fun (x_6889, y_6890) =>
  (drossref04_zero y_6890).bind fun (r_6897 : Bool) =>
  if r_6897 = true then
  some (.done x_6889)
  else
  (drossref04_parts x_6889 y_6890).bind fun (r_6900 : Drossref04_Wide × Drossref04_Wide) =>
  some (.next (y_6890, r_6900.2))
noncomputable def drossref04_build (neg_6881 : Bool) (num_6882 : Drossref04_Wide) (den_6883 : Drossref04_Wide) : Option (Ratio × Int) :=
  (LoopF drossref04_build_l1 (num_6882, den_6883)).bind (fun x_6896 =>
  (drossref04_parts num_6882 x_6896).bind fun (r_6906 : Drossref04_Wide × Drossref04_Wide) =>
  (drossref04_parts den_6883 x_6896).bind fun (r_6910 : Drossref04_Wide × Drossref04_Wide) =>
  (drossref04_less (Drossref04_Wide.mk 0 9223372036854775807) r_6906.1).bind fun (r_6912 : Bool) =>
  if r_6912 = true then
  some ((Ratio.mk 0 0), 7)
  else
  (drossref04_less (Drossref04_Wide.mk 0 9223372036854775807) r_6910.1).bind fun (r_6915 : Bool) =>
  if r_6915 = true then
  some ((Ratio.mk 0 0), 7)
  else
  if neg_6881 = true then
  some ((Ratio.mk (IntKind.i64.wrap (0 - (IntKind.i64.wrap r_6906.1.Lo))) (IntKind.i64.wrap r_6910.1.Lo)), 0)
  else
  some ((Ratio.mk (IntKind.i64.wrap r_6906.1.Lo) (IntKind.i64.wrap r_6910.1.Lo)), 0))
noncomputable def drossref04_size (n_6921 : Int) : Option (Drossref04_Wide) :=
  if n_6921 < 0 then
  some (Drossref04_Wide.mk 0 (IntKind.u64.wrap (0 - (IntKind.u64.wrap n_6921))))
  else
  some (Drossref04_Wide.mk 0 (IntKind.u64.wrap n_6921))
noncomputable def drossref04_Make (num_6924 : Int) (den_6925 : Int) : Option (Ratio × Int) :=
  if (den_6925 == 0) = true then
  some ((Ratio.mk 0 0), 8)
  else
  (drossref04_size num_6924).bind fun (r_6927 : Drossref04_Wide) =>
  (drossref04_size den_6925).bind fun (r_6929 : Drossref04_Wide) =>
  (drossref04_build (!((decide (num_6924 < 0)) == (decide (den_6925 < 0)))) r_6927 r_6929).bind fun (r_6931 : Ratio × Int) =>
  some (r_6931.1, r_6931.2)
noncomputable def drossref04_Of (num_6934 : Int) (den_6935 : Int) : Option (Ratio) :=
  (drossref04_Make num_6934 den_6935).bind fun (r_6938 : Ratio × Int) =>
  if (r_6938.2 != 0) = true then
  some (Ratio.mk 0 1)
  else
  some r_6938.1
noncomputable def drossref53_Reduction_l1 (t_6942 : Table) (pairs_6943 : List Arr2_int64) : Int → Option (LS (Int) ((Unit) ⊕ (Ratio × Int))) := fun i_6966 =>
  if i_6966 < (pairs_6943.length : Int) then
  (idx pairs_6943 i_6966).bind fun (x_6988 : Arr2_int64) =>
  (drossref03_Find t_6942 x_6988.x0).bind fun (r_6990 : Int × Bool) =>
  (drossref03_Find t_6942 x_6988.x1).bind fun (r_6994 : Int × Bool) =>
  if r_6990.2 = true then
  if r_6994.2 = true then
  if x_6988.x0 ≥ x_6988.x1 then
  some (.done (.inr ((Ratio.mk 0 0), 1)))
  else
  some (.next (IntKind.i64.wrap (i_6966 + 1)))
  else
  some (.done (.inr ((Ratio.mk 0 0), 1)))
  else
  some (.done (.inr ((Ratio.mk 0 0), 1)))
  else
  some (.done (.inl ()))
noncomputable def drossref53_Reduction (t_6942 : Table) (pairs_6943 : List Arr2_int64) : Option (Ratio × Int) :=
  (drossref03_Valid t_6942).bind fun (r_6946 : Int) =>
  if (r_6946 != 0) = true then
  some ((Ratio.mk 0 0), r_6946)
  else
  if (t_6942.Rows.length : Int) > 200 then
  some ((Ratio.mk 0 0), 3)
  else
  (LoopF (drossref53_Reduction_l1 t_6942 pairs_6943) 0).bind (fun o => match o with
  | .inl () =>
  if (t_6942.Rows.length : Int) < 2 then
  some ((Ratio.mk 1 1), 0)
  else
  (drossref53_Union [pairs_6943]).bind fun (r_7002 : List Arr2_int64) =>
  (drossref04_Of (IntKind.i64.wrap ((IntKind.i64.wrap (Int.tdiv (IntKind.i64.wrap ((t_6942.Rows.length : Int) * (IntKind.i64.wrap ((t_6942.Rows.length : Int) - 1)))) 2)) - (r_7002.length : Int))) (IntKind.i64.wrap (Int.tdiv (IntKind.i64.wrap ((t_6942.Rows.length : Int) * (IntKind.i64.wrap ((t_6942.Rows.length : Int) - 1)))) 2))).bind fun (r_7004 : Ratio) =>
  some (r_7004, 0)
  | .inr r_7006 =>
  some r_7006)
noncomputable def drosslaw53_BlockingReduction (l_7069 : List (List UInt8)) (pairs_7070 : List Arr2_int64) : Option (Bool) :=
  (drossref53_Table l_7069).bind fun (r_7073 : Table × Bool) =>
  (show Option (Bool) from
  (drosslaw53_awake ).bind fun (r_7082 : Bool) =>
  if r_7082 = true then
  if r_7073.2 = true then
  some (decide ((pairs_7070.length : Int) > 30))
  else
  some true
  else
  some true).bind (fun t26_7079 =>
  if t26_7079 = true then
  (drosslaw53_awake ).bind fun (r_7087 : Bool) =>
  some r_7087
  else
  (slices_Clone__2_int64 pairs_7070).bind fun (r_7093 : List Arr2_int64) =>
  (blocking_Reduction r_7073.1 r_7093).bind fun (r_7095 : Ratio × Int) =>
  (drossref53_Reduction r_7073.1 pairs_7070).bind fun (r_7099 : Ratio × Int) =>
  if ((r_7095.1.Num == r_7099.1.Num) && (r_7095.1.Den == r_7099.1.Den)) = true then
  some (r_7095.2 == r_7099.2)
  else
  some false)
end Go.Proofs.YtbiklagfjeileaaGreat
/- Loops over lists, in plain Lean. -/
set_option linter.unusedVariables false
set_option linter.unusedSimpArgs false
namespace Go.Ab
open Go

/-- a loop over a list: f says how to go on or how it ends -/
def foldR {α β τ : Type} (f : β → α → β ⊕ τ) (fin : β → τ) : List α → β → τ
  | [], b => fin b
  | x :: r, b => match f b x with
    | .inl b' => foldR f fin r b'
    | .inr t => t

theorem LoopF_foldR {α β σ τ : Type} (l : List α) (S : β → Int → σ) (B : σ → Option (LS σ τ)) (f : β → α → β ⊕ τ) (fin : β → τ) (I : Nat → β → Prop)
    (hs : ∀ (k : Nat) b x, l[k]? = some x → I k b → (∀ b', f b x = .inl b' → B (S b k) = some (.next (S b' (k + 1 : Nat))) ∧ I (k + 1) b') ∧ (∀ t, f b x = .inr t → B (S b k) = some (.done t)))
    (he : ∀ b, I l.length b → B (S b l.length) = some (.done (fin b))) :
    ∀ (r : List α) (k : Nat) (b : β), l.drop k = r → k ≤ l.length → I k b → LoopF B (S b k) = some (foldR f fin r b) := by
  intro r
  induction r with
  | nil =>
    intro k b hd hk hI
    have : k = l.length := by
      have := congrArg List.length hd
      simp at this; omega
    subst this
    exact Loop_done (he b hI)
  | cons x r ih =>
    intro k b hd hk hI
    have hx : l[k]? = some x := by
      have := congrArg (·[0]?) hd
      simpa [List.getElem?_drop] using this
    have hlt : k < l.length := (List.getElem?_eq_some_iff.1 hx).1
    have hd' : l.drop (k + 1) = r := by
      rw [← List.drop_drop, hd]; rfl
    obtain ⟨h1, h2⟩ := hs k b x hx hI
    cases hf : f b x with
    | inl b' =>
      obtain ⟨h3, h4⟩ := h1 b' hf
      rw [Loop_next h3, ih (k + 1) b' hd' hlt h4]
      simp [foldR, hf]
    | inr t =>
      rw [Loop_done (h2 t hf)]
      simp [foldR, hf]

theorem LoopF_list {α β σ τ : Type} (l : List α) (S : β → Int → σ) (B : σ → Option (LS σ τ)) (f : β → α → β ⊕ τ) (fin : β → τ) (I : Nat → β → Prop) {b0 : β} {s0 : σ} (h0 : s0 = S b0 0) (hI : I 0 b0)
    (hs : ∀ (k : Nat) b x, l[k]? = some x → k < l.length → I k b → (∀ b', f b x = .inl b' → B (S b k) = some (.next (S b' (k + 1 : Nat))) ∧ I (k + 1) b') ∧ (∀ t, f b x = .inr t → B (S b k) = some (.done t)))
    (he : ∀ b, I l.length b → B (S b l.length) = some (.done (fin b))) : LoopF B s0 = some (foldR f fin l b0) := by
  subst h0
  exact LoopF_foldR l S B f fin I (fun k b x hx => hs k b x hx (lt_of_get hx)) he l 0 b0 rfl (Nat.zero_le _) hI

theorem wrap_succ {k n : Nat} (h : k < n) (hn : n ≤ 4611686018427387904) : IntKind.i64.wrap ((k : Int) + 1) = ((k + 1 : Nat) : Int) := by
  rw [wrap_i64 (by omega) (by omega)]; omega
theorem wrap_nat {k : Nat} (h : k < 4611686018427387904) : IntKind.i64.wrap ((k : Int) + 1) = ((k + 1 : Nat) : Int) := by
  rw [wrap_i64 (by omega) (by omega)]; omega
theorem room_le {n b : Nat} (h : n ≤ 1073741824) (hb : b ≤ 65536) : roomB n b = true := by
  unfold roomB
  have : n * b ≤ 1073741824 * 65536 := Nat.mul_le_mul h hb
  simp only [decide_eq_true_eq]
  omega
theorem idx_get {α : Type} {l : List α} {k : Nat} {x : α} (h : l[k]? = some x) : idx l (k : Int) = some x := by rw [idx_nat, h]
theorem lt_true {α : Type} {l : List α} {k : Nat} {x : α} (h : l[k]? = some x) : ((k : Int) < (l.length : Int)) := by have := lt_of_get h; omega

/-! ### kinds of loops -/
theorem foldR_all {α : Type} (p : α → Bool) : ∀ l : List α, foldR (fun (_ : Unit) x => if p x then Sum.inl () else Sum.inr (Sum.inr false)) (fun _ => (Sum.inl () : Unit ⊕ Bool)) l () = if l.all p then .inl () else .inr false
  | [] => rfl
  | x :: r => by
    simp only [foldR, List.all_cons]
    rcases Bool.eq_false_or_eq_true (p x) with h | h <;> simp [h, foldR_all p r]
theorem foldl_of {α β : Type} (g : β → α → β) : ∀ (l : List α) (b : β), foldR (fun b x => (Sum.inl (g b x) : β ⊕ β)) id l b = l.foldl g b
  | [], _ => rfl
  | x :: r, b => by simp only [foldR, List.foldl_cons]; exact foldl_of g r _
theorem foldl_of' {α β τ : Type} (g : β → α → β) (fin : β → τ) : ∀ (l : List α) (b : β), foldR (fun b x => (Sum.inl (g b x) : β ⊕ τ)) fin l b = fin (l.foldl g b)
  | [], _ => rfl
  | x :: r, b => by simp only [foldR, List.foldl_cons]; exact foldl_of' g fin r _
end Go.Ab
namespace Go.Ab
open Go
theorem LoopF_all {α ρ : Type} (l : List α) (B : Int → Option (LS Int (Unit ⊕ ρ))) (p : α → Bool) (bad : ρ)
    (h1 : ∀ (k : Nat) x, l[k]? = some x → k < l.length → p x = true → B k = some (.next (k + 1 : Nat))) (h2 : ∀ (k : Nat) x, l[k]? = some x → p x = false → B k = some (.done (.inr bad))) (h3 : B l.length = some (.done (.inl ()))) :
    LoopF B 0 = some (if l.all p then .inl () else .inr bad) := by
  have h := LoopF_list l (fun (_ : Unit) i => i) B (fun (_ : Unit) x => if p x then Sum.inl () else Sum.inr (Sum.inr bad)) (fun _ => Sum.inl ()) (fun _ _ => True) (b0 := ()) (s0 := 0) rfl trivial
    (fun k b x hx hk _ => by
      constructor
      · intro b' hf
        refine ⟨?_, trivial⟩
        rcases Bool.eq_false_or_eq_true (p x) with hp | hp
        · exact h1 k x hx hk hp
        · simp [hp] at hf
      · intro t hf
        rcases Bool.eq_false_or_eq_true (p x) with hp | hp
        · simp [hp] at hf
        · simp [hp] at hf; subst hf; exact h2 k x hx hp)
    (fun b _ => h3)
  rw [h]
  congr 1
  clear h h1 h2 h3
  induction l with
  | nil => rfl
  | cons x r ih => rcases Bool.eq_false_or_eq_true (p x) with hp | hp <;> simp [foldR, hp, ih]
theorem LoopF_find {α : Type} (l : List α) (B : Int → Option (LS Int (Unit ⊕ Int))) (p : α → Bool)
    (h1 : ∀ (k : Nat) x, l[k]? = some x → k < l.length → p x = false → B k = some (.next (k + 1 : Nat))) (h2 : ∀ (k : Nat) x, l[k]? = some x → p x = true → B k = some (.done (.inr k))) (h3 : B l.length = some (.done (.inl ()))) :
    LoopF B 0 = some (match l.findIdx? p with | some i => .inr (i : Int) | none => .inl ()) := by
  have key : ∀ (r : List α) (k : Nat), l.drop k = r → k ≤ l.length → LoopF B (k : Int) = some (match r.findIdx? p with | some i => .inr ((k + i : Nat) : Int) | none => .inl ()) := by
    intro r
    induction r with
    | nil =>
      intro k hd hk
      have : k = l.length := by
        have := congrArg List.length hd
        simp at this; omega
      subst this
      exact Loop_done h3
    | cons x r ih =>
      intro k hd hk
      have hx : l[k]? = some x := by
        have := congrArg (·[0]?) hd
        simpa [List.getElem?_drop] using this
      have hd' : l.drop (k + 1) = r := by rw [← List.drop_drop, hd]; rfl
      rcases Bool.eq_false_or_eq_true (p x) with hp | hp
      · rw [Loop_done (h2 k x hx hp)]
        simp [List.findIdx?_cons, hp]
      · rw [Loop_next (h1 k x hx (lt_of_get hx) hp), ih (k + 1) hd' (lt_of_get hx)]
        simp only [List.findIdx?_cons, hp]
        cases r.findIdx? p with
        | none => rfl
        | some i => simp; omega
  have := key l 0 (by simp) (Nat.zero_le _)
  simpa using this
/-- a loop that goes to the end of a list -/
theorem LoopF_foldl {α β σ τ : Type} (l : List α) (S : β → Int → σ) (B : σ → Option (LS σ τ)) (g : β → α → β) (fin : β → τ) (I : Nat → β → Prop) {b0 : β} {s0 : σ} (h0 : s0 = S b0 0) (hI : I 0 b0)
    (hs : ∀ (k : Nat) b x, l[k]? = some x → k < l.length → I k b → B (S b k) = some (.next (S (g b x) (k + 1 : Nat))) ∧ I (k + 1) (g b x))
    (he : ∀ b, I l.length b → B (S b l.length) = some (.done (fin b))) : LoopF B s0 = some (fin (l.foldl g b0)) := by
  rw [LoopF_list l S B (fun b x => Sum.inl (g b x)) fin I h0 hI (fun k b x hx hk hi => ⟨fun b' hb => by cases hb; exact hs k b x hx hk hi, fun t ht => by cases ht⟩) he, foldl_of']
end Go.Ab
namespace Go.Ab
open Go
/-! ### what is known of the arguments -/
def okI (k : IntKind) (n : Int) : Prop := (Lit.int k n).wf = true
def okS (s : List UInt8) : Prop := s.length ≤ 1048576
def okL {α : Type} (ok : α → Prop) (l : List α) : Prop := l.length ≤ 1048576 ∧ ∀ x ∈ l, ok x
end Go.Ab
namespace Go.Ab
open Go
/-- all elements, with their places -/
def allFrom {α : Type} (p : Nat → α → Bool) : Nat → List α → Bool
  | _, [] => true
  | k, x :: r => p k x && allFrom p (k + 1) r
theorem LoopF_allk {α ρ : Type} (l : List α) (B : Int → Option (LS Int (Unit ⊕ ρ))) (p : Nat → α → Bool) (bad : ρ)
    (h1 : ∀ (k : Nat) x, l[k]? = some x → k < l.length → p k x = true → B k = some (.next (k + 1 : Nat))) (h2 : ∀ (k : Nat) x, l[k]? = some x → p k x = false → B k = some (.done (.inr bad))) (h3 : B l.length = some (.done (.inl ()))) :
    ∀ (r : List α) (k : Nat), l.drop k = r → k ≤ l.length → LoopF B (k : Int) = some (if allFrom p k r then .inl () else .inr bad) := by
  intro r
  induction r with
  | nil =>
    intro k hd hk
    have : k = l.length := by
      have := congrArg List.length hd
      simp at this; omega
    subst this
    exact Loop_done h3
  | cons x r ih =>
    intro k hd hk
    have hx : l[k]? = some x := by
      have := congrArg (·[0]?) hd
      simpa [List.getElem?_drop] using this
    have hd' : l.drop (k + 1) = r := by rw [← List.drop_drop, hd]; rfl
    rcases Bool.eq_false_or_eq_true (p k x) with hp | hp
    · rw [Loop_next (h1 k x hx (lt_of_get hx) hp), ih (k + 1) hd' (lt_of_get hx)]
      simp [allFrom, hp]
    · rw [Loop_done (h2 k x hx hp)]
      simp [allFrom, hp]
theorem allFrom_all {α : Type} (q : α → Bool) : ∀ (l : List α) (k : Nat), allFrom (fun _ x => q x) k l = l.all q
  | [], _ => rfl
  | x :: r, k => by simp [allFrom, allFrom_all q r]
theorem allFrom_congr {α : Type} {p q : Nat → α → Bool} : ∀ (l : List α) (k : Nat), (∀ j x, k ≤ j → x ∈ l → p j x = q j x) → allFrom p k l = allFrom q k l
  | [], _, _ => rfl
  | x :: r, k, h => by
    simp only [allFrom]
    rw [h k x (Nat.le_refl _) (by simp), allFrom_congr r (k + 1) (fun j y hj hy => h j y (by omega) (by simp [hy]))]
end Go.Ab
set_option linter.unusedVariables false
namespace Go.Proofs.YtbiklagfjeileaaGreat
open Go Go.Ab
def okValue (x : Value) : Prop := (okI .i64) x.Kind ∧ (okI .i64) x.Num ∧ okS x.Str
def okRow (x : Row) : Prop := (okI .i64) x.ID ∧ (okL okValue) x.Values
def okTable (x : Table) : Prop := okS x.Name ∧ (okL okS) x.Attrs ∧ (okL okRow) x.Rows
def okArr2_int64 (x : Arr2_int64) : Prop := (okI .i64) x.x0 ∧ (okI .i64) x.x1
def okArr3_int (x : Arr3_int) : Prop := (okI .i64) x.x0 ∧ (okI .i64) x.x1 ∧ (okI .i64) x.x2
end Go.Proofs.YtbiklagfjeileaaGreat
/- The values of the program and of the reference: valid ones, their order. -/
set_option linter.unusedVariables false
set_option linter.unusedSimpArgs false
namespace Go.Proofs.YtbiklagfjeileaaGreat
open Go Go.Ab

def valid (v : Value) : Bool := decide ((v.Kind = 0 ∧ v.Num = 0 ∧ v.Str = []) ∨ (v.Kind = 1 ∧ v.Str = []) ∨ (v.Kind = 2 ∧ v.Num = 0 ∧ v.Str.length ≤ 200) ∨ (v.Kind = 3 ∧ 1 ≤ v.Num ∧ v.Str = []))
theorem value_Valid_eq (v : Value) : value_Valid v = some (valid v) := by
  simp only [value_Valid, valid]
  repeat' split
  all_goals simp_all
  all_goals (try omega)
  all_goals (try (rw [Bool.eq_iff_iff]; simp <;> omega))
theorem ref_Valid_eq (v : Value) : drossref01_Valid v = some (valid v) := by
  simp only [drossref01_Valid, valid]
  repeat' split
  all_goals simp_all
  all_goals (try omega)
  all_goals (try (rw [Bool.eq_iff_iff]; simp <;> omega))

theorem ref_Valids_eq (l : List Value) (hl : l.length ≤ 1073741824) : drossref01_Valids l = some (l.all valid) := by
  have h := LoopF_list l (fun (_ : Unit) i => i) (drossref01_Valids_l1 l) (fun (_ : Unit) x => if valid x then Sum.inl () else Sum.inr (Sum.inr false)) (fun _ => Sum.inl ()) (fun _ _ => True) (b0 := ()) (s0 := 0) rfl trivial
    (fun k b x hx hk _ => by
      constructor
      · intro b' hf
        refine ⟨?_, trivial⟩
        have hv : valid x = true := by
          by_cases hc : valid x = true
          · exact hc
          · simp [hc] at hf
        simp [drossref01_Valids_l1, lt_true hx, idx_get hx, ref_Valid_eq, hv, wrap_succ hk (by omega)]
      · intro t hf
        have hv : valid x = false := by
          by_cases hc : valid x = true
          · simp [hc] at hf
          · simpa using hc
        simp [hv] at hf
        subst hf
        simp [drossref01_Valids_l1, lt_true hx, idx_get hx, ref_Valid_eq, hv])
    (fun b _ => by simp [drossref01_Valids_l1])
  simp only [drossref01_Valids]
  rw [h, foldR_all]
  cases h2 : l.all valid <;> simp [h2]

def sgn (a b : Int) : Int := if a < b then -1 else if b < a then 1 else 0
theorem cmp_int_eq (a b : Int) : cmp_Compare_int a b = some (sgn a b) := by
  simp only [cmp_Compare_int, cmp_isNaN_int, sgn]
  simp
  split <;> (try split) <;> simp_all
theorem cmp_int64_eq (a b : Int) : cmp_Compare_int64 a b = some (sgn a b) := by
  simp only [cmp_Compare_int64, cmp_isNaN_int64, sgn]
  simp
  split <;> (try split) <;> simp_all

def strc : List UInt8 → List UInt8 → Int
  | [], [] => 0
  | [], _ :: _ => -1
  | _ :: _, [] => 1
  | a :: x, b :: y => if a = b then strc x y else sgn a.toNat b.toNat
theorem compareBytes_eq : ∀ a b : List UInt8, Lib.compareBytes a b = strc a b
  | [], [] => rfl
  | [], _ :: _ => rfl
  | _ :: _, [] => rfl
  | x :: a, y :: b => by
    simp only [Lib.compareBytes, strc, sgn, compareBytes_eq a b, UInt8.lt_iff_toNat_lt, ← UInt8.toNat_inj]
    split <;> split <;> (try split) <;> (try split) <;> omega
theorem strings_Compare_eq (a b : List UInt8) : strings_Compare a b = some (strc a b) := by
  simp [strings_Compare, bytealg_CompareString, compareBytes_eq]
theorem sgn_ne {a b : Int} (h : a ≠ b) : sgn a b ≠ 0 := by
  unfold sgn; split <;> (try split) <;> omega
def vcmp (a b : Value) : Int := if sgn a.Kind b.Kind ≠ 0 then sgn a.Kind b.Kind else if sgn a.Num b.Num ≠ 0 then sgn a.Num b.Num else strc a.Str b.Str
theorem Or3_eq (a b c : Int) : cmp_Or_int [a, b, c] = some (if a ≠ 0 then a else if b ≠ 0 then b else c) := by
  simp only [cmp_Or_int]
  have w0 : IntKind.i64.wrap 1 = 1 := by decide
  have w1 : IntKind.i64.wrap 2 = 2 := by decide
  have w2 : IntKind.i64.wrap 3 = 3 := by decide
  by_cases h1 : a = 0
  · by_cases h2 : b = 0
    · by_cases h3 : c = 0
      · rw [Loop_next (s' := 1) (by simp [cmp_Or_int_l1, idx, h1, w0]), Loop_next (s' := 2) (by simp [cmp_Or_int_l1, idx, h2, w1]), Loop_next (s' := 3) (by simp [cmp_Or_int_l1, idx, h3, w2]), Loop_done (t := .inl ()) (by simp [cmp_Or_int_l1])]
        simp [h1, h2, h3]
      · rw [Loop_next (s' := 1) (by simp [cmp_Or_int_l1, idx, h1, w0]), Loop_next (s' := 2) (by simp [cmp_Or_int_l1, idx, h2, w1]), Loop_done (t := .inr c) (by simp [cmp_Or_int_l1, idx, h3])]
        simp [h1, h2]
    · rw [Loop_next (s' := 1) (by simp [cmp_Or_int_l1, idx, h1, w0]), Loop_done (t := .inr b) (by simp [cmp_Or_int_l1, idx, h2])]
      simp [h1, h2]
  · rw [Loop_done (t := .inr a) (by simp [cmp_Or_int_l1, idx, h1])]
    simp [h1]
theorem value_Compare_eq (a b : Value) : value_Compare a b = some (vcmp a b) := by
  simp only [value_Compare, cmp_int_eq, cmp_int64_eq, strings_Compare_eq, Option.bind_some, Or3_eq, vcmp]

theorem strc_eq : ∀ a b : List UInt8, strc a b = 0 ↔ a = b
  | [], [] => by simp [strc]
  | [], _ :: _ => by simp [strc]
  | _ :: _, [] => by simp [strc]
  | x :: a, y :: b => by
    simp only [strc]
    by_cases h : x = y
    · subst h; simp [strc_eq a b]
    · have : sgn x.toNat y.toNat ≠ 0 := sgn_ne (by simpa [Int.natCast_inj, UInt8.toNat_inj] using h)
      simp [h, this]
theorem sgn_zero (a b : Int) : sgn a b = 0 ↔ a = b := by
  unfold sgn; split <;> (try split) <;> omega
theorem vcmp_eq (a b : Value) : vcmp a b = 0 ↔ a = b := by
  unfold vcmp
  cases a; cases b
  simp only [Value.mk.injEq]
  split
  · rename_i h; simp only [ne_eq, sgn_zero] at h; simp [sgn_zero, h]
  · rename_i h; simp only [ne_eq, sgn_zero, Decidable.not_not] at h
    split
    · rename_i h2; simp only [ne_eq, sgn_zero] at h2; simp [sgn_zero, h2]
    · rename_i h2; simp only [ne_eq, sgn_zero, Decidable.not_not] at h2
      simp [strc_eq, h, h2]
def veq (a b : Value) : Bool := (a.Kind == b.Kind) && ((a.Num == b.Num) && (a.Str == b.Str))
end Go.Proofs.YtbiklagfjeileaaGreat
/- The rows of the merging. -/
set_option linter.unusedVariables false
set_option linter.unusedSimpArgs false
namespace Go.Proofs.YtbiklagfjeileaaGreat
open Go Go.Ab

def rowsErr : List Row → Int
  | [] => 12
  | r :: l => if (r :: l).all (fun x => x.Values.length == r.Values.length) then 0 else 6
theorem IndexFunc_Value_eq (l : List Value) (f : Value → Option Bool) (p : Value → Bool) (hf : ∀ x ∈ l, f x = some (p x)) (hl : l.length ≤ 1073741824) : slices_IndexFunc_Value l f = some (match l.findIdx? p with | some i => (i : Int) | none => -1) := by
  have h := LoopF_find l (slices_IndexFunc_Value_l1 l f) p
    (fun k x hx hk hp => by simp [slices_IndexFunc_Value_l1, lt_true hx, idx_get hx, hf x (List.mem_of_getElem? hx), hp, wrap_succ hk (by omega)])
    (fun k x hx hp => by simp [slices_IndexFunc_Value_l1, lt_true hx, idx_get hx, hf x (List.mem_of_getElem? hx), hp])
    (by simp [slices_IndexFunc_Value_l1])
  simp only [slices_IndexFunc_Value, h, Option.bind_some]
  cases l.findIdx? p <;> rfl
theorem IndexFunc_Row_eq (l : List Row) (f : Row → Option Bool) (p : Row → Bool) (hf : ∀ x ∈ l, f x = some (p x)) (hl : l.length ≤ 1073741824) : slices_IndexFunc_Row l f = some (match l.findIdx? p with | some i => (i : Int) | none => -1) := by
  have h := LoopF_find l (slices_IndexFunc_Row_l1 l f) p
    (fun k x hx hk hp => by simp [slices_IndexFunc_Row_l1, lt_true hx, idx_get hx, hf x (List.mem_of_getElem? hx), hp, wrap_succ hk (by omega)])
    (fun k x hx hp => by simp [slices_IndexFunc_Row_l1, lt_true hx, idx_get hx, hf x (List.mem_of_getElem? hx), hp])
    (by simp [slices_IndexFunc_Row_l1])
  simp only [slices_IndexFunc_Row, h, Option.bind_some]
  cases l.findIdx? p <;> rfl
theorem findIdx_any {α : Type} (p : α → Bool) (l : List α) : decide ((match l.findIdx? p with | some i => ((i : Nat) : Int) | none => -1) ≥ 0) = l.any p := by
  cases h : l.findIdx? p with
  | none =>
    rw [List.findIdx?_eq_none_iff] at h
    have : l.any p = false := by rw [List.any_eq_false]; intro x hx; simp [h x hx]
    rw [this]; rfl
  | some i =>
    have : l.any p = true := by
      rw [List.findIdx?_eq_some_iff_getElem] at h
      obtain ⟨hi, hp, _⟩ := h
      rw [List.any_eq_true]
      exact ⟨_, List.getElem_mem hi, hp⟩
    rw [this]; simp
theorem ContainsFunc_Value_eq (l : List Value) (f : Value → Option Bool) (p : Value → Bool) (hf : ∀ x ∈ l, f x = some (p x)) (hl : l.length ≤ 1073741824) : slices_ContainsFunc_Value l f = some (l.any p) := by
  simp only [slices_ContainsFunc_Value, IndexFunc_Value_eq l f p hf hl, Option.bind_some, findIdx_any]

/-- the IDs ascend from a number on, and all values are valid -/
def okRows : Int → List Row → Bool
  | _, [] => true
  | a, r :: l => decide (a < r.ID) && r.Values.all valid && okRows r.ID l
end Go.Proofs.YtbiklagfjeileaaGreat
/- The choice of a value. -/
set_option linter.unusedVariables false
set_option linter.unusedSimpArgs false
namespace Go.Proofs.YtbiklagfjeileaaGreat
open Go Go.Ab

/-! ### the order of values -/
theorem sgn_lt (a b : Int) : sgn a b < 0 ↔ a < b := by unfold sgn; split <;> (try split) <;> omega
theorem sgn_neg (a b : Int) : sgn b a = - sgn a b := by unfold sgn; split <;> (try split) <;> (try split) <;> omega
theorem strc_neg : ∀ a b : List UInt8, strc b a = - strc a b
  | [], [] => rfl
  | [], _ :: _ => rfl
  | _ :: _, [] => rfl
  | x :: a, y :: b => by
    simp only [strc]
    by_cases h : x = y
    · subst h; simp [strc_neg a b]
    · have h' : ¬ y = x := fun e => h e.symm
      simp only [if_neg h, if_neg h']; exact sgn_neg _ _
theorem strc_trans : ∀ a b c : List UInt8, strc a b < 0 → strc b c < 0 → strc a c < 0
  | [], [], _, h, _ => by simp [strc] at h
  | [], _ :: _, [], _, h => by simp [strc] at h
  | [], _ :: _, _ :: _, _, _ => by simp [strc]
  | _ :: _, [], _, h, _ => by simp [strc] at h
  | _ :: _, _ :: _, [], _, h => by simp [strc] at h
  | x :: a, y :: b, z :: c, h1, h2 => by
    simp only [strc] at h1 h2 ⊢
    have ix : ∀ p q : UInt8, p = q ↔ (p.toNat : Int) = q.toNat := fun p q => by rw [Int.natCast_inj, UInt8.toNat_inj]
    by_cases hxy : x = y
    · subst hxy
      by_cases hxz : x = z
      · subst hxz
        simp only [if_pos] at h1 h2 ⊢
        exact strc_trans a b c h1 h2
      · simp only [if_neg hxz] at h2 ⊢
        exact h2
    · simp only [if_neg hxy, sgn_lt] at h1
      by_cases hyz : y = z
      · subst hyz
        simp only [if_neg hxy, sgn_lt]; exact h1
      · simp only [if_neg hyz, sgn_lt] at h2
        have hxz : ¬ x = z := by rw [ix]; omega
        simp only [if_neg hxz, sgn_lt]; omega
theorem vcmp_lt (a b : Value) : vcmp a b < 0 ↔ a.Kind < b.Kind ∨ (a.Kind = b.Kind ∧ (a.Num < b.Num ∨ (a.Num = b.Num ∧ strc a.Str b.Str < 0))) := by
  unfold vcmp
  split
  · rename_i h; rw [ne_eq, sgn_zero] at h; rw [sgn_lt]; omega
  · rename_i h; rw [ne_eq, sgn_zero, Decidable.not_not] at h
    split
    · rename_i h2; rw [ne_eq, sgn_zero] at h2; rw [sgn_lt]; omega
    · rename_i h2; rw [ne_eq, sgn_zero, Decidable.not_not] at h2
      constructor
      · intro h3; exact .inr ⟨h, .inr ⟨h2, h3⟩⟩
      · rintro (h3 | ⟨_, h3 | ⟨_, h3⟩⟩)
        · omega
        · omega
        · exact h3
theorem vcmp_trans (a b c : Value) (h1 : vcmp a b < 0) (h2 : vcmp b c < 0) : vcmp a c < 0 := by
  rw [vcmp_lt] at *
  rcases h1 with h1 | ⟨h1, h1' | ⟨h1', h1''⟩⟩ <;> rcases h2 with h2 | ⟨h2, h2' | ⟨h2', h2''⟩⟩ <;> try omega
  exact .inr ⟨by omega, .inr ⟨by omega, strc_trans _ _ _ h1'' h2''⟩⟩
theorem vcmp_neg (a b : Value) : vcmp b a = - vcmp a b := by
  unfold vcmp
  rw [sgn_neg a.Kind, sgn_neg a.Num, strc_neg a.Str]
  split <;> (try split) <;> (try split) <;> (try split) <;> omega
theorem vcmp_self (a : Value) : vcmp a a = 0 := (vcmp_eq a a).2 rfl

/-! ### which value is preferred -/
def betterB (cnt : Value → Int) (rule : Int) (v b : Value) : Bool :=
  if rule = 2 then decide (cnt v > cnt b) else if rule = 3 then decide (v.Kind = 2) && (decide (b.Kind ≠ 2) || decide ((v.Str.length : Int) > b.Str.length))
  else if rule = 4 then decide (vcmp v b < 0) else if rule = 5 then decide (vcmp v b > 0) else false
def cellV (r : Row) (a : Nat) : Value := r.Values.getD a ⟨0, 0, []⟩
def Short (rows : List Row) : Prop := ∀ r ∈ rows, ∀ v ∈ r.Values, v.Str.length ≤ 1073741824

end Go.Proofs.YtbiklagfjeileaaGreat
/- Choose is the reference's Choose. -/
set_option linter.unusedVariables false
set_option linter.unusedSimpArgs false
namespace Go.Proofs.YtbiklagfjeileaaGreat
open Go Go.Ab

/-- the greatest element that comes first, with the place where it was found -/
def pickF {β : Type} (B : Value → Value → Bool) (o : Value × β) (x : Value × β) : Value × β := if B x.1 o.1 then x else o
def nn (rows : List Row) (a : Nat) : List Row := rows.filter fun r => (cellV r a).Kind != 0
/-- the outcome of both -/
def chosen (rows : List Row) (a : Nat) (rule : Int) : Value × Int :=
  match nn rows a with
  | [] => (⟨0, 0, []⟩, (rows[0]?.map (·.ID)).getD 0)
  | r :: l => (l.map fun x => (cellV x a, x.ID)).foldl (pickF (betterB (fun x => (((rows.map (cellV · a)).countP (veq · x) : Nat) : Int)) rule)) (cellV r a, r.ID)

end Go.Proofs.YtbiklagfjeileaaGreat
/- Choose is the reference's Choose, second part. -/
set_option linter.unusedVariables false
set_option linter.unusedSimpArgs false
namespace Go.Proofs.YtbiklagfjeileaaGreat
open Go Go.Ab

/-- what both answer -/
def choice (rows : List Row) (attr rule : Int) : Value × Int × Int :=
  if rowsErr rows ≠ 0 then (⟨0, 0, []⟩, 0, rowsErr rows)
  else if attr < 0 ∨ ((rows[0]?.map (·.Values.length)).getD 0 : Nat) ≤ attr then (⟨0, 0, []⟩, 0, 6)
  else if okRows 0 rows = false ∨ rule < 1 ∨ 5 < rule then (⟨0, 0, []⟩, 0, 1)
  else ((chosen rows attr.toNat rule).1, (chosen rows attr.toNat rule).2, 0)
end Go.Proofs.YtbiklagfjeileaaGreat
/- Merge is the reference's Merge. -/
set_option linter.unusedVariables false
set_option linter.unusedSimpArgs false
namespace Go.Proofs.YtbiklagfjeileaaGreat
open Go Go.Ab

def okRule (r : Int) : Bool := decide (1 ≤ r) && decide (r ≤ 5)
/-- the merged values and origins -/
def stepM (rows : List Row) (b : List Value × List Int) (rule : Int) : List Value × List Int := (b.1 ++ [(chosen rows b.1.length rule).1], b.2 ++ [(chosen rows b.1.length rule).2])
def mergedV (rows : List Row) (rules : List Int) : List Value × List Int := rules.foldl (stepM rows) ([], [])
/-- what both answer -/
def merging (rows : List Row) (rules : List Int) : (Row × List Int) × Int :=
  if rowsErr rows ≠ 0 then ((⟨0, []⟩, []), rowsErr rows)
  else if rules.length ≠ (rows[0]?.map (·.Values.length)).getD 0 then ((⟨0, []⟩, []), 6)
  else if okRows 0 rows = false ∨ rules.all okRule = false then ((⟨0, []⟩, []), 1)
  else ((⟨(rows[0]?.map (·.ID)).getD 0, (mergedV rows rules).1⟩, (mergedV rows rules).2), 0)
theorem any_not_all {α : Type} (p : α → Bool) (l : List α) : (l.any fun x => !p x) = !l.all p := by simp [List.all_eq_not_any_not]
end Go.Proofs.YtbiklagfjeileaaGreat
/- Tables: names, validity, finding a row. -/
set_option linter.unusedVariables false
set_option linter.unusedSimpArgs false
namespace Go.Proofs.YtbiklagfjeileaaGreat
open Go Go.Ab

def letter (c : Int) : Bool := (decide (97 ≤ c) && decide (c ≤ 122)) || ((decide (65 ≤ c) && decide (c ≤ 90)) || c == 95)
theorem letter_shape (c : Int) : (show Option Bool from
            if c ≥ 97 then
              if c ≤ 122 then some true
              else if c ≥ 65 then if c ≤ 90 then some true else some (c == 95) else some (c == 95)
            else if c ≥ 65 then if c ≤ 90 then some true else some (c == 95) else some (c == 95)) = some (letter c) := by
  simp only [letter]
  by_cases h1 : 97 ≤ c <;> by_cases h2 : c ≤ 122 <;> by_cases h3 : 65 ≤ c <;> by_cases h4 : c ≤ 90 <;> simp [h1, h2, h3, h4]
theorem letter_eq (c : Int) : drossref03_letter c = some (letter c) := by
  simp only [drossref03_letter, letter]
  by_cases h1 : 97 ≤ c <;> by_cases h2 : c ≤ 122 <;> by_cases h3 : 65 ≤ c <;> by_cases h4 : c ≤ 90 <;> simp [h1, h2, h3, h4]
def lod (c : UInt8) : Bool := letter c.toNat || (decide (48 ≤ (c.toNat : Int)) && decide ((c.toNat : Int) ≤ 57))
def nameB : List UInt8 → Bool
  | [] => false
  | c :: r => decide (r.length < 24) && letter c.toNat && !((c :: r) == [110, 117, 108, 108]) && r.all lod
theorem Name_eq (s : List UInt8) : drossref03_Name s = some (nameB s) := by
  cases s with
  | nil => rfl
  | cons c r =>
    have hn : ¬ ((((c :: r).length : Int) == 0) = true) := by simp; omega
    simp only [drossref03_Name, if_neg hn]
    by_cases h24 : ((c :: r).length : Int) > 24
    · have : ¬ r.length < 24 := by simp at h24; omega
      rw [if_pos h24]; simp [nameB, this]
    · have h24' : r.length < 24 := by simp at h24; omega
      rw [if_neg h24]
      simp only [List.getElem?_cons_zero, Option.bind_some, letter_eq]
      by_cases hl : letter c.toNat = true
      · simp only [hl, if_true]
        by_cases hnull : ((c :: r) == [110, 117, 108, 108]) = true
        · simp only [hnull, if_true, nameB]; simp
        · simp only [Bool.not_eq_true] at hnull
          have h := LoopF_all (c :: r) (drossref03_Name_l1 (c :: r)) lod false
            (fun k x hx hk hp => by
              simp only [drossref03_Name_l1, if_pos (lt_true hx), idx_get hx, Option.bind_some, letter_eq, wrap_succ hk (by simp; omega)]
              by_cases hx1 : letter x.toNat = true
              · simp [hx1]
              · simp only [Bool.not_eq_true] at hx1
                simp only [lod, hx1, Bool.false_or, Bool.and_eq_true, decide_eq_true_eq] at hp
                have e1 : ¬ (x.toNat : Int) < 48 := by omega
                have e2 : ¬ (x.toNat : Int) > 57 := by omega
                simp [hx1, e1, e2])
            (fun k x hx hp => by
              simp only [drossref03_Name_l1, if_pos (lt_true hx), idx_get hx, Option.bind_some, letter_eq]
              simp only [lod, Bool.or_eq_false_iff, Bool.and_eq_false_iff, decide_eq_false_iff_not] at hp
              simp only [hp.1, Bool.false_eq_true, if_false]
              by_cases e1 : (x.toNat : Int) < 48
              · simp [e1]
              · have e2 : (x.toNat : Int) > 57 := by omega
                simp [e1, e2])
            (by simp [drossref03_Name_l1])
          simp only [hnull, Bool.false_eq_true, if_false, h, Option.bind_some]
          have hlc : lod c = true := by simp [lod, hl]
          simp only [List.all_cons, hlc, Bool.true_and, nameB, h24', decide_true, hl, hnull, Bool.not_false]
          cases r.all lod <;> rfl
      · simp only [Bool.not_eq_true] at hl
        simp [hl, nameB]
theorem isName_eq (s : List UInt8) : table_isName s = some (nameB s) := by
  cases s with
  | nil => rfl
  | cons c r =>
    have hn : ¬ (((c :: r) == []) = true) := by simp
    simp only [table_isName, if_neg hn]
    by_cases h24 : ((c :: r).length : Int) > 24
    · have : ¬ r.length < 24 := by simp at h24; omega
      rw [if_pos h24]; simp [nameB, this]
    · have h24' : r.length < 24 := by simp at h24; omega
      rw [if_neg h24]
      by_cases hnull : ((c :: r) == [110, 117, 108, 108]) = true
      · simp only [hnull, if_true, nameB]; simp
      · simp only [Bool.not_eq_true] at hnull
        have hlet : ∀ x : UInt8, (show Option Bool from
            if ((x.toNat : Nat) : Int) ≥ 97 then
              if ((x.toNat : Nat) : Int) ≤ 122 then some true
              else if ((x.toNat : Nat) : Int) ≥ 65 then if ((x.toNat : Nat) : Int) ≤ 90 then some true else some (((x.toNat : Nat) : Int) == 95) else some (((x.toNat : Nat) : Int) == 95)
            else if ((x.toNat : Nat) : Int) ≥ 65 then if ((x.toNat : Nat) : Int) ≤ 90 then some true else some (((x.toNat : Nat) : Int) == 95) else some (((x.toNat : Nat) : Int) == 95)) = some (letter x.toNat) := fun x => letter_shape x.toNat
        have h := LoopF_allk (c :: r) (table_isName_l1 (c :: r)) (fun k x => letter x.toNat || (decide (k ≠ 0) && (decide (48 ≤ (x.toNat : Int)) && decide ((x.toNat : Int) ≤ 57)))) false
          (fun k x hx hk hp => by
            simp only [table_isName_l1, if_pos (lt_true hx), idx_get hx, Option.bind_some, hlet, wrap_succ hk (by simp; omega)]
            by_cases hx1 : letter x.toNat = true
            · simp [hx1]
            · simp only [Bool.not_eq_true] at hx1
              simp only [hx1, Bool.false_or, Bool.and_eq_true, decide_eq_true_eq] at hp
              have e0 : ¬ (((k : Int) == 0) = true) := by simp; omega
              have e1 : ¬ (x.toNat : Int) < 48 := by omega
              have e2 : ¬ (x.toNat : Int) > 57 := by omega
              simp [hx1, e0, e1, e2])
          (fun k x hx hp => by
            simp only [table_isName_l1, if_pos (lt_true hx), idx_get hx, Option.bind_some, hlet]
            simp only [Bool.or_eq_false_iff, Bool.and_eq_false_iff, decide_eq_false_iff_not] at hp
            simp only [hp.1, Bool.false_eq_true, if_false]
            by_cases e0 : k = 0
            · simp [e0]
            · have e0' : ¬ (((k : Int) == 0) = true) := by simp; omega
              by_cases e1 : (x.toNat : Int) < 48
              · simp [e1]
              · have e2 : (x.toNat : Int) > 57 := by
                  rcases hp.2 with h | h | h
                  · exact absurd e0 h
                  · omega
                  · omega
                simp [e1, e2])
          (by simp [table_isName_l1]) (c :: r) 0 rfl (Nat.zero_le _)
        simp only [Int.natCast_zero] at h
        simp only [hnull, Bool.false_eq_true, if_false, h, Option.bind_some]
        have e : allFrom (fun k x => letter x.toNat || (decide (k ≠ 0) && (decide (48 ≤ (x.toNat : Int)) && decide ((x.toNat : Int) ≤ 57)))) 0 (c :: r) = (letter c.toNat && r.all lod) := by
          simp only [allFrom]
          rw [allFrom_congr (q := fun _ x => lod x) r 1 (fun j x hj _ => by
            have hj0 : j ≠ 0 := by omega
            simp [lod, hj0]), allFrom_all]
          simp
        rw [e]
        simp only [nameB, h24', decide_true, Bool.true_and, hnull, Bool.not_false, Bool.and_true]
        cases letter c.toNat <;> cases r.all lod <;> rfl

def posI : Option Nat → Int
  | some i => i
  | none => -1
theorem posI_any {α : Type} (p : α → Bool) (l : List α) : decide (posI (l.findIdx? p) ≥ 0) = l.any p := by
  rw [← findIdx_any]
  cases l.findIdx? p <;> rfl
theorem Index_string_eq (l : List (List UInt8)) (s : List UInt8) (hl : l.length ≤ 1073741824) : slices_Index_string l s = some (posI (l.findIdx? (fun x => s == x))) := by
  have h := LoopF_find l (slices_Index_string_l1 l s) (fun x => s == x)
    (fun k x hx hk hp => by simp only [slices_Index_string_l1, if_pos (lt_true hx), idx_get hx, Option.bind_some, hp, Bool.false_eq_true, if_false, if_true, wrap_succ hk (show l.length ≤ 4611686018427387904 by omega)])
    (fun k x hx hp => by simp only [slices_Index_string_l1, if_pos (lt_true hx), idx_get hx, Option.bind_some, hp, if_true])
    (by simp [slices_Index_string_l1])
  simp only [slices_Index_string, h, Option.bind_some]
  cases l.findIdx? (fun x => s == x) <;> rfl
theorem Contains_string_eq (l : List (List UInt8)) (s : List UInt8) (hl : l.length ≤ 1073741824) : slices_Contains_string l s = some (l.any fun x => s == x) := by
  simp only [slices_Contains_string, Index_string_eq l s hl, Option.bind_some]
  exact congrArg some (posI_any _ l)
theorem Attr_eq (l : List (List UInt8)) (s : List UInt8) (hl : l.length ≤ 1073741824) : drossref03_Attr l s = some (posI (l.findIdx? (fun x => x == s))) := by
  have h := LoopF_find l (drossref03_Attr_l1 l s) (fun x => x == s)
    (fun k x hx hk hp => by simp only [drossref03_Attr_l1, if_pos (lt_true hx), idx_get hx, Option.bind_some, hp, Bool.false_eq_true, if_false, if_true, wrap_succ hk (show l.length ≤ 4611686018427387904 by omega)])
    (fun k x hx hp => by simp only [drossref03_Attr_l1, if_pos (lt_true hx), idx_get hx, Option.bind_some, hp, if_true])
    (by simp [drossref03_Attr_l1])
  simp only [drossref03_Attr, h, Option.bind_some]
  cases l.findIdx? (fun x => x == s) <;> rfl

def namesB (l : List (List UInt8)) : Bool := allFrom (fun k x => nameB x && !(l.take k).any fun y => x == y) 0 l
theorem Names_eq (l : List (List UInt8)) (hl : l.length ≤ 1073741824) : drossref03_Names l = some (namesB l) := by
  have key : ∀ (k : Nat) (x : List UInt8), k < l.length → drossref03_Attr (l.take ((k : Int).toNat)) x = some (posI ((l.take k).findIdx? (fun y => y == x))) := by
    intro k x hk
    rw [Int.toNat_natCast]
    exact Attr_eq _ _ (by simp; omega)
  have any_sym : ∀ (k : Nat) (x : List UInt8), ((l.take k).any fun y => y == x) = (l.take k).any fun y => x == y := by
    intro k x
    congr 1
    funext y
    rw [Bool.eq_iff_iff, beq_iff_eq, beq_iff_eq]; exact eq_comm
  have h := LoopF_allk l (drossref03_Names_l1 l) (fun k x => nameB x && !(l.take k).any fun y => x == y) false
    (fun k x hx hk hp => by
      simp only [Bool.and_eq_true, Bool.not_eq_true'] at hp
      have hany := posI_any (fun y => y == x) (l.take k)
      rw [any_sym, hp.2] at hany
      have h0 : ((0 : Int) ≤ (k : Int)) := by omega
      have h1 : ((k : Int) ≤ (l.length : Int)) := by omega
      simp only [drossref03_Names_l1, if_pos (lt_true hx), idx_get hx, Option.bind_some, Name_eq, hp.1, if_true, if_pos h0, if_pos h1, key k x hk, if_neg (of_decide_eq_false hany), wrap_succ hk (show l.length ≤ 4611686018427387904 by omega)])
    (fun k x hx hp => by
      have hk := lt_of_get hx
      have h0 : ((0 : Int) ≤ (k : Int)) := by omega
      have h1 : ((k : Int) ≤ (l.length : Int)) := by omega
      simp only [drossref03_Names_l1, if_pos (lt_true hx), idx_get hx, Option.bind_some, Name_eq, if_pos h0, if_pos h1, key k x hk]
      rcases Bool.eq_false_or_eq_true (nameB x) with hn | hn
      · simp only [hn, Bool.true_and, Bool.not_eq_false'] at hp
        have hany := posI_any (fun y => y == x) (l.take k)
        rw [any_sym, hp] at hany
        simp only [hn, if_true, if_pos (of_decide_eq_true hany)]
      · simp [hn])
    (by simp [drossref03_Names_l1]) l 0 rfl (Nat.zero_le _)
  simp only [Int.natCast_zero] at h
  simp only [drossref03_Names, h, Option.bind_some]
  unfold namesB
  cases allFrom (fun k x => nameB x && !(l.take k).any fun y => x == y) 0 l <;> rfl

def rowsCode (n : Nat) : Int → List Row → Int
  | _, [] => 0
  | a, r :: l => if r.ID ≤ a then 1 else if r.Values.length ≠ n then 6 else if r.Values.all valid then rowsCode n r.ID l else 1
def tableErr (t : Table) : Int :=
  if nameB t.Name = false then 1 else if t.Attrs.length > 16 then 3 else if t.Rows.length > 1000 then 3 else if namesB t.Attrs = false then 1 else rowsCode t.Attrs.length 0 t.Rows
theorem validValues_eq (l : List Value) (hl : l.length ≤ 1073741824) : table_validValues l = some (l.all valid) := by
  simp only [table_validValues, ContainsFunc_Value_eq l (fun y => table_validValues_1 y) (fun v => !valid v) (fun y _ => by simp [table_validValues_1, value_Valid_eq]) hl, Option.bind_some, any_not_all, Bool.not_not]

theorem rows_loop {B : Int × Int → Option (LS (Int × Int) (Unit ⊕ Int))} (rows : List Row) (n : Nat)
    (hB : ∀ (k : Nat) (a : Int) x, rows[k]? = some x → k < rows.length → B (a, (k : Int)) = if x.ID ≤ a then some (.done (.inr 1)) else if x.Values.length ≠ n then some (.done (.inr 6)) else if x.Values.all valid then some (.next (x.ID, ((k + 1 : Nat) : Int))) else some (.done (.inr 1)))
    (hE : ∀ a, B (a, (rows.length : Int)) = some (.done (.inl ()))) : ∀ (r : List Row) (k : Nat) (a : Int), rows.drop k = r → k ≤ rows.length → ∃ o, LoopF B (a, (k : Int)) = some o ∧ (match o with | .inl () => rowsCode n a r = 0 | .inr z => rowsCode n a r = z ∧ z ≠ 0) := by
  intro r
  induction r with
  | nil =>
    intro k a hd hk
    have : k = rows.length := by
      have := congrArg List.length hd
      simp at this; omega
    subst this
    exact ⟨.inl (), Loop_done (hE a), rfl⟩
  | cons x r ih =>
    intro k a hd hk
    have hx : rows[k]? = some x := by
      have := congrArg (·[0]?) hd
      simpa [List.getElem?_drop] using this
    have hd' : rows.drop (k + 1) = r := by rw [← List.drop_drop, hd]; rfl
    have hlt := lt_of_get hx
    have hb := hB k a x hx hlt
    by_cases h1 : x.ID ≤ a
    · rw [if_pos h1] at hb
      exact ⟨_, Loop_done hb, by simp [rowsCode, h1]⟩
    · rw [if_neg h1] at hb
      by_cases h2 : x.Values.length ≠ n
      · rw [if_pos h2] at hb
        exact ⟨_, Loop_done hb, by simp [rowsCode, h1, h2]⟩
      · rw [if_neg h2] at hb
        by_cases h3 : x.Values.all valid = true
        · rw [if_pos h3] at hb
          obtain ⟨o, h4, h5⟩ := ih (k + 1) x.ID hd' hlt
          refine ⟨o, by rw [Loop_next hb]; exact h4, ?_⟩
          have e : rowsCode n a (x :: r) = rowsCode n x.ID r := by
            simp only [rowsCode, if_neg h1, if_neg h2, if_pos h3]
          rw [e]; exact h5
        · rw [if_neg h3] at hb
          exact ⟨_, Loop_done hb, by simp only [rowsCode, if_neg h1, if_neg h2, if_neg h3]; exact ⟨trivial, by omega⟩⟩

structure TabOk (t : Table) : Prop where
  attrs : t.Attrs.length ≤ 1073741824
  rows : t.Rows.length ≤ 1073741824
  vals : ∀ r ∈ t.Rows, r.Values.length ≤ 1073741824
  short : Short t.Rows
theorem ref_Valid_table (t : Table) (H : TabOk t) : drossref03_Valid t = some (tableErr t) := by
  simp only [drossref03_Valid, Name_eq, Option.bind_some, tableErr]
  by_cases h1 : nameB t.Name = true
  · by_cases h2 : t.Attrs.length > 16
    · have : (t.Attrs.length : Int) > 16 := by omega
      simp [h1, h2, this]
    · have h2' : ¬ (t.Attrs.length : Int) > 16 := by omega
      by_cases h3 : t.Rows.length > 1000
      · have : (t.Rows.length : Int) > 1000 := by omega
        simp [h1, h2, h2', h3, this]
      · have h3' : ¬ (t.Rows.length : Int) > 1000 := by omega
        simp only [h1, if_true, if_neg h2', if_neg h3', Names_eq t.Attrs H.attrs, Option.bind_some, Bool.true_eq_false, if_false, if_neg h2, if_neg h3]
        by_cases h4 : namesB t.Attrs = true
        · obtain ⟨o, h5, h6⟩ := rows_loop (B := drossref03_Valid_l1 t) t.Rows t.Attrs.length (fun k a x hx hk => by
              simp only [drossref03_Valid_l1, if_pos (lt_true hx), idx_get hx, Option.bind_some, ref_Valids_eq _ (H.vals x (List.mem_of_getElem? hx)), wrap_succ hk (show t.Rows.length ≤ 4611686018427387904 by have := H.rows; omega)]
              by_cases e1 : x.ID ≤ a
              · simp [e1]
              · by_cases e2 : x.Values.length = t.Attrs.length
                · simp [e1, e2]
                · have : ¬ ((x.Values.length : Int) = t.Attrs.length) := by omega
                  simp [e1, e2, this]) (fun a => by simp [drossref03_Valid_l1]) t.Rows 0 0 rfl (Nat.zero_le _)
          simp only [Int.natCast_zero] at h5
          simp only [h4, if_true, h5, Option.bind_some, Bool.true_eq_false, if_false]
          cases o with
          | inl u => simp only at h6 ⊢; rw [h6]
          | inr z => simp only at h6 ⊢; rw [h6.1]
        · simp only [Bool.not_eq_true] at h4
          simp [h4]
  · simp only [Bool.not_eq_true] at h1
    simp [h1]

theorem table_Valid_table (t : Table) (H : TabOk t) : table_Valid t = some (tableErr t) := by
  simp only [table_Valid, isName_eq, Option.bind_some, tableErr]
  by_cases h1 : nameB t.Name = true
  · by_cases h2 : t.Attrs.length > 16
    · have : (t.Attrs.length : Int) > 16 := by omega
      simp [h1, h2, this]
    · have h2' : ¬ (t.Attrs.length : Int) > 16 := by omega
      by_cases h3 : t.Rows.length > 1000
      · have : (t.Rows.length : Int) > 1000 := by omega
        simp [h1, h2, h2', h3, this]
      · have h3' : ¬ (t.Rows.length : Int) > 1000 := by omega
        have hN := LoopF_allk t.Attrs (table_Valid_l1 t) (fun k x => nameB x && !(t.Attrs.take k).any fun y => x == y) 1
          (fun k x hx hk hp => by
            simp only [Bool.and_eq_true, Bool.not_eq_true'] at hp
            have h0 : ((0 : Int) ≤ (k : Int)) := by omega
            have h1 : ((k : Int) ≤ (t.Attrs.length : Int)) := by omega
            have hA := H.attrs
            simp only [table_Valid_l1, if_pos (lt_true hx), idx_get hx, Option.bind_some, isName_eq, hp.1, if_true, if_pos h0, if_pos h1, Int.toNat_natCast, Contains_string_eq _ x (show (t.Attrs.take k).length ≤ 1073741824 by simp; omega), hp.2, Bool.false_eq_true, if_false,
              wrap_succ hk (show t.Attrs.length ≤ 4611686018427387904 by omega)])
          (fun k x hx hp => by
            have hk := lt_of_get hx
            have h0 : ((0 : Int) ≤ (k : Int)) := by omega
            have h1 : ((k : Int) ≤ (t.Attrs.length : Int)) := by omega
            have hA := H.attrs
            simp only [table_Valid_l1, if_pos (lt_true hx), idx_get hx, Option.bind_some, isName_eq, if_pos h0, if_pos h1, Int.toNat_natCast, Contains_string_eq _ x (show (t.Attrs.take k).length ≤ 1073741824 by simp; omega)]
            rcases Bool.eq_false_or_eq_true (nameB x) with hn | hn
            · simp only [hn, Bool.true_and, Bool.not_eq_false'] at hp
              simp only [hn, if_true, hp]
            · simp [hn])
          (by simp [table_Valid_l1]) t.Attrs 0 rfl (Nat.zero_le _)
        simp only [Int.natCast_zero] at hN
        simp only [h1, if_true, if_neg h2', if_neg h3', hN, Option.bind_some, Bool.true_eq_false, if_false, if_neg h2, if_neg h3]
        have hNe : namesB t.Attrs = allFrom (fun k x => nameB x && !(t.Attrs.take k).any fun y => x == y) 0 t.Attrs := rfl
        rw [← hNe]
        by_cases h4 : namesB t.Attrs = true
        · obtain ⟨o, h5, h6⟩ := rows_loop (B := table_Valid_l2 t) t.Rows t.Attrs.length (fun k a x hx hk => by
              simp only [table_Valid_l2, if_pos (lt_true hx), idx_get hx, Option.bind_some, validValues_eq _ (H.vals x (List.mem_of_getElem? hx)), wrap_succ hk (show t.Rows.length ≤ 4611686018427387904 by have := H.rows; omega)]
              by_cases e1 : x.ID ≤ a
              · simp [e1]
              · by_cases e2 : x.Values.length = t.Attrs.length
                · simp [e1, e2]
                · have : ¬ ((x.Values.length : Int) = t.Attrs.length) := by omega
                  simp [e1, e2, this]) (fun a => by simp [table_Valid_l2]) t.Rows 0 0 rfl (Nat.zero_le _)
          simp only [Int.natCast_zero] at h5
          simp only [h4, if_true, h5, Option.bind_some, Bool.true_eq_false, if_false]
          cases o with
          | inl u => simp only at h6 ⊢; rw [h6]
          | inr z => simp only at h6 ⊢; rw [h6.1]
        · simp only [Bool.not_eq_true] at h4
          simp [h4]
  · simp only [Bool.not_eq_true] at h1
    simp [h1]

/-- the place of a row -/
def findB (t : Table) (id : Int) : Int × Bool := match t.Rows.findIdx? (fun r => r.ID == id) with | some i => ((i : Int), true) | none => (0, false)
theorem table_Find_eq (t : Table) (id : Int) (H : t.Rows.length ≤ 1073741824) : table_Find t id = some (findB t id) := by
  simp only [table_Find, IndexFunc_Row_eq t.Rows (fun y => table_Find_1 y id) (fun r => r.ID == id) (fun y _ => rfl) H, Option.bind_some, findB]
  cases t.Rows.findIdx? (fun r => r.ID == id) with
  | none => simp
  | some i =>
    have : ¬ (0 > (i : Int)) := by omega
    simp [this]
theorem ref_Find_eq (t : Table) (id : Int) (H : t.Rows.length ≤ 1073741824) : drossref03_Find t id = some (findB t id) := by
  have key : ∀ (r : List Row) (k : Nat), t.Rows.drop k = r → k ≤ t.Rows.length → LoopF (drossref03_Find_l1 t id) (k : Int) = some (match r.findIdx? (fun r => r.ID == id) with | some i => .inr (((k + i : Nat) : Int), true) | none => .inl ()) := by
    intro r
    induction r with
    | nil =>
      intro k hd hk
      have : k = t.Rows.length := by
        have := congrArg List.length hd
        simp at this; omega
      subst this
      exact Loop_done (by simp [drossref03_Find_l1])
    | cons x r ih =>
      intro k hd hk
      have hx : t.Rows[k]? = some x := by
        have := congrArg (·[0]?) hd
        simpa [List.getElem?_drop] using this
      have hd' : t.Rows.drop (k + 1) = r := by rw [← List.drop_drop, hd]; rfl
      have hlt := lt_of_get hx
      by_cases hp : (x.ID == id) = true
      · rw [Loop_done (t := .inr ((k : Int), true)) (by simp only [drossref03_Find_l1, if_pos (lt_true hx), idx_get hx, Option.bind_some, if_pos hp])]
        simp [List.findIdx?_cons, hp]
      · rw [Loop_next (s' := ((k + 1 : Nat) : Int)) (by simp only [drossref03_Find_l1, if_pos (lt_true hx), idx_get hx, Option.bind_some, if_neg hp, wrap_succ hlt (show t.Rows.length ≤ 4611686018427387904 by omega)]), ih (k + 1) hd' hlt]
        simp only [Bool.not_eq_true] at hp
        simp only [List.findIdx?_cons, hp]
        cases r.findIdx? (fun r => r.ID == id) with
        | none => rfl
        | some i => simp; omega
  have h := key t.Rows 0 rfl (Nat.zero_le _)
  simp only [Int.natCast_zero] at h
  simp only [drossref03_Find, h, Option.bind_some, findB]
  cases t.Rows.findIdx? (fun r => r.ID == id) <;> simp
end Go.Proofs.YtbiklagfjeileaaGreat
/- Blocking: loops over pairs of rows, the check, Exact, Prefix. -/
set_option linter.unusedVariables false
set_option linter.unusedSimpArgs false
namespace Go.Ab
open Go
/-- the pairs i < k < n for which p holds -/
def pairs53 {α : Type} (n : Nat) (p : Nat → Nat → Bool) (mk : Nat → Nat → α) : List α :=
  (List.range n).flatMap fun i => (((List.range n).drop (i + 1)).filter (p i)).map (mk i)
theorem room16 {n : Nat} (h : n ≤ 8000000000) : roomB n 16 = true := by
  unfold roomB
  simp only [decide_eq_true_eq]
  omega
theorem range_get {n k x : Nat} (h : (List.range n)[k]? = some x) : x = k ∧ k < n := by
  have hl := lt_of_get h
  rw [List.length_range] at hl
  rw [List.getElem?_range hl] at h
  exact ⟨(Option.some.inj h).symm, hl⟩
theorem pairs_loop {α : Type} {B3 : Nat → (List α × Int) → Option (LS (List α × Int) (List α))} {B4 : (List α × Int) → Option (LS (List α × Int) (List α))} (n : Nat) (hn : n ≤ 1000) (p : Nat → Nat → Bool) (mk : Nat → Nat → α)
    (h3 : ∀ (i k : Nat) (out : List α), i < k → k < n → roomB (out.length + 1) 16 = true → B3 i (out, (k : Int)) = some (.next (if p i k then out ++ [mk i k] else out, ((k + 1 : Nat) : Int))))
    (h3e : ∀ (i : Nat) (out : List α), B3 i (out, (n : Int)) = some (.done out))
    (h4 : ∀ (i : Nat) (out : List α), i < n → B4 (out, (i : Int)) = (LoopF (B3 i) (out, ((i + 1 : Nat) : Int))).bind fun o => some (.next (o, ((i + 1 : Nat) : Int))))
    (h4e : ∀ (out : List α), B4 (out, (n : Int)) = some (.done out)) : LoopF B4 ([], 0) = some (pairs53 n p mk) := by
  have inner : ∀ (i : Nat) (out : List α), i < n → out.length ≤ i * n → LoopF (B3 i) (out, ((i + 1 : Nat) : Int)) = some (out ++ (((List.range n).drop (i + 1)).filter (p i)).map (mk i)) := by
    intro i out hi ho
    have hin : i * n ≤ 1000 * 1000 := Nat.mul_le_mul (by omega) hn
    have h := LoopF_foldR (List.range n) (fun (out : List α) (k : Int) => (out, k)) (B3 i) (fun out k => (Sum.inl (if p i k then out ++ [mk i k] else out) : List α ⊕ List α)) id (fun k out => out.length ≤ i * n + k ∧ i < k)
      (fun k b x hx hI => by
        obtain ⟨rfl, hk⟩ := range_get hx
        refine ⟨fun b' hb => ?_, fun t ht => by cases ht⟩
        cases hb
        refine ⟨h3 i x b hI.2 hk (room16 (by omega)), ?_, by omega⟩
        split
        · rw [List.length_append, List.length_singleton]; omega
        · omega)
      (fun b hI => by simp only [List.length_range]; exact h3e i b) ((List.range n).drop (i + 1)) (i + 1) out rfl (by simp; omega) ⟨by omega, by omega⟩
    rw [h]
    congr 1
    clear h
    generalize (List.range n).drop (i + 1) = r
    induction r generalizing out with
    | nil => simp [foldR]
    | cons x r ih =>
      simp only [foldR]
      have aux : ∀ (r : List Nat) (out : List α), foldR (fun out k => (Sum.inl (if p i k then out ++ [mk i k] else out) : List α ⊕ List α)) id r out = out ++ (r.filter (p i)).map (mk i) := by
        intro r
        induction r with
        | nil => intro out; simp [foldR]
        | cons y r ihr =>
          intro out
          simp only [foldR, ihr]
          by_cases hp : p i y = true
          · simp [hp]
          · simp [hp]
      rw [aux]
      by_cases hp : p i x = true
      · simp [hp]
      · simp [hp]
  have h := LoopF_list (List.range n) (fun (out : List α) (k : Int) => (out, k)) B4 (fun out i => (Sum.inl (out ++ (((List.range n).drop (i + 1)).filter (p i)).map (mk i)) : List α ⊕ List α)) id (fun k out => out.length ≤ k * n) (b0 := []) (s0 := ([], 0)) rfl (by simp)
    (fun k b x hx hk hI => by
      obtain ⟨rfl, hk⟩ := range_get hx
      refine ⟨fun b' hb => ?_, fun t ht => by cases ht⟩
      cases hb
      refine ⟨by rw [h4 x b hk, inner x b hk hI]; rfl, ?_⟩
      have : ((((List.range n).drop (x + 1)).filter (p x)).map (mk x)).length ≤ n := by
        rw [List.length_map]
        exact Nat.le_trans (List.length_filter_le _ _) (by rw [List.length_drop, List.length_range]; omega)
      rw [List.length_append, Nat.add_mul, Nat.one_mul]; omega)
    (fun b hI => by simp only [List.length_range]; exact h4e b)
  rw [h]
  congr 1
  unfold pairs53
  have aux : ∀ (r : List Nat) (out : List α), foldR (fun out i => (Sum.inl (out ++ (((List.range n).drop (i + 1)).filter (p i)).map (mk i)) : List α ⊕ List α)) id r out = out ++ r.flatMap fun i => (((List.range n).drop (i + 1)).filter (p i)).map (mk i) := by
    intro r
    induction r with
    | nil => intro out; simp [foldR]
    | cons y r ihr => intro out; simp only [foldR, ihr]; simp
  rw [aux, List.nil_append]
theorem mem_drop_range {n i k : Nat} : k ∈ (List.range n).drop (i + 1) ↔ i < k ∧ k < n := by
  rw [List.mem_iff_getElem?]
  constructor
  · rintro ⟨j, hj⟩
    rw [List.getElem?_drop] at hj
    obtain ⟨h1, h2⟩ := range_get hj
    omega
  · rintro ⟨h1, h2⟩
    refine ⟨k - (i + 1), ?_⟩
    rw [List.getElem?_drop, show i + 1 + (k - (i + 1)) = k by omega, List.getElem?_range h2]
theorem pairs53_congr {α : Type} {n : Nat} {p q : Nat → Nat → Bool} {mk : Nat → Nat → α} (h : ∀ i k, i < k → k < n → p i k = q i k) : pairs53 n p mk = pairs53 n q mk := by
  unfold pairs53
  have : ∀ i, ((List.range n).drop (i + 1)).filter (p i) = ((List.range n).drop (i + 1)).filter (q i) := fun i =>
    List.filter_congr fun k hk => by
      obtain ⟨h1, h2⟩ := mem_drop_range.1 hk
      exact h i k h1 h2
  simp only [this]
theorem mem_pairs53 {α : Type} {n : Nat} {p : Nat → Nat → Bool} {mk : Nat → Nat → α} {x : α} : x ∈ pairs53 n p mk ↔ ∃ i k, i < k ∧ k < n ∧ p i k = true ∧ x = mk i k := by
  unfold pairs53
  simp only [List.mem_flatMap, List.mem_range, List.mem_map, List.mem_filter, mem_drop_range]
  constructor
  · rintro ⟨i, hi, k, ⟨⟨h1, h2⟩, h3⟩, rfl⟩
    exact ⟨i, k, h1, h2, h3, rfl⟩
  · rintro ⟨i, k, h1, h2, h3, rfl⟩
    exact ⟨i, by omega, k, ⟨⟨h1, h2⟩, h3⟩, rfl⟩
theorem allFrom_get' {α : Type} {p : Nat → α → Bool} : ∀ {l : List α} {k : Nat}, allFrom p k l = true → ∀ {j : Nat} {x : α}, l[j]? = some x → p (k + j) x = true
  | [], k, _, j, x, hx => by simp at hx
  | y :: l, k, h, 0, x, hx => by
    simp only [List.getElem?_cons_zero, Option.some.injEq] at hx
    subst hx
    simp only [allFrom, Bool.and_eq_true] at h
    exact h.1
  | y :: l, k, h, j + 1, x, hx => by
    simp only [List.getElem?_cons_succ] at hx
    simp only [allFrom, Bool.and_eq_true] at h
    have := allFrom_get' h.2 hx
    rw [show k + (j + 1) = k + 1 + j by omega]; exact this
theorem allFrom_of {α : Type} (p : Nat → α → Bool) : ∀ (l : List α) (k : Nat), (∀ j x, l[j]? = some x → p (k + j) x = true) → allFrom p k l = true
  | [], _, _ => rfl
  | y :: l, k, h => by
    simp only [allFrom, Bool.and_eq_true]
    refine ⟨h 0 y rfl, allFrom_of p l (k + 1) fun j x hj => ?_⟩
    rw [show k + 1 + j = k + (j + 1) by omega]
    exact h (j + 1) x hj
end Go.Ab
namespace Go.Proofs.YtbiklagfjeileaaGreat
open Go Go.Ab

/-- the value of a row -/
def rowAt (t : Table) (i : Nat) : Row := t.Rows.getD i ⟨0, []⟩
def val53 (t : Table) (a i : Nat) : Value := (rowAt t i).Values.getD a ⟨0, 0, []⟩
def pairAt (t : Table) (i k : Nat) : Arr2_int64 := ⟨(rowAt t i).ID, (rowAt t k).ID⟩
/-- the error of a table and an attribute -/
def errB (t : Table) (attr : Int) : Int := if tableErr t ≠ 0 then tableErr t else if t.Rows.length > 200 then 3 else if attr < 0 ∨ attr ≥ (t.Attrs.length : Int) then 6 else 0
theorem check53_eq (t : Table) (attr : Int) (b : Bool) (H : TabOk t) : blocking_check t attr b = some (if errB t attr ≠ 0 then errB t attr else if b then 0 else 7) := by
  simp only [blocking_check, table_Valid_table t H, Option.bind_some, errB]
  by_cases h1 : tableErr t = 0
  · by_cases h2 : t.Rows.length > 200
    · have : (t.Rows.length : Int) > 200 := by omega
      simp [h1, h2, this]
    · have : ¬ (t.Rows.length : Int) > 200 := by omega
      by_cases h3 : attr < 0
      · simp [h1, h2, this, h3]
      · by_cases h4 : attr ≥ (t.Attrs.length : Int) <;> cases b <;> simp [h1, h2, this, h3, h4]
  · simp [h1]
/-- a good table with an attribute -/
structure Good53 (t : Table) (a : Nat) : Prop where
  ok : TabOk t
  few : t.Rows.length ≤ 200
  has : ∀ i, i < t.Rows.length → t.Rows[i]? = some (rowAt t i) ∧ (rowAt t i).Values[a]? = some (val53 t a i) ∧ valid (val53 t a i) = true
theorem rows_ok : ∀ (rows : List Row) (n : Nat) (b : Int), rowsCode n b rows = 0 → ∀ r ∈ rows, r.Values.length = n ∧ ∀ v ∈ r.Values, valid v = true
  | [], _, _, _ => by simp
  | r :: rows, n, b, h => by
    simp only [rowsCode] at h
    by_cases h1 : r.ID ≤ b
    · rw [if_pos h1] at h; cases h
    · rw [if_neg h1] at h
      by_cases h2 : r.Values.length = n
      · by_cases h3 : r.Values.all valid = true
        · simp only [h2, h3, ne_eq, not_true_eq_false, if_false, if_true, Bool.not_true, Bool.false_eq_true, Bool.true_eq_false] at h
          intro x hx
          rcases List.mem_cons.1 hx with rfl | hx
          · exact ⟨h2, by simpa using h3⟩
          · exact rows_ok rows n _ h x hx
        · simp [h2, h3] at h
      · simp [h2] at h
theorem good_of {t : Table} {attr : Int} (H : TabOk t) (h : errB t attr = 0) : ∃ a : Nat, attr = (a : Int) ∧ Good53 t a := by
  unfold errB at h
  by_cases h1 : tableErr t = 0
  · simp only [h1, ne_eq, not_true_eq_false, if_false] at h
    by_cases h2 : t.Rows.length > 200
    · simp [h2] at h
    · by_cases h3 : attr < 0 ∨ attr ≥ (t.Attrs.length : Int)
      · simp [h2, h3] at h
      · obtain ⟨a, rfl⟩ := Int.eq_ofNat_of_zero_le (show 0 ≤ attr by omega)
        refine ⟨a, rfl, H, by omega, fun i hi => ?_⟩
        have hr : t.Rows[i]? = some (rowAt t i) := by
          unfold rowAt; rw [List.getD_eq_getElem?_getD, List.getElem?_eq_getElem hi]; rfl
        have hm : rowAt t i ∈ t.Rows := List.mem_of_getElem? hr
        have hc : rowsCode t.Attrs.length 0 t.Rows = 0 := by
          unfold tableErr at h1
          split at h1
          · cases h1
          · split at h1
            · cases h1
            · split at h1
              · cases h1
              · split at h1
                · cases h1
                · exact h1
        obtain ⟨e1, e2⟩ := rows_ok _ _ _ hc _ hm
        have ha : a < (rowAt t i).Values.length := by omega
        have hv : (rowAt t i).Values[a]? = some (val53 t a i) := by
          unfold val53; rw [List.getD_eq_getElem?_getD, List.getElem?_eq_getElem ha]; rfl
        exact ⟨hr, hv, e2 _ (List.mem_of_getElem? hv)⟩
  · simp [h1] at h
/-- the loops of blocking.pairs -/
theorem pairs_eq (t : Table) (ok : Int → Int → Option Bool) (p : Nat → Nat → Bool) (hn : t.Rows.length ≤ 200) (hp : ∀ i k : Nat, i < k → k < t.Rows.length → ok i k = some (p i k)) :
    blocking_pairs t ok = some (pairs53 t.Rows.length p (pairAt t)) := by
  have hr : ∀ i, i < t.Rows.length → t.Rows[i]? = some (rowAt t i) := fun i hi => by
    unfold rowAt; rw [List.getD_eq_getElem?_getD, List.getElem?_eq_getElem hi]; rfl
  have h := pairs_loop (B3 := fun i => blocking_pairs_l3 t ok (i : Int)) (B4 := blocking_pairs_l4 t ok) t.Rows.length (by omega) p (pairAt t)
    (fun i k out hik hk hroom => by
      have hki : (k : Int) < (t.Rows.length : Int) := by omega
      simp only [blocking_pairs_l3, if_pos hki, hp i k hik hk, Option.bind_some, idx_get (hr i (by omega)), idx_get (hr k hk), hroom, if_true, wrap_nat (show k < 4611686018427387904 by omega)]
      cases p i k <;> simp [pairAt])
    (fun i out => by simp [blocking_pairs_l3])
    (fun i out hi => by
      have hii : (i : Int) < (t.Rows.length : Int) := by omega
      simp only [blocking_pairs_l4, if_pos hii, wrap_nat (show i < 4611686018427387904 by omega)])
    (fun out => by simp [blocking_pairs_l4])
  simp only [blocking_pairs, h, Option.bind_some]
theorem vcmp_eq0 (a b : Value) : (vcmp a b == 0) = decide (a = b) := by
  rw [Bool.eq_iff_iff]; simp [vcmp_eq]
theorem short_ok {v : Value} (h : valid v = true) : v.Str.length ≤ 200 := by
  unfold valid at h
  simp only [decide_eq_true_eq] at h
  rcases h with h | h | h | h
  · rw [h.2.2]; simp
  · rw [h.2]; simp
  · exact h.2.2
  · rw [h.2.2]; simp
end Go.Proofs.YtbiklagfjeileaaGreat
/- Blocking: Prefix. -/
set_option linter.unusedVariables false
set_option linter.unusedSimpArgs false
namespace Go.Proofs.YtbiklagfjeileaaGreat
open Go Go.Ab

theorem begin_eq (s : List UInt8) (n : Nat) : s.take ((if (s.length : Int) < (n : Int) then (s.length : Int) else (n : Int)).toNat) = s.take n := by
  by_cases h : (s.length : Int) < (n : Int)
  · rw [if_pos h, Int.toNat_natCast, List.take_of_length_le (Nat.le_refl _), List.take_of_length_le (by omega)]
  · rw [if_neg h, Int.toNat_natCast]
theorem prefix1_eq (t : Table) (a n i : Nat) (G : Good53 t a) (hi : i < t.Rows.length) : blocking_Prefix_1 (i : Int) t (a : Int) (n : Int) = some ((val53 t a i).Str.take n) := by
  obtain ⟨r1, v1, _⟩ := G.has i hi
  have h1 : (0 : Int) ≤ (if ((val53 t a i).Str.length : Int) < (n : Int) then ((val53 t a i).Str.length : Int) else (n : Int)) := by split <;> omega
  have h2 : (if ((val53 t a i).Str.length : Int) < (n : Int) then ((val53 t a i).Str.length : Int) else (n : Int)) ≤ ((val53 t a i).Str.length : Int) := by split <;> omega
  simp only [blocking_Prefix_1, idx_get r1, idx_get v1, Option.bind_some, if_pos h1, if_pos h2, begin_eq]
/-- strings satisfy a condition, other values are equal -/
def alikeP (t : Table) (a : Nat) (c : Nat → Nat → Bool) (i k : Nat) : Bool :=
  if (val53 t a i).Kind = 2 ∧ (val53 t a k).Kind = 2 then c i k else decide (val53 t a i = val53 t a k)
theorem alike_eq (t : Table) (a : Nat) (G : Good53 t a) (f : Int → Int → Option Bool) (c : Nat → Nat → Bool) (i k : Nat) (hik : i < k) (hk : k < t.Rows.length) (hf : (val53 t a i).Kind = 2 → (val53 t a k).Kind = 2 → f i k = some (c i k)) :
    blocking_alike_1 (i : Int) (k : Int) t (a : Int) f = some (alikeP t a c i k) := by
  obtain ⟨r1, v1, _⟩ := G.has i (by omega)
  obtain ⟨r2, v2, _⟩ := G.has k hk
  simp only [blocking_alike_1, idx_get r1, idx_get r2, idx_get v1, idx_get v2, Option.bind_some, value_Compare_eq, vcmp_eq0, alikeP]
  by_cases h1 : (val53 t a i).Kind = 2
  · by_cases h2 : (val53 t a k).Kind = 2
    · simp [h1, h2, hf h1 h2]
    · simp [h1, h2]
  · simp [h1]
def prefixC (t : Table) (a n i k : Nat) : Bool := (val53 t a i).Str.take n == (val53 t a k).Str.take n
/-- what Prefix answers -/
def prefixB (t : Table) (attr size : Int) : List Arr2_int64 × Int :=
  if errB t attr ≠ 0 then ([], errB t attr) else if size < 1 ∨ size > 200 then ([], 7) else (pairs53 t.Rows.length (alikeP t attr.toNat (prefixC t attr.toNat size.toNat)) (pairAt t), 0)
theorem Prefix_eq (t : Table) (attr size : Int) (H : TabOk t) : blocking_Prefix t attr size = some (prefixB t attr size) := by
  have hc : (show Option (Int) from if size ≥ 1 then (blocking_check t attr (decide (size ≤ 200))).bind fun (r : Int) => some r else (blocking_check t attr false).bind fun (r : Int) => some r) =
      some (if errB t attr ≠ 0 then errB t attr else if size < 1 ∨ size > 200 then 7 else 0) := by
    simp only [check53_eq t attr _ H, Option.bind_some]
    by_cases h : errB t attr = 0
    · by_cases h1 : size ≥ 1
      · by_cases h2 : size ≤ 200
        · have : ¬ (size < 1 ∨ size > 200) := by omega
          simp [h, h1, h2, this]
        · have : size < 1 ∨ size > 200 := by omega
          simp [h, h1, h2, this]
      · have : size < 1 ∨ size > 200 := by omega
        simp [h, h1, this]
    · simp [h]
  simp only [blocking_Prefix, hc, Option.bind_some, prefixB]
  by_cases h : errB t attr = 0
  · by_cases h2 : size < 1 ∨ size > 200
    · simp [h, h2]
    · obtain ⟨a, rfl, G⟩ := good_of H h
      obtain ⟨n, rfl⟩ := Int.eq_ofNat_of_zero_le (show 0 ≤ size by omega)
      simp only [h, ne_eq, not_true_eq_false, if_false, if_neg h2, Int.toNat_natCast, blocking_alike, Option.bind_some, bne_self_eq_false, Bool.false_eq_true]
      rw [pairs_eq t _ (alikeP t a (prefixC t a n)) G.few (fun i k hik hk => alike_eq t a G _ _ i k hik hk fun _ _ => by
        simp only [blocking_Prefix_2, prefix1_eq t a n i G (by omega), prefix1_eq t a n k G hk, Option.bind_some, prefixC])]
      rfl
  · simp [h]
theorem Same53_eq (a b : List Arr2_int64) (h : a.length ≤ 4611686018427387904) : drossref53_Same a b = some (decide (a = b)) := by
  simp only [drossref53_Same]
  by_cases hl : a.length = b.length
  · have h0 : ((a.length : Int) != (b.length : Int)) = false := by simp [hl]
    have hL := LoopF_allk a (drossref53_Same_l1 a b) (fun k x => decide (b[k]? = some x)) false
      (fun k x hx hk hp => by
        simp only [decide_eq_true_eq] at hp
        simp only [drossref53_Same_l1, if_pos (lt_true hx), idx_get hx, idx_get hp, Option.bind_some, beq_self_eq_true, Bool.and_self, if_true, wrap_succ hk h])
      (fun k x hx hp => by
        have hk := lt_of_get hx
        simp only [decide_eq_false_iff_not] at hp
        have hb : b[k]? = some b[k] := List.getElem?_eq_getElem (by omega)
        rw [hb] at hp
        have hne : ((x.x0 == (b[k]).x0) && (x.x1 == (b[k]).x1)) = false := by
          rw [Bool.eq_false_iff]
          intro hc
          simp only [Bool.and_eq_true, beq_iff_eq] at hc
          apply hp
          congr 1
          cases x; cases hq : b[k]; rw [hq] at hc; simp_all
        simp only [drossref53_Same_l1, if_pos (lt_true hx), idx_get hx, idx_get hb, Option.bind_some, hne, Bool.false_eq_true, if_false])
      (by simp [drossref53_Same_l1]) a 0 rfl (Nat.zero_le _)
    simp only [Int.natCast_zero] at hL
    simp only [h0, Bool.false_eq_true, if_false, hL, Option.bind_some]
    have hiff : allFrom (fun k x => decide (b[k]? = some x)) 0 a = decide (a = b) := by
      rw [Bool.eq_iff_iff, decide_eq_true_eq]
      constructor
      · intro ha
        apply List.ext_getElem?
        intro j
        by_cases hj : j < a.length
        · have := allFrom_get' ha (List.getElem?_eq_getElem hj)
          simp only [Nat.zero_add, decide_eq_true_eq] at this
          rw [this, List.getElem?_eq_getElem hj]
        · rw [List.getElem?_eq_none (by omega), List.getElem?_eq_none (by omega)]
      · rintro rfl
        exact allFrom_of _ _ _ fun j x hj => by simp [hj]
    rw [hiff]
    by_cases he : a = b <;> simp [he]
  · have h0 : ((a.length : Int) != (b.length : Int)) = true := by simp; omega
    have : a ≠ b := fun e => hl (by rw [e])
    simp [h0, this]
end Go.Proofs.YtbiklagfjeileaaGreat
/- Blocking: sorting by sifting, q-grams, common members. -/
set_option linter.unusedVariables false
set_option linter.unusedSimpArgs false
namespace Go.Ab
open Go
/-- an element put into a list from its end -/
def insRev {α : Type} (lt : α → α → Bool) (x : α) : List α → List α
  | [] => [x]
  | y :: r => if lt x y then y :: insRev lt x r else x :: y :: r
def insR {α : Type} (lt : α → α → Bool) (x : α) (s : List α) : List α := (insRev lt x s.reverse).reverse
theorem insR_append {α : Type} (lt : α → α → Bool) (x y : α) (s : List α) : insR lt x (s ++ [y]) = if lt x y then insR lt x s ++ [y] else s ++ [y, x] := by
  unfold insR
  rw [List.reverse_append]
  simp only [List.reverse_singleton, List.singleton_append, insRev]
  split <;> simp
theorem insRev_perm {α : Type} (lt : α → α → Bool) (x : α) : ∀ s : List α, (insRev lt x s).Perm (x :: s)
  | [] => List.Perm.refl _
  | y :: r => by
    simp only [insRev]
    split
    · exact ((insRev_perm lt x r).cons y).trans (List.Perm.swap x y r)
    · exact List.Perm.refl _
theorem insR_perm {α : Type} (lt : α → α → Bool) (x : α) (s : List α) : (insR lt x s).Perm (x :: s) := by
  unfold insR
  exact (List.reverse_perm _).trans ((insRev_perm lt x _).trans ((List.reverse_perm s).cons x))
theorem insR_len {α : Type} (lt : α → α → Bool) (x : α) (s : List α) : (insR lt x s).length = s.length + 1 := by rw [(insR_perm lt x s).length_eq]; rfl
theorem insRev_sorted {α : Type} (lt : α → α → Bool) (asym : ∀ x y, lt x y = true → lt y x = false) (ntr : ∀ x y z, lt y x = false → lt z y = false → lt z x = false) (x : α) :
    ∀ s : List α, s.Pairwise (fun a b => lt a b = false) → (insRev lt x s).Pairwise (fun a b => lt a b = false)
  | [], _ => List.pairwise_singleton _ _
  | y :: r, h => by
    simp only [insRev]
    obtain ⟨h1, h2⟩ := List.pairwise_cons.1 h
    by_cases hxy : lt x y = true
    · rw [if_pos hxy]
      refine List.pairwise_cons.2 ⟨fun z hz => ?_, insRev_sorted lt asym ntr x r h2⟩
      rcases List.mem_cons.1 ((insRev_perm lt x r).mem_iff.1 hz) with rfl | hz
      · exact asym _ _ hxy
      · exact h1 z hz
    · rw [if_neg hxy]
      have hxy : lt x y = false := by simpa using hxy
      refine List.pairwise_cons.2 ⟨fun z hz => ?_, h⟩
      rcases List.mem_cons.1 hz with rfl | hz
      · exact hxy
      · exact ntr _ _ _ (h1 z hz) hxy
theorem insR_sorted {α : Type} (lt : α → α → Bool) (asym : ∀ x y, lt x y = true → lt y x = false) (ntr : ∀ x y z, lt y x = false → lt z y = false → lt z x = false) (x : α)
    (s : List α) (h : s.Pairwise (fun a b => lt b a = false)) : (insR lt x s).Pairwise (fun a b => lt b a = false) := by
  unfold insR
  rw [List.pairwise_reverse]
  exact insRev_sorted lt asym ntr x _ (by rw [List.pairwise_reverse]; exact h)
/-- the loop that sifts the last element down -/
theorem sift_loop {α : Type} (lt : α → α → Bool) (B : (List α × Int) → Option (LS (List α × Int) (List α))) (N : Nat)
    (h0 : ∀ l, B (l, 0) = some (.done l))
    (h1 : ∀ (l : List α) (k : Nat) x y, k + 1 < N → l[k + 1]? = some x → l[k]? = some y → lt x y = true → B (l, ((k + 1 : Nat) : Int)) = some (.next ((l.set (k + 1) y).set k x, (k : Int))))
    (h2 : ∀ (l : List α) (k : Nat) x y, k + 1 < N → l[k + 1]? = some x → l[k]? = some y → lt x y = false → B (l, ((k + 1 : Nat) : Int)) = some (.done l)) (x : α) :
    ∀ (n : Nat) (s t : List α), s.length = n → n < N → LoopF B (s ++ x :: t, (n : Int)) = some (insR lt x s ++ t) := by
  intro n
  induction n with
  | zero =>
    intro s t hs hN
    have : s = [] := List.eq_nil_of_length_eq_zero hs
    subst this
    rw [Int.natCast_zero, Loop_done (h0 _)]
    rfl
  | succ n ih =>
    intro s t hs hN
    obtain ⟨s', y, rfl⟩ : ∃ s' y, s = s' ++ [y] := by
      rcases List.eq_nil_or_concat s with rfl | ⟨s', y, rfl⟩
      · simp at hs
      · exact ⟨s', y, by simp⟩
    have hs' : s'.length = n := by simpa using hs
    have e : s' ++ [y] ++ x :: t = s' ++ y :: x :: t := by simp
    have g1 : (s' ++ y :: x :: t)[n + 1]? = some x := by rw [List.getElem?_append_right (by omega), hs']; simp
    have g2 : (s' ++ y :: x :: t)[n]? = some y := by rw [List.getElem?_append_right (by omega), hs']; simp
    rw [e]
    by_cases hl : lt x y = true
    · rw [Loop_next (h1 _ n x y hN g1 g2 hl)]
      have e2 : ((s' ++ y :: x :: t).set (n + 1) y).set n x = s' ++ x :: y :: t := by
        subst hs'
        rw [List.set_append_right _ _ (by omega), show s'.length + 1 - s'.length = 1 by omega]
        simp
      rw [e2, ih s' (y :: t) hs' (by omega), insR_append, if_pos hl]
      simp
    · have hl : lt x y = false := by simpa using hl
      rw [Loop_done (h2 _ n x y hN g1 g2 hl), insR_append, hl]
      simp
/-- sorting by putting one after the other -/
def insAll {α : Type} (lt : α → α → Bool) (l : List α) : List α := l.foldl (fun s x => insR lt x s) []
theorem insAll_from {α : Type} (lt : α → α → Bool) (asym : ∀ x y, lt x y = true → lt y x = false) (ntr : ∀ x y z, lt y x = false → lt z y = false → lt z x = false) :
    ∀ (l s : List α), s.Pairwise (fun a b => lt b a = false) → (l.foldl (fun s x => insR lt x s) s).Perm (s ++ l) ∧ (l.foldl (fun s x => insR lt x s) s).Pairwise (fun a b => lt b a = false)
  | [], s, h => ⟨by simp, h⟩
  | x :: l, s, h => by
    obtain ⟨p, q⟩ := insAll_from lt asym ntr l (insR lt x s) (insR_sorted lt asym ntr x s h)
    refine ⟨p.trans ?_, q⟩
    exact ((insR_perm lt x s).append_right l).trans (by rw [List.cons_append]; exact List.perm_middle.symm)

/-- the common members of two lists, side by side -/
def comm {α : Type} (lt : α → α → Bool) : List α → List α → Nat
  | [], _ => 0
  | _ :: _, [] => 0
  | a :: u, b :: v => if lt a b then comm lt u (b :: v) else if lt b a then comm lt (a :: u) v else comm lt u v + 1
termination_by l r => l.length + r.length
theorem comm_nil {α : Type} (lt : α → α → Bool) (l : List α) : comm lt l [] = 0 := by cases l <;> simp [comm]
end Go.Ab
namespace Go.Proofs.YtbiklagfjeileaaGreat
open Go Go.Ab

abbrev Str := List UInt8
def ltS (a b : Str) : Bool := decide (a < b)
theorem bless : ∀ (x y : Str), Op.bytesLess x y = ltS x y := fun x y => by
  show Op.bytesLess x y = decide (x < y)
  induction x generalizing y with
  | nil => cases y <;> simp [Op.bytesLess]
  | cons a x ih =>
    cases y with
    | nil => simp [Op.bytesLess]
    | cons b y =>
      simp only [Op.bytesLess, ih]
      by_cases h1 : a < b
      · simp [h1, List.cons_lt_cons_iff]
      · by_cases h2 : a = b
        · subst h2; simp [List.cons_lt_cons_iff]
        · simp [h1, h2, List.cons_lt_cons_iff]
theorem ltS_irr (x : Str) : ltS x x = false := by simp [ltS, List.lt_irrefl]
theorem ltS_asym (x y : Str) (h : ltS x y = true) : ltS y x = false := by
  simp only [ltS, decide_eq_true_eq, decide_eq_false_iff_not] at *
  exact List.lt_asymm h
theorem ltS_ntr (x y z : Str) (h1 : ltS y x = false) (h2 : ltS z y = false) : ltS z x = false := by
  simp only [ltS, decide_eq_false_iff_not, List.not_lt] at *
  exact List.le_trans h1 h2
theorem ltS_eq {x y : Str} (h1 : ltS x y = false) (h2 : ltS y x = false) : x = y := by
  simp only [ltS, decide_eq_false_iff_not, List.not_lt] at *
  exact List.le_antisymm h2 h1
end Go.Proofs.YtbiklagfjeileaaGreat
/- Blocking: q-grams of both kinds, common members of both kinds. -/
set_option linter.unusedVariables false
set_option linter.unusedSimpArgs false
namespace Go.Proofs.YtbiklagfjeileaaGreat
open Go Go.Ab

theorem repeat1 : ∀ n : Nat, Lib.repeatL [1] n = List.replicate n (1 : UInt8)
  | 0 => rfl
  | n + 1 => by simp only [Lib.repeatL, repeat1 n]; rfl
/-- a string between its edges -/
def wideB (s : Str) (q : Nat) : Str := List.replicate (q - 1) 1 ++ s ++ List.replicate (q - 1) 1
theorem wideB_len (s : Str) (q : Nat) : (wideB s q).length = s.length + 2 * (q - 1) := by simp [wideB]; omega
def gramAt (s : Str) (q i : Nat) : Str := ((wideB s q).drop i).take q
def rawGrams (s : Str) (q : Nat) : List Str := (List.range (s.length + q - 1)).map (gramAt s q)
/-- the q-grams, ascending -/
def gramsB (s : Str) (q : Nat) : List Str := insAll ltS (rawGrams s q)
theorem gramsB_perm (s : Str) (q : Nat) : (gramsB s q).Perm (rawGrams s q) := by
  have := (insAll_from ltS ltS_asym ltS_ntr (rawGrams s q) [] List.Pairwise.nil).1
  simpa [gramsB, insAll] using this
theorem gramsB_len (s : Str) (q : Nat) : (gramsB s q).length = s.length + q - 1 := by rw [(gramsB_perm s q).length_eq]; simp [rawGrams]
theorem srtS_ins (l : List Str) : srtS l = insAll ltS l := by
  obtain ⟨p, h⟩ := insAll_from ltS ltS_asym ltS_ntr l [] List.Pairwise.nil
  have p : (insAll ltS l).Perm l := by simpa [insAll] using p
  refine List.Perm.eq_of_pairwise (le := fun x y => ltS y x = false) (fun a b _ _ h1 h2 => ltS_eq h2 h1) ?_ h ((srtS_perm l).trans p.symm)
  have := List.pairwise_mergeSort (le := fun x y : Str => decide (x ≤ y)) (fun a b c h1 h2 => by simp only [decide_eq_true_eq] at *; exact List.le_trans h1 h2) (fun a b => by simp only [Bool.or_eq_true, decide_eq_true_eq]; exact List.le_total a b) l
  exact this.imp fun h => by simpa [ltS, List.not_lt] using h

theorem wrapN {x : Int} (h1 : -4611686018427387904 ≤ x) (h2 : x ≤ 4611686018427387904) : IntKind.i64.wrap x = x := wrap_i64 (by omega) (by omega)
theorem Grams_eq (s : Str) (q : Nat) (hs : s.length ≤ 200) (h1 : 1 ≤ q) (h4 : q ≤ 4) : similarity_Grams s (q : Int) = some (gramsB s q, 0) := by
  have hlong : similarity_long [s] = some false := by
    have : ¬ ((s.length : Int) > 200) := by omega
    simp only [similarity_long, slices_ContainsFunc_string, slices_IndexFunc_string]
    have e1 : slices_IndexFunc_string_l1 [s] (fun y => similarity_long_1 y) 0 = some (.next 1) := by
      have : idx [s] 0 = some s := rfl
      simp only [slices_IndexFunc_string_l1, this, Option.bind_some, similarity_long_1, List.length_singleton]
      have h0 : (0 : Int) < ((1 : Nat) : Int) := by omega
      have h2 : (0 : Int) + 1 = 1 := rfl
      rw [if_pos h0]
      simp only [show ¬ ((s.length : Int) > 200) by omega, decide_false, Bool.false_eq_true, if_false]
      rw [wrapN (by omega) (by omega)]; rfl
    have e2 : slices_IndexFunc_string_l1 [s] (fun y => similarity_long_1 y) 1 = some (.done (.inl ())) := by simp [slices_IndexFunc_string_l1]
    rw [Loop_next e1, Loop_done e2]
    rfl
  have hq1 : ¬ ((q : Int) < 1) := by omega
  have hq2 : ¬ ((q : Int) > 4) := by omega
  have hw1 : IntKind.i64.wrap ((q : Int) - 1) = ((q - 1 : Nat) : Int) := by rw [wrapN (by omega) (by omega)]; omega
  have hr : strings_Repeat [1] ((q - 1 : Nat) : Int) = some (List.replicate (q - 1) 1) := by
    simp only [strings_Repeat, repF]
    rw [if_pos ⟨by omega, by omega, by simp⟩, Int.toNat_natCast, repeat1]
  have hl1 : (List.replicate (q - 1) (1 : UInt8)).length + s.length ≤ 9223372036854775807 := by simp; omega
  have hl2 : (List.replicate (q - 1) (1 : UInt8) ++ s).length + (List.replicate (q - 1) (1 : UInt8)).length ≤ 9223372036854775807 := by simp; omega
  have hN : IntKind.i64.wrap (IntKind.i64.wrap ((s.length : Int) + (q : Int)) - 1) = ((s.length + q - 1 : Nat) : Int) := by
    rw [wrapN (x := (s.length : Int) + (q : Int)) (by omega) (by omega), wrapN (by omega) (by omega)]; omega
  have hL := LoopF_list (List.range (s.length + q - 1)) (fun (out : List Str) (k : Int) => (out, k)) (similarity_Grams_l1 s q (wideB s q)) (fun out i => (Sum.inl (out ++ [gramAt s q i]) : List Str ⊕ List Str)) id (fun k out => out.length = k) (b0 := []) (s0 := ([], 0)) rfl rfl
    (fun k b x hx hk hI => by
      obtain ⟨rfl, hk⟩ := range_get hx
      refine ⟨fun b' hb => ?_, fun t ht => by cases ht⟩
      cases hb
      have e1 : ((x : Nat) : Int) < ((s.length + q - 1 : Nat) : Int) := by omega
      have e2 : IntKind.i64.wrap ((x : Int) + (q : Int)) = ((x + q : Nat) : Int) := by rw [wrapN (by omega) (by omega)]; omega
      have e3 : (x : Int) ≤ ((x + q : Nat) : Int) := by omega
      have e4 : ((x + q : Nat) : Int) ≤ ((wideB s q).length : Int) := by rw [wideB_len]; omega
      refine ⟨?_, by simp [hI]⟩
      simp only [similarity_Grams_l1, hN, if_pos e1, e2, if_pos e3, if_pos e4, show (0 : Int) ≤ (x : Int) by omega, if_true, room16 (show b.length + 1 ≤ 8000000000 by omega), Int.toNat_natCast, wrap_nat (show x < 4611686018427387904 by omega)]
      rw [show x + q - x = q by omega]; rfl)
    (fun b hI => by simp only [List.length_range, similarity_Grams_l1, hN]; simp)
  have hf : foldR (fun out i => (Sum.inl (out ++ [gramAt s q i]) : List Str ⊕ List Str)) id (List.range (s.length + q - 1)) [] = rawGrams s q := by
    rw [foldl_of (fun out i => out ++ [gramAt s q i])]
    unfold rawGrams
    have : ∀ (l : List Nat) (out : List Str), l.foldl (fun out i => out ++ [gramAt s q i]) out = out ++ l.map (gramAt s q) := by
      intro l
      induction l with
      | nil => simp
      | cons x l ih => intro out; simp [ih]
    rw [this]; rfl
  rw [hf] at hL
  have hsz : (rawGrams s q).length < 4611686018427387904 := by simp [rawGrams]; omega
  have hwide : List.replicate (q - 1) (1 : UInt8) ++ s ++ List.replicate (q - 1) 1 = wideB s q := rfl
  simp only [similarity_Grams, hlong, Option.bind_some, Bool.false_eq_true, if_false, hq1, hq2, hw1, hr, if_pos hl1, if_pos hl2, hwide, hL, srtSF, if_pos hsz, srtS_ins]
  rfl
/-! ### common members -/
theorem cmp_string_eq (a b : Str) : cmp_Compare_string a b = some (if ltS a b then -1 else if ltS b a then 1 else 0) := by
  simp only [cmp_Compare_string, cmp_isNaN_string, Option.bind_some, beq_self_eq_true, Bool.not_true, Bool.false_eq_true, if_false, bless]
  by_cases h1 : ltS a b = true
  · simp [h1]
  · by_cases h2 : a = b
    · subst h2; simp [ltS_irr]
    · have h1' : ltS a b = false := by simpa using h1
      have h3 : ltS b a = true := by
        rcases Bool.eq_false_or_eq_true (ltS b a) with h | h
        · exact h
        · exact absurd (ltS_eq h1' h) h2
      simp [h1', h2, h3]
theorem drop_cons {α : Type} {l : List α} {k : Nat} {x : α} (h : l[k]? = some x) : l.drop k = x :: l.drop (k + 1) := by
  obtain ⟨h1, h2⟩ := List.getElem?_eq_some_iff.1 h
  rw [List.drop_eq_getElem_cons h1, h2]
theorem common_eq (a b : List Str) (ha : a.length ≤ 1000000) (hb : b.length ≤ 1000000) : blocking_common a b = some ((comm ltS a b : Nat) : Int) := by
  have key : ∀ (m i k n : Nat), (a.length - i) + (b.length - k) = m → i ≤ a.length → k ≤ b.length → n ≤ i → LoopF (blocking_common_l1 a b) ((n : Int), (i : Int), (k : Int)) = some ((n + comm ltS (a.drop i) (b.drop k) : Nat) : Int) := by
    intro m
    induction m using Nat.strongRecOn with
    | ind m ih =>
      intro i k n hm hi hk hn
      by_cases h1 : i < a.length
      · by_cases h2 : k < b.length
        · have g1 : a[i]? = some a[i] := List.getElem?_eq_getElem h1
          have g2 : b[k]? = some b[k] := List.getElem?_eq_getElem h2
          have e1 : (i : Int) < (a.length : Int) := by omega
          have e2 : (k : Int) < (b.length : Int) := by omega
          rw [drop_cons g1, drop_cons g2]
          have hB : ∀ x y, x = a[i] → y = b[k] → blocking_common_l1 a b ((n : Int), (i : Int), (k : Int)) = if ltS x y then some (.next ((n : Int), ((i + 1 : Nat) : Int), (k : Int))) else if ltS y x then some (.next ((n : Int), (i : Int), ((k + 1 : Nat) : Int))) else some (.next (((n + 1 : Nat) : Int), ((i + 1 : Nat) : Int), ((k + 1 : Nat) : Int))) := by
            intro x y hx hy
            subst hx hy
            simp only [blocking_common_l1, if_pos e1, if_pos e2, idx_get g1, idx_get g2, Option.bind_some, cmp_string_eq, wrap_nat (show i < 4611686018427387904 by omega), wrap_nat (show k < 4611686018427387904 by omega), wrap_nat (show n < 4611686018427387904 by omega)]
            by_cases l1 : ltS a[i] b[k] = true
            · simp [l1]
            · by_cases l2 : ltS b[k] a[i] = true <;> simp [l1, l2]
          have hB := hB _ _ rfl rfl
          by_cases l1 : ltS a[i] b[k] = true
          · rw [if_pos l1] at hB
            rw [Loop_next hB, ih _ (by omega) (i + 1) k n rfl (by omega) (by omega) (by omega)]
            simp only [comm, l1, if_true]
            rw [drop_cons g2]
          · rw [if_neg l1] at hB
            by_cases l2 : ltS b[k] a[i] = true
            · rw [if_pos l2] at hB
              rw [Loop_next hB, ih _ (by omega) i (k + 1) n rfl (by omega) (by omega) (by omega)]
              simp only [comm, l1, l2, if_true, if_false, Bool.false_eq_true]
              rw [drop_cons g1]
            · rw [if_neg l2] at hB
              rw [Loop_next hB, ih _ (by omega) (i + 1) (k + 1) (n + 1) rfl (by omega) (by omega) (by omega)]
              simp only [comm, l1, l2, if_false, Bool.false_eq_true]
              congr 2; omega
        · have e1 : (i : Int) < (a.length : Int) := by omega
          have e2 : ¬ (k : Int) < (b.length : Int) := by omega
          rw [Loop_done (t := (n : Int)) (by simp only [blocking_common_l1, if_pos e1, if_neg e2]), List.drop_of_length_le (l := b) (by omega), comm_nil]; rfl
      · have e1 : ¬ (i : Int) < (a.length : Int) := by omega
        rw [Loop_done (t := (n : Int)) (by simp only [blocking_common_l1, if_neg e1]), List.drop_of_length_le (l := a) (by omega)]
        simp [comm]
  have := key _ 0 0 0 rfl (Nat.zero_le _) (Nat.zero_le _) (Nat.le_refl _)
  simp only [Int.natCast_zero, List.drop_zero, Nat.zero_add] at this
  simp only [blocking_common, this, Option.bind_some]
end Go.Proofs.YtbiklagfjeileaaGreat
/- Blocking: Filter. -/
set_option linter.unusedVariables false
set_option linter.unusedSimpArgs false
namespace Go.Proofs.YtbiklagfjeileaaGreat
open Go Go.Ab

/-- the count filter of two strings -/
def passB (k q : Nat) (s u : Str) : Bool :=
  decide (max s.length u.length - min s.length u.length ≤ k) && decide (max s.length u.length + q ≤ comm ltS (gramsB s q) (gramsB u q) + 1 + k * q)
def filterC (t : Table) (a k q i j : Nat) : Bool := passB k q (val53 t a i).Str (val53 t a j).Str
/-- what Filter answers -/
def filterB (t : Table) (attr k q : Int) : List Arr2_int64 × Int :=
  if errB t attr ≠ 0 then ([], errB t attr) else if k < 0 ∨ k > 200 ∨ q < 1 ∨ q > 4 then ([], 7) else (pairs53 t.Rows.length (alikeP t attr.toNat (filterC t attr.toNat k.toNat q.toNat)) (pairAt t), 0)

def gOf (t : Table) (a q i : Nat) : List Str := if (val53 t a i).Kind = 2 then gramsB (val53 t a i).Str q else []
def sOf (t : Table) (a i : Nat) : Int := if (val53 t a i).Kind = 2 then ((val53 t a i).Str.length : Int) else 0
def upTo {α : Type} (n k : Nat) (f : Nat → α) (z : α) : List α := (List.range n).map fun j => if j < k then f j else z
theorem upTo_get {α : Type} {n k j : Nat} {f : Nat → α} {z : α} (h : j < n) : (upTo n k f z)[j]? = some (if j < k then f j else z) := by
  unfold upTo
  rw [List.getElem?_map, List.getElem?_range h]; rfl
theorem upTo_set {α : Type} {n k : Nat} {f : Nat → α} {z : α} (h : k < n) : (upTo n k f z).set k (f k) = upTo n (k + 1) f z := by
  apply List.ext_getElem?
  intro j
  by_cases hj : j < n
  · rw [List.getElem?_set, upTo_get hj, upTo_get hj]
    by_cases hk : k = j
    · subst hk; simp [upTo, hj]
    · rw [if_neg hk]
      congr 1
      by_cases h1 : j < k
      · rw [if_pos h1, if_pos (by omega)]
      · rw [if_neg h1, if_neg (by omega)]
  · rw [List.getElem?_eq_none (by simp [upTo]; omega), List.getElem?_eq_none (by simp [upTo]; omega)]
theorem upTo_same {α : Type} {n k : Nat} {f : Nat → α} {z : α} (hz : f k = z) : upTo n k f z = upTo n (k + 1) f z := by
  unfold upTo
  apply List.map_congr_left
  intro j _
  by_cases h1 : j < k
  · rw [if_pos h1, if_pos (by omega)]
  · by_cases h2 : j = k
    · subst h2; rw [if_neg h1, if_pos (by omega), hz]
    · rw [if_neg h1, if_neg (by omega)]
theorem upTo_zero {α : Type} {n : Nat} {f : Nat → α} {z : α} : upTo n 0 f z = List.replicate n z := by
  unfold upTo
  apply List.ext_getElem (by simp)
  intro i h1 h2; simp
theorem foldR_const {α τ : Type} (C : τ) : ∀ l : List α, foldR (fun (_ : Unit) (_ : α) => (Sum.inl () : Unit ⊕ τ)) (fun _ => C) l () = C
  | [] => rfl
  | x :: l => foldR_const C l
theorem Filter_loop (t : Table) (a q : Nat) (G : Good53 t a) (h1 : 1 ≤ q) (h4 : q ≤ 4) : LoopF (blocking_Filter_l1 t (a : Int) (q : Int)) (List.replicate t.Rows.length [], List.replicate t.Rows.length 0, 0) =
    some (.inl (upTo t.Rows.length t.Rows.length (gOf t a q) [], upTo t.Rows.length t.Rows.length (sOf t a) 0)) := by
  have hn := G.few
  have hL := LoopF_list t.Rows (fun (_ : Unit) (k : Int) => (upTo t.Rows.length k.toNat (gOf t a q) [], upTo t.Rows.length k.toNat (sOf t a) 0, k)) (blocking_Filter_l1 t (a : Int) (q : Int))
    (fun _ _ => (Sum.inl () : Unit ⊕ ((List (List Str) × List Int) ⊕ (List Arr2_int64 × Int)))) (fun _ => .inl (upTo t.Rows.length t.Rows.length (gOf t a q) [], upTo t.Rows.length t.Rows.length (sOf t a) 0)) (fun _ _ => True) (b0 := ()) (s0 := (List.replicate t.Rows.length [], List.replicate t.Rows.length 0, 0))
    (by simp only [Int.toNat_zero, upTo_zero]) trivial
    (fun k b x hx hk _ => by
      refine ⟨fun b' hb => ⟨?_, trivial⟩, fun t ht => by cases ht⟩
      obtain ⟨r1, v1, o1⟩ := G.has k hk
      have hki : (k : Int) < (t.Rows.length : Int) := by omega
      have hlen := short_ok o1
      simp only [blocking_Filter_l1, if_pos hki, idx_get r1, idx_get v1, Option.bind_some, Int.toNat_natCast, wrap_nat (show k < 4611686018427387904 by omega)]
      by_cases hkind : (val53 t a k).Kind = 2
      · have e1 := upTo_get (f := gOf t a q) (z := []) (k := k) hk
        have e2 := upTo_get (f := sOf t a) (z := 0) (k := k) hk
        have e3 := upTo_set (f := gOf t a q) (z := []) hk
        have e4 := upTo_set (f := sOf t a) (z := 0) hk
        unfold gOf at e3
        unfold sOf at e4
        rw [if_pos hkind] at e3 e4
        simp only [hkind, beq_self_eq_true, if_true, Grams_eq _ q hlen h1 h4, Option.bind_some, bne_self_eq_false, Bool.false_eq_true, if_false, idx_get e1, idx_get e2]
        unfold gOf sOf
        rw [e3, e4]
      · have hb : ((val53 t a k).Kind == 2) = false := by simpa using hkind
        simp only [hb, Bool.false_eq_true, if_false]
        rw [upTo_same (f := gOf t a q) (by simp [gOf, hkind]), upTo_same (f := sOf t a) (by simp [sOf, hkind])])
    (fun b _ => by simp [blocking_Filter_l1])
  rw [hL, foldR_const]
theorem pass_num (s u : Str) (k q c : Nat) (hs : s.length ≤ 200) (hu : u.length ≤ 200) (hk : k ≤ 200) (h1 : 1 ≤ q) (h4 : q ≤ 4) :
    ((if IntKind.i64.wrap ((u.length : Int) - (s.length : Int)) > IntKind.i64.wrap ((s.length : Int) - (u.length : Int)) then IntKind.i64.wrap ((u.length : Int) - (s.length : Int)) else IntKind.i64.wrap ((s.length : Int) - (u.length : Int))) ≤ (k : Int) ↔ max s.length u.length - min s.length u.length ≤ k) ∧
    ((c : Int) ≥ IntKind.i64.wrap (IntKind.i64.wrap (IntKind.i64.wrap ((if (u.length : Int) > (s.length : Int) then (u.length : Int) else (s.length : Int)) + (q : Int)) - 1) - IntKind.i64.wrap ((k : Int) * (q : Int))) ↔ max s.length u.length + q ≤ c + 1 + k * q) := by
  have hkq : k * q ≤ 200 * 4 := Nat.mul_le_mul hk h4
  have hcast : (k : Int) * (q : Int) = ((k * q : Nat) : Int) := by simp
  generalize k * q = kq at hkq hcast
  rw [hcast]
  have w1 : IntKind.i64.wrap ((u.length : Int) - (s.length : Int)) = (u.length : Int) - (s.length : Int) := wrapN (by omega) (by omega)
  have w2 : IntKind.i64.wrap ((s.length : Int) - (u.length : Int)) = (s.length : Int) - (u.length : Int) := wrapN (by omega) (by omega)
  have w3 : IntKind.i64.wrap (kq : Int) = (kq : Int) := wrapN (by omega) (by omega)
  rw [w1, w2, w3]
  constructor
  · split <;> omega
  · by_cases h : (u.length : Int) > (s.length : Int)
    · rw [if_pos h, wrapN (x := (u.length : Int) + (q : Int)) (by omega) (by omega), wrapN (x := (u.length : Int) + (q : Int) - 1) (by omega) (by omega), wrapN (by omega) (by omega)]
      omega
    · rw [if_neg h, wrapN (x := (s.length : Int) + (q : Int)) (by omega) (by omega), wrapN (x := (s.length : Int) + (q : Int) - 1) (by omega) (by omega), wrapN (by omega) (by omega)]
      omega
theorem Filter_eq (t : Table) (attr k q : Int) (H : TabOk t) : blocking_Filter t attr k q = some (filterB t attr k q) := by
  have hc : (show Option (Int) from if k ≥ 0 then if k ≤ 200 then if q ≥ 1 then (blocking_check t attr (decide (q ≤ 4))).bind fun (r : Int) => some r else (blocking_check t attr false).bind fun (r : Int) => some r else (blocking_check t attr false).bind fun (r : Int) => some r else (blocking_check t attr false).bind fun (r : Int) => some r) =
      some (if errB t attr ≠ 0 then errB t attr else if k < 0 ∨ k > 200 ∨ q < 1 ∨ q > 4 then 7 else 0) := by
    simp only [check53_eq t attr _ H, Option.bind_some]
    by_cases h : errB t attr = 0
    · by_cases h1 : k ≥ 0
      · by_cases h2 : k ≤ 200
        · by_cases h3 : q ≥ 1
          · by_cases h4 : q ≤ 4
            · have : ¬ (k < 0 ∨ k > 200 ∨ q < 1 ∨ q > 4) := by omega
              simp [h, h1, h2, h3, h4, this]
            · have : k < 0 ∨ k > 200 ∨ q < 1 ∨ q > 4 := by omega
              simp [h, h1, h2, h3, h4, this]
          · have : k < 0 ∨ k > 200 ∨ q < 1 ∨ q > 4 := by omega
            simp [h, h1, h2, h3, this]
        · have : k < 0 ∨ k > 200 ∨ q < 1 ∨ q > 4 := by omega
          simp [h, h1, h2, this]
      · have : k < 0 ∨ k > 200 ∨ q < 1 ∨ q > 4 := by omega
        simp [h, h1, this]
    · simp [h]
  simp only [blocking_Filter, hc, Option.bind_some, filterB]
  by_cases h : errB t attr = 0
  · by_cases h2 : k < 0 ∨ k > 200 ∨ q < 1 ∨ q > 4
    · simp [h, h2]
    · obtain ⟨a, rfl, G⟩ := good_of H h
      obtain ⟨m, rfl⟩ := Int.eq_ofNat_of_zero_le (show 0 ≤ k by omega)
      obtain ⟨p, rfl⟩ := Int.eq_ofNat_of_zero_le (show 0 ≤ q by omega)
      have hn := G.few
      have r1 : roomB t.Rows.length 24 = true := room_le (by omega) (by omega)
      have r2 : roomB t.Rows.length 8 = true := room_le (by omega) (by omega)
      simp only [h, ne_eq, not_true_eq_false, if_false, if_neg h2, Int.toNat_natCast, blocking_alike, Option.bind_some, bne_self_eq_false, Bool.false_eq_true, r1, r2, if_true, show (0 : Int) ≤ (t.Rows.length : Int) by omega,
        Filter_loop t a p G (by omega) (by omega)]
      rw [pairs_eq t _ (alikeP t a (filterC t a m p)) G.few (fun i j hij hj => alike_eq t a G _ _ i j hij hj fun k1 k2 => by
        obtain ⟨_, _, o1⟩ := G.has i (by omega)
        obtain ⟨_, _, o2⟩ := G.has j hj
        have l1 := short_ok o1
        have l2 := short_ok o2
        have g1 := upTo_get (n := t.Rows.length) (k := t.Rows.length) (f := gOf t a p) (z := []) (j := i) (by omega)
        have g2 := upTo_get (n := t.Rows.length) (k := t.Rows.length) (f := gOf t a p) (z := []) (j := j) hj
        have g3 := upTo_get (n := t.Rows.length) (k := t.Rows.length) (f := sOf t a) (z := 0) (j := i) (by omega)
        have g4 := upTo_get (n := t.Rows.length) (k := t.Rows.length) (f := sOf t a) (z := 0) (j := j) hj
        rw [if_pos (by omega)] at g1 g2 g3 g4
        unfold gOf at g1 g2
        unfold sOf at g3 g4
        rw [if_pos k1] at g1 g3
        rw [if_pos k2] at g2 g4
        have hgl1 := gramsB_len (val53 t a i).Str p
        have hgl2 := gramsB_len (val53 t a j).Str p
        obtain ⟨n1, n2⟩ := pass_num (val53 t a i).Str (val53 t a j).Str m p (comm ltS (gramsB (val53 t a i).Str p) (gramsB (val53 t a j).Str p)) l1 l2 (by omega) (by omega) (by omega)
        unfold gOf sOf
        simp only [blocking_Filter_1, idx_get g1, idx_get g2, idx_get g3, idx_get g4, Option.bind_some, common_eq _ _ (show (gramsB (val53 t a i).Str p).length ≤ 1000000 by omega) (show (gramsB (val53 t a j).Str p).length ≤ 1000000 by omega), filterC, passB]
        by_cases c1 : max (val53 t a i).Str.length (val53 t a j).Str.length - min (val53 t a i).Str.length (val53 t a j).Str.length ≤ m
        · rw [if_pos (n1.2 c1)]
          simp only [c1, decide_true, Bool.true_and, Option.some.injEq]
          rw [Bool.eq_iff_iff, decide_eq_true_eq, decide_eq_true_eq]
          exact n2
        · rw [if_neg (fun h => c1 (n1.1 h))]
          simp [c1])]
      rfl
  · simp [h]
end Go.Proofs.YtbiklagfjeileaaGreat
/- Blocking: Window. -/
set_option linter.unusedVariables false
set_option linter.unusedSimpArgs false
namespace Go.Proofs.YtbiklagfjeileaaGreat
open Go Go.Ab

/-- the order of two rows: by the value, then by the place -/
def ordC (t : Table) (a i k : Nat) : Int := if vcmp (val53 t a i) (val53 t a k) ≠ 0 then vcmp (val53 t a i) (val53 t a k) else sgn (i : Int) (k : Int)
theorem ordC_lt {t : Table} {a i k : Nat} : ordC t a i k < 0 ↔ vcmp (val53 t a i) (val53 t a k) < 0 ∨ (val53 t a i = val53 t a k ∧ i < k) := by
  unfold ordC
  by_cases h : vcmp (val53 t a i) (val53 t a k) = 0
  · rw [if_neg (by simpa using h), sgn_lt]
    have := (vcmp_eq _ _).1 h
    have hz := vcmp_self (val53 t a k)
    simp [this, hz]
  · rw [if_pos h]
    have : ¬ (val53 t a i = val53 t a k) := fun e => h ((vcmp_eq _ _).2 e)
    simp [this]
theorem ordC_trans {t : Table} {a i j k : Nat} (h1 : ordC t a i j < 0) (h2 : ordC t a j k < 0) : ordC t a i k < 0 := by
  rw [ordC_lt] at *
  rcases h1 with h1 | ⟨e1, h1⟩
  · rcases h2 with h2 | ⟨e2, h2⟩
    · exact .inl (vcmp_trans _ _ _ h1 h2)
    · rw [← e2]; exact .inl h1
  · rcases h2 with h2 | ⟨e2, h2⟩
    · rw [e1]; exact .inl h2
    · exact .inr ⟨e1.trans e2, by omega⟩
theorem ordC_asym {t : Table} {a i j : Nat} (h1 : ordC t a i j < 0) : ¬ ordC t a j i < 0 := by
  rw [ordC_lt] at *
  have := vcmp_neg (val53 t a i) (val53 t a j)
  rintro (h2 | ⟨e2, h2⟩)
  · rcases h1 with h1 | ⟨e1, h1⟩
    · omega
    · have := (vcmp_eq _ _).2 e1; omega
  · rcases h1 with h1 | ⟨e1, h1⟩
    · have := (vcmp_eq _ _).2 e2; omega
    · omega
theorem ordC_total {t : Table} {a i j : Nat} (h1 : ¬ ordC t a i j < 0) (h2 : ¬ ordC t a j i < 0) : i = j := by
  rw [ordC_lt] at *
  have := vcmp_neg (val53 t a i) (val53 t a j)
  by_cases e : val53 t a i = val53 t a j
  · by_cases h : i = j
    · exact h
    · rcases Nat.lt_or_gt_of_ne h with h | h
      · exact absurd (.inr ⟨e, h⟩) h1
      · exact absurd (.inr ⟨e.symm, h⟩) h2
  · have : vcmp (val53 t a i) (val53 t a j) ≠ 0 := fun h => e ((vcmp_eq _ _).1 h)
    exfalso
    rcases Int.lt_or_gt_of_ne this with h | h
    · exact h1 (.inl h)
    · exact h2 (.inl (by omega))
/-- how many rows come before one -/
def posN (t : Table) (a i : Nat) : Nat := (List.range t.Rows.length).countP fun k => decide (ordC t a k i < 0)
theorem posN_le (t : Table) (a i : Nat) : posN t a i ≤ t.Rows.length := by
  unfold posN
  have := List.countP_le_length (p := fun k => decide (ordC t a k i < 0)) (l := List.range t.Rows.length)
  simpa using this
def windowP (t : Table) (a w i k : Nat) : Bool := decide (max (posN t a i) (posN t a k) - min (posN t a i) (posN t a k) < w)
/-- what Window answers -/
def windowB (t : Table) (attr w : Int) : List Arr2_int64 × Int :=
  if errB t attr ≠ 0 then ([], errB t attr) else if w < 2 ∨ w > 200 then ([], 7) else (pairs53 t.Rows.length (windowP t attr.toNat w.toNat) (pairAt t), 0)
theorem cmp_Or2 (a b : Int) : cmp_Or_int [a, b] = some (if a ≠ 0 then a else b) := by
  have e1 : cmp_Or_int_l1 [a, b] 0 = if a ≠ 0 then some (.done (.inr a)) else some (.next 1) := by
    have h0 : idx [a, b] 0 = some a := rfl
    have h1 : (0 : Int) < (([a, b] : List Int).length : Int) := by simp
    have h2 : IntKind.i64.wrap (0 + 1) = 1 := by decide
    simp only [cmp_Or_int_l1, if_pos h1, h0, Option.bind_some, h2]
    by_cases h : a = 0
    · rw [if_neg (by simpa using h), if_neg (by simpa using h)]
    · rw [if_pos (by simpa using h), if_pos h]
  have e2 : cmp_Or_int_l1 [a, b] 1 = if b ≠ 0 then some (.done (.inr b)) else some (.next 2) := by
    have h0 : idx [a, b] 1 = some b := rfl
    have h1 : (1 : Int) < (([a, b] : List Int).length : Int) := by simp
    have h2 : IntKind.i64.wrap (1 + 1) = 2 := by decide
    simp only [cmp_Or_int_l1, if_pos h1, h0, Option.bind_some, h2]
    by_cases h : b = 0
    · rw [if_neg (by simpa using h), if_neg (by simpa using h)]
    · rw [if_pos (by simpa using h), if_pos h]
  have e3 : cmp_Or_int_l1 [a, b] 2 = some (.done (.inl ())) := by simp [cmp_Or_int_l1]
  simp only [cmp_Or_int]
  by_cases h : a = 0
  · rw [if_neg (by simpa using h)] at e1
    rw [Loop_next e1]
    by_cases hb : b = 0
    · rw [if_neg (by simpa using hb)] at e2
      rw [Loop_next e2, Loop_done e3]; simp [h, hb]
    · rw [if_pos hb] at e2
      rw [Loop_done e2]; simp [h]
  · rw [if_pos h] at e1
    rw [Loop_done e1]; simp [h]
theorem window1_eq (t : Table) (a i k : Nat) (G : Good53 t a) (hi : i < t.Rows.length) (hk : k < t.Rows.length) : blocking_Window_1 (i : Int) (k : Int) t (a : Int) = some (ordC t a i k) := by
  obtain ⟨r1, v1, _⟩ := G.has i hi
  obtain ⟨r2, v2, _⟩ := G.has k hk
  simp only [blocking_Window_1, idx_get r1, idx_get r2, idx_get v1, idx_get v2, Option.bind_some, value_Compare_eq, cmp_int_eq, cmp_Or2, ordC]
/-- the numbers below n -/
def ordN (n : Nat) : List Int := (List.range n).map (fun i : Nat => (i : Int))
theorem upTo_all {α : Type} {n : Nat} {f : Nat → α} {z : α} : upTo n n f z = (List.range n).map f := by
  unfold upTo
  apply List.map_congr_left
  intro j hj
  rw [if_pos (List.mem_range.1 hj)]
theorem order_loop (t : Table) (hn : t.Rows.length ≤ 200) : LoopF (blocking_Window_l1 t) (List.replicate t.Rows.length 0, 0) = some (ordN t.Rows.length) := by
  have hL := LoopF_list t.Rows (fun (_ : Unit) (k : Int) => (upTo t.Rows.length k.toNat (fun i => (i : Int)) 0, k)) (blocking_Window_l1 t) (fun _ _ => (Sum.inl () : Unit ⊕ List Int)) (fun _ => ordN t.Rows.length) (fun _ _ => True)
    (b0 := ()) (s0 := (List.replicate t.Rows.length 0, 0)) (by simp only [Int.toNat_zero, upTo_zero]) trivial
    (fun k b x hx hk _ => by
      refine ⟨fun b' hb => ⟨?_, trivial⟩, fun t ht => by cases ht⟩
      have hki : (k : Int) < (t.Rows.length : Int) := by omega
      have e1 := upTo_get (f := fun i : Nat => (i : Int)) (z := 0) (k := k) hk
      have e3 := upTo_set (f := fun i : Nat => (i : Int)) (z := 0) hk
      simp only [blocking_Window_l1, if_pos hki, Int.toNat_natCast, idx_get e1, Option.bind_some, wrap_nat (show k < 4611686018427387904 by omega)]
      rw [e3])
    (fun b _ => by
      simp only [blocking_Window_l1, Int.toNat_natCast, upTo_all]
      simp [ordN])
  rw [hL, foldR_const]
/-- the sorted order of the rows -/
theorem sorted_order (t : Table) (a : Nat) (G : Good53 t a) : ∃ l : List Nat, srtF (fun (x : Int) (y : Int) => blocking_Window_1 x y t (a : Int)) (ordN t.Rows.length) = some (l.map (fun i : Nat => (i : Int))) ∧ l.Perm (List.range t.Rows.length) ∧ l.Pairwise fun x y => ordC t a x y < 0 := by
  have hn := G.few
  have hm : ∀ x ∈ ordN t.Rows.length, ∃ i : Nat, x = (i : Int) ∧ i < t.Rows.length := by
    intro x hx
    obtain ⟨i, hi, rfl⟩ := List.mem_map.1 hx
    exact ⟨i, rfl, List.mem_range.1 hi⟩
  have hd : ∀ x ∈ ordN t.Rows.length, ∀ y ∈ ordN t.Rows.length, (blocking_Window_1 x y t (a : Int)) = some (ordC t a x.toNat y.toNat) := by
    intro x hx y hy
    obtain ⟨i, rfl, hi⟩ := hm x hx
    obtain ⟨k, rfl, hk⟩ := hm y hy
    simp only [Int.toNat_natCast]
    exact window1_eq t a i k G hi hk
  have hok : SrtOk (fun x y => (blocking_Window_1 x y t (a : Int)).getD 0) (ordN t.Rows.length) := by
    refine ⟨fun x hx => ?_, fun x hx y hy z hz => ?_, fun x hx y hy z hz => ?_⟩
    · simp only [hd x hx x hx, Option.getD_some]
      intro h; exact ordC_asym h h
    · simp only [hd x hx y hy, hd y hy z hz, hd x hx z hz, Option.getD_some]
      exact ordC_trans
    · simp only [hd x hx y hy, hd y hy z hz, hd x hx z hz, Option.getD_some]
      intro h1 h2 h3
      by_cases h4 : ordC t a y.toNat x.toNat < 0
      · exact h2 (ordC_trans h4 h3)
      · have e := ordC_total h1 h4
        rw [e] at h3
        exact h2 h3
  have hp := srt_perm hok
  have hs := srt_sorted hok
  refine ⟨(srt (fun x y => (blocking_Window_1 x y t (a : Int)).getD 0) (ordN t.Rows.length)).map Int.toNat, ?_, ?_, ?_⟩
  · unfold srtF
    rw [if_pos ⟨fun x hx y hy => by show (blocking_Window_1 x y t (a : Int)).isSome = true; rw [hd x hx y hy]; rfl, hok, by simp [ordN]; omega⟩]
    congr 1
    rw [List.map_map]
    symm
    have : ∀ x ∈ srt (fun x y => (blocking_Window_1 x y t (a : Int)).getD 0) (ordN t.Rows.length), ((fun i : Nat => (i : Int)) ∘ Int.toNat) x = x := by
      intro x hx
      obtain ⟨i, rfl, _⟩ := hm x (hp.mem_iff.1 hx)
      simp
    rw [List.map_congr_left this, List.map_id']
  · have := hp.map Int.toNat
    refine this.trans ?_
    unfold ordN
    rw [List.map_map]
    have : (Int.toNat ∘ fun i : Nat => (i : Int)) = id := by funext i; simp
    rw [this, List.map_id]
  · rw [List.pairwise_map]
    have hnd : (srt (fun x y => (blocking_Window_1 x y t (a : Int)).getD 0) (ordN t.Rows.length)).Nodup := by
      rw [hp.nodup_iff]
      unfold ordN
      exact List.pairwise_map.2 (List.nodup_range.imp fun h e => h (by omega))
    have hs2 := hs.and hnd
    refine List.Pairwise.imp_of_mem ?_ hs2
    rintro x y hx hy ⟨h1, h2⟩
    have hx := hp.mem_iff.1 hx
    have hy := hp.mem_iff.1 hy
    rw [hd y hy x hx] at h1
    simp only [Option.getD_some] at h1
    by_cases h3 : ordC t a x.toNat y.toNat < 0
    · exact h3
    · have e := ordC_total h3 h1
      obtain ⟨i, rfl, _⟩ := hm x hx
      obtain ⟨k, rfl, _⟩ := hm y hy
      simp only [Int.toNat_natCast] at e
      exact absurd (by rw [e]) h2
/-- the place of a row in the sorted order is the number of the rows before it -/
theorem place_pos (t : Table) (a : Nat) {l : List Nat} (hp : l.Perm (List.range t.Rows.length)) (hs : l.Pairwise fun x y => ordC t a x y < 0) {p i : Nat} (h : l[p]? = some i) : posN t a i = p := by
  unfold posN
  rw [← hp.countP_eq]
  obtain ⟨hlt, he⟩ := List.getElem?_eq_some_iff.1 h
  have hsplit : l = l.take p ++ (i :: l.drop (p + 1)) := by rw [← drop_cons h, List.take_append_drop]
  have hcount : ∀ l1 l2 : List Nat, (l1 ++ (i :: l2)).Pairwise (fun x y => ordC t a x y < 0) → (l1 ++ (i :: l2)).countP (fun k => decide (ordC t a k i < 0)) = l1.length := by
    intro l1 l2 hpw
    obtain ⟨_, h2, h3⟩ := List.pairwise_append.1 hpw
    obtain ⟨h4, _⟩ := List.pairwise_cons.1 h2
    rw [List.countP_append, List.countP_cons]
    have e1 : l1.countP (fun k => decide (ordC t a k i < 0)) = l1.length := by
      rw [List.countP_eq_length]
      intro x hx
      exact decide_eq_true (h3 x hx i (by simp))
    have e2 : l2.countP (fun k => decide (ordC t a k i < 0)) = 0 := by
      rw [List.countP_eq_zero]
      intro x hx
      simp only [decide_eq_true_eq]
      exact ordC_asym (h4 x hx)
    have e3 : ¬ ordC t a i i < 0 := fun h => ordC_asym h h
    rw [e1, e2]; simp [e3]
  rw [hsplit] at hs ⊢
  rw [hcount _ _ hs, List.length_take]
  omega
theorem place_loop (t : Table) (a : Nat) {l : List Nat} (hn : t.Rows.length ≤ 200) (hp : l.Perm (List.range t.Rows.length)) (hs : l.Pairwise fun x y => ordC t a x y < 0) :
    LoopF (blocking_Window_l2 (l.map (fun i : Nat => (i : Int)))) (List.replicate t.Rows.length 0, 0) = some ((List.range t.Rows.length).map (fun i : Nat => (posN t a i : Int))) := by
  have hlen : l.length = t.Rows.length := by rw [hp.length_eq]; simp
  have hL := LoopF_list l (fun (_ : Unit) (k : Int) => ((List.range t.Rows.length).map (fun i => if posN t a i < k.toNat then (posN t a i : Int) else 0), k)) (blocking_Window_l2 (l.map (fun i : Nat => (i : Int)))) (fun _ _ => (Sum.inl () : Unit ⊕ List Int))
    (fun _ => (List.range t.Rows.length).map (fun i : Nat => (posN t a i : Int))) (fun _ _ => True)
    (b0 := ()) (s0 := (List.replicate t.Rows.length 0, 0)) (by
      simp only [Int.toNat_zero, Nat.not_lt_zero, if_false]
      congr 1
      apply List.ext_getElem (by simp)
      intro i h1 h2; simp) trivial
    (fun k b x hx hk _ => by
      refine ⟨fun b' hb => ⟨?_, trivial⟩, fun t ht => by cases ht⟩
      have hki : (k : Int) < (((l.map fun i : Nat => (i : Int)).length : Nat) : Int) := by simp; omega
      have hxm : (l.map fun i : Nat => (i : Int))[k]? = some (x : Int) := by rw [List.getElem?_map, hx]; rfl
      have hxn : x < t.Rows.length := List.mem_range.1 (hp.mem_iff.1 (List.mem_of_getElem? hx))
      have hpx := place_pos t a hp hs hx
      have hg : ((List.range t.Rows.length).map (fun i => if posN t a i < (k : Int).toNat then (posN t a i : Int) else 0))[x]? = some (if posN t a x < (k : Int).toNat then (posN t a x : Int) else 0) := by
        rw [List.getElem?_map, List.getElem?_range hxn]; rfl
      simp only [Int.toNat_natCast] at hg ⊢
      simp only [blocking_Window_l2, if_pos hki, idx_get hxm, idx_get hg, Option.bind_some, Int.toNat_natCast, wrap_nat (show k < 4611686018427387904 by omega)]
      congr 3
      apply List.ext_getElem?
      intro j
      by_cases hj : j < t.Rows.length
      · rw [List.getElem?_set, List.getElem?_map, List.getElem?_map, List.getElem?_range hj]
        simp only [Option.map_some]
        by_cases hxj : x = j
        · subst hxj
          rw [if_pos rfl, if_pos (by simp; omega), hpx, if_pos (by omega)]
        · rw [if_neg hxj]
          congr 1
          have hne : posN t a j ≠ k := by
            intro he
            have hjm : j ∈ l := hp.mem_iff.2 (List.mem_range.2 hj)
            obtain ⟨p, hpj⟩ := List.mem_iff_getElem?.1 hjm
            have := place_pos t a hp hs hpj
            have : p = k := by omega
            subst this
            rw [hx] at hpj
            exact hxj (Option.some.inj hpj)
          by_cases h1 : posN t a j < k
          · rw [if_pos h1, if_pos (by omega)]
          · rw [if_neg h1, if_neg (by omega)]
      · rw [List.getElem?_eq_none (by simp; omega), List.getElem?_eq_none (by simp; omega)])
    (fun b _ => by
      simp only [blocking_Window_l2, List.length_map, Int.toNat_natCast]
      rw [if_neg (by omega)]
      congr 2
      apply List.map_congr_left
      intro i hi
      have hjm : i ∈ l := hp.mem_iff.2 hi
      obtain ⟨p, hpj⟩ := List.mem_iff_getElem?.1 hjm
      rw [place_pos t a hp hs hpj, if_pos (lt_of_get hpj)])
  rw [hL, foldR_const]
theorem window_num (p q w : Nat) (hp : p ≤ 200) (hq : q ≤ 200) : decide ((if IntKind.i64.wrap ((q : Int) - (p : Int)) > IntKind.i64.wrap ((p : Int) - (q : Int)) then IntKind.i64.wrap ((q : Int) - (p : Int)) else IntKind.i64.wrap ((p : Int) - (q : Int))) < (w : Int)) = decide (max p q - min p q < w) := by
  rw [wrapN (x := (q : Int) - (p : Int)) (by omega) (by omega), wrapN (x := (p : Int) - (q : Int)) (by omega) (by omega)]
  rw [Bool.eq_iff_iff, decide_eq_true_eq, decide_eq_true_eq]
  split <;> omega
theorem Window_eq (t : Table) (attr w : Int) (H : TabOk t) : blocking_Window t attr w = some (windowB t attr w) := by
  have hc : (show Option (Int) from if w ≥ 2 then (blocking_check t attr (decide (w ≤ 200))).bind fun (r : Int) => some r else (blocking_check t attr false).bind fun (r : Int) => some r) =
      some (if errB t attr ≠ 0 then errB t attr else if w < 2 ∨ w > 200 then 7 else 0) := by
    simp only [check53_eq t attr _ H, Option.bind_some]
    by_cases h : errB t attr = 0
    · by_cases h1 : w ≥ 2
      · by_cases h2 : w ≤ 200
        · have : ¬ (w < 2 ∨ w > 200) := by omega
          simp [h, h1, h2, this]
        · have : w < 2 ∨ w > 200 := by omega
          simp [h, h1, h2, this]
      · have : w < 2 ∨ w > 200 := by omega
        simp [h, h1, this]
    · simp [h]
  simp only [blocking_Window, hc, Option.bind_some, windowB]
  by_cases h : errB t attr = 0
  · by_cases h2 : w < 2 ∨ w > 200
    · simp [h, h2]
    · obtain ⟨a, rfl, G⟩ := good_of H h
      obtain ⟨n, rfl⟩ := Int.eq_ofNat_of_zero_le (show 0 ≤ w by omega)
      have hn := G.few
      obtain ⟨l, hl, hp, hs⟩ := sorted_order t a G
      have hlen : l.length = t.Rows.length := by rw [hp.length_eq]; simp
      have r2 : roomB t.Rows.length 8 = true := room_le (by omega) (by omega)
      simp only [h, ne_eq, not_true_eq_false, if_false, if_neg h2, Int.toNat_natCast, Option.bind_some, bne_self_eq_false, Bool.false_eq_true, r2, if_true, show (0 : Int) ≤ (t.Rows.length : Int) by omega, order_loop t hn, hl, List.length_map, hlen, place_loop t a hn hp hs]
      rw [pairs_eq t _ (windowP t a n) G.few (fun i k hik hk => by
        have g1 : ((List.range t.Rows.length).map (fun i : Nat => (posN t a i : Int)))[i]? = some (posN t a i : Int) := by rw [List.getElem?_map, List.getElem?_range (by omega)]; rfl
        have g2 : ((List.range t.Rows.length).map (fun i : Nat => (posN t a i : Int)))[k]? = some (posN t a k : Int) := by rw [List.getElem?_map, List.getElem?_range hk]; rfl
        have p1 := posN_le t a i
        have p2 := posN_le t a k
        simp only [blocking_Window_2, idx_get g1, idx_get g2, Option.bind_some, window_num _ _ n (show posN t a i ≤ 200 by omega) (show posN t a k ≤ 200 by omega), windowP])]
      rfl
  · simp [h]
end Go.Proofs.YtbiklagfjeileaaGreat
/- Blocking: the table of some strings, the examples. -/
set_option linter.unusedVariables false
set_option linter.unusedSimpArgs false
namespace Go.Ab
/-- the common members, by fuel -/
def commF {α : Type} (lt : α → α → Bool) : Nat → List α → List α → Nat
  | 0, _, _ => 0
  | n + 1, a :: u, b :: v => if lt a b then commF lt n u (b :: v) else if lt b a then commF lt n (a :: u) v else commF lt n u v + 1
  | _ + 1, _, _ => 0
theorem comm_F {α : Type} (lt : α → α → Bool) : ∀ (n : Nat) (l r : List α), l.length + r.length ≤ n → comm lt l r = commF lt n l r
  | 0, l, r, h => by
    have : l = [] := List.eq_nil_of_length_eq_zero (by omega)
    subst this; simp [comm, commF]
  | n + 1, [], r, h => by cases r <;> simp [comm, commF]
  | n + 1, a :: u, [], h => by simp [comm, commF]
  | n + 1, a :: u, b :: v, h => by
    simp only [List.length_cons] at h
    simp only [comm, commF]
    rw [comm_F lt n u (b :: v) (by simp; omega), comm_F lt n (a :: u) v (by simp; omega), comm_F lt n u v (by omega)]
end Go.Ab
namespace Go.Proofs.YtbiklagfjeileaaGreat
open Go Go.Ab

/-- the value that a string stands for -/
def valOf (x : Str) : Value := if x = [63] then ⟨0, 0, []⟩ else match x with
  | [c] => if 48 ≤ c.toNat ∧ c.toNat ≤ 57 then ⟨1, (c.toNat : Int) - 48, []⟩ else ⟨2, 0, x⟩
  | _ => ⟨2, 0, x⟩
def rowOf (k : Nat) (x : Str) : Row := ⟨1 + 2 * (k : Int), [valOf x]⟩
def rowsFrom : Nat → List Str → List Row
  | _, [] => []
  | k, x :: l => rowOf k x :: rowsFrom (k + 1) l
def tb (l : List Str) : Table := ⟨[114], [[97]], rowsFrom 0 l⟩
theorem rowsFrom_len : ∀ (l : List Str) (k : Nat), (rowsFrom k l).length = l.length
  | [], _ => rfl
  | x :: l, k => by simp [rowsFrom, rowsFrom_len l]
theorem rowsFrom_get : ∀ (l : List Str) (k i : Nat) (x : Str), l[i]? = some x → (rowsFrom k l)[i]? = some (rowOf (k + i) x)
  | [], _, _, _, h => by simp at h
  | y :: l, k, 0, x, h => by
    simp only [List.getElem?_cons_zero, Option.some.injEq] at h
    subst h; rfl
  | y :: l, k, i + 1, x, h => by
    simp only [List.getElem?_cons_succ] at h
    simp only [rowsFrom, List.getElem?_cons_succ]
    rw [rowsFrom_get l (k + 1) i x h, show k + 1 + i = k + (i + 1) by omega]
theorem room32 {n : Nat} (h : n ≤ 1073741824) : roomB n 32 = true := room_le h (by omega)
theorem Table_step (l : List Str) (hl : l.length ≤ 1048576) (k : Nat) (b : List Row) (x : Str) (hx : l[k]? = some x) (hI : b.length = k) :
    drossref53_Table_l1 l (b, (k : Int)) = if x.length > 12 then some (.done (.inr ((Table.mk [] [] []), false))) else some (.next (b ++ [rowOf k x], ((k + 1 : Nat) : Int))) := by
  have hk := lt_of_get hx
  have hki := lt_true hx
  have hroom := room32 (show b.length + 1 ≤ 1073741824 by omega)
  have w1 : IntKind.i64.wrap (2 * (k : Int)) = 2 * (k : Int) := wrapN (by omega) (by omega)
  have w2 : IntKind.i64.wrap (1 + 2 * (k : Int)) = 1 + 2 * (k : Int) := wrapN (by omega) (by omega)
  simp only [drossref53_Table_l1, if_pos hki, idx_get hx, Option.bind_some, w1, w2, hroom, if_true, wrap_nat (show k < 4611686018427387904 by omega)]
  by_cases h1 : x.length > 12
  · have : (x.length : Int) > 12 := by omega
    rw [if_pos this, if_pos h1]
  · have : ¬ (x.length : Int) > 12 := by omega
    rw [if_neg this, if_neg h1]
    by_cases h2 : x = [63]
    · subst h2
      rfl
    · have hb : (x == [63]) = false := by simpa using h2
      simp only [hb, Bool.false_eq_true, if_false]
      have hv : rowOf k x = ⟨1 + 2 * (k : Int), [valOf x]⟩ := rfl
      rw [hv]
      unfold valOf
      rw [if_neg h2]
      rcases x with _ | ⟨c, _ | ⟨d, r⟩⟩
      · rfl
      · have h3 : ((([c] : Str).length : Int) == 1) = true := by simp
        have h4 : ([c] : Str)[0]? = some c := rfl
        have hc := c.toNat_lt
        simp only [h3, if_true, h4, Option.bind_some]
        by_cases h5 : ((c.toNat : Nat) : Int) ≥ 48
        · rw [if_pos h5]
          by_cases h6 : ((c.toNat : Nat) : Int) ≤ 57
          · have w3 : IntKind.i64.wrap (IntKind.u8.wrap (((c.toNat : Nat) : Int) - 48)) = (c.toNat : Int) - 48 := by
              have : IntKind.u8.wrap (((c.toNat : Nat) : Int) - 48) = (c.toNat : Int) - 48 := by
                have e : ((c.toNat : Nat) : Int) - 48 = ((c.toNat - 48 : Nat) : Int) := by omega
                rw [e]; exact wrap_u8s (by omega)
              rw [this]; exact wrapN (by omega) (by omega)
            have h7 : 48 ≤ c.toNat ∧ c.toNat ≤ 57 := by omega
            simp [h6, h7, w3]
          · have h7 : ¬ (48 ≤ c.toNat ∧ c.toNat ≤ 57) := by omega
            simp [h6, h7]
        · have h7 : ¬ (48 ≤ c.toNat ∧ c.toNat ≤ 57) := by omega
          rw [if_neg h5]; simp [h7]
      · have h3 : (((c :: d :: r : Str).length : Int) == 1) = false := by
          simp only [List.length_cons, beq_eq_false_iff_ne, ne_eq]; omega
        simp only [h3, Bool.false_eq_true, if_false, Option.bind_some]
theorem Table_fold : ∀ (l : List Str) (b : List Row), foldR (fun (b : List Row) (x : Str) => if x.length > 12 then (Sum.inr (.inr ((Table.mk [] [] []), false)) : List Row ⊕ (List Row ⊕ (Table × Bool))) else Sum.inl (b ++ [rowOf b.length x])) (fun b => .inl b) l b =
    if l.all (fun x => decide (x.length ≤ 12)) then .inl (b ++ rowsFrom b.length l) else .inr ((Table.mk [] [] []), false)
  | [], b => by simp [foldR, rowsFrom]
  | x :: l, b => by
    simp only [foldR]
    by_cases h : x.length > 12
    · have : ¬ x.length ≤ 12 := by omega
      simp [h, this]
    · have h' : x.length ≤ 12 := by omega
      rw [if_neg h]
      simp only [Table_fold l, List.all_cons, h', decide_true, Bool.true_and, List.length_append, List.length_singleton, rowsFrom, List.append_assoc, List.singleton_append]
theorem RTable_eq (l : List Str) (hl : l.length ≤ 1048576) : drossref53_Table l = some (if l.all (fun x => decide (x.length ≤ 12)) then (tb l, decide (l.length ≤ 8)) else (Table.mk [] [] [], false)) := by
  have hL := LoopF_list l (fun (b : List Row) (k : Int) => (b, k)) (drossref53_Table_l1 l) (fun (b : List Row) (x : Str) => if x.length > 12 then (Sum.inr (.inr ((Table.mk [] [] []), false)) : List Row ⊕ (List Row ⊕ (Table × Bool))) else Sum.inl (b ++ [rowOf b.length x]))
    (fun b => .inl b) (fun k b => b.length = k) (b0 := []) (s0 := ([], 0)) rfl rfl
    (fun k b x hx hk hI => by
      have h := Table_step l hl k b x hx hI
      by_cases h1 : x.length > 12
      · rw [if_pos h1] at h
        refine ⟨fun b' hb => by simp [h1] at hb, fun t ht => ?_⟩
        simp only [h1, if_true, Sum.inr.injEq] at ht
        subst ht; exact h
      · rw [if_neg h1] at h
        refine ⟨fun b' hb => ?_, fun t ht => by simp [h1] at ht⟩
        simp only [h1, if_false, Sum.inl.injEq] at hb
        subst hb
        refine ⟨by rw [hI]; exact h, by simp [hI]⟩)
    (fun b hI => by simp [drossref53_Table_l1])
  rw [Table_fold] at hL
  simp only [drossref53_Table, hL, Option.bind_some]
  by_cases h : l.all (fun x => decide (x.length ≤ 12)) = true
  · simp only [h, if_true, List.length_nil, List.nil_append, Option.some.injEq, Prod.mk.injEq, tb, true_and]
    rw [Bool.eq_iff_iff, decide_eq_true_eq, decide_eq_true_eq]; omega
  · simp [h]
theorem valid_valOf {x : Str} (h : x.length ≤ 12) : valid (valOf x) = true := by
  unfold valOf
  split
  · rfl
  · split
    · split
      · simp [valid]
      · simp [valid]
    · simp only [valid, decide_eq_true_eq]; exact .inr (.inr (.inl ⟨trivial, trivial, by omega⟩))
theorem rowsFrom_code : ∀ (l : List Str) (k : Nat) (b : Int), b < 1 + 2 * (k : Int) → (l.all (fun x => decide (x.length ≤ 12))) = true → rowsCode 1 b (rowsFrom k l) = 0
  | [], _, _, _, _ => rfl
  | x :: l, k, b, hb, h => by
    simp only [List.all_cons, Bool.and_eq_true, decide_eq_true_eq] at h
    have h1 : ¬ (rowOf k x).ID ≤ b := by simp only [rowOf]; omega
    have h2 : ¬ (rowOf k x).Values.length ≠ 1 := by simp [rowOf]
    have h3 : (rowOf k x).Values.all valid = true := by simp [rowOf, valid_valOf h.1]
    simp only [rowsFrom, rowsCode, if_neg h1, if_neg h2, h3, if_true]
    exact rowsFrom_code l (k + 1) _ (by simp only [rowOf]; omega) h.2
theorem tb_err {l : List Str} (h : l.all (fun x => decide (x.length ≤ 12)) = true) (hl : l.length ≤ 200) : tableErr (tb l) = 0 := by
  have h1 : ¬ nameB (tb l).Name = false := by
    have : nameB [114] = true := by decide
    simp [tb, this]
  have h2 : ¬ (tb l).Attrs.length > 16 := by simp [tb]
  have h3 : ¬ (tb l).Rows.length > 1000 := by simp [tb, rowsFrom_len]; omega
  have h4 : ¬ namesB (tb l).Attrs = false := by
    have : namesB [[97]] = true := by decide
    simp [tb, this]
  unfold tableErr
  rw [if_neg h1, if_neg h2, if_neg h3, if_neg h4]
  exact rowsFrom_code l 0 0 (by simp) h
theorem mem_rowsFrom : ∀ (l : List Str) (k : Nat) (r : Row), r ∈ rowsFrom k l → ∃ i x, x ∈ l ∧ r = rowOf i x
  | [], _, _, h => by simp [rowsFrom] at h
  | x :: l, k, r, h => by
    simp only [rowsFrom, List.mem_cons] at h
    rcases h with rfl | h
    · exact ⟨k, x, by simp, rfl⟩
    · obtain ⟨i, y, hy, hr⟩ := mem_rowsFrom l _ r h
      exact ⟨i, y, by simp [hy], hr⟩
theorem tb_ok {l : List Str} (h : l.all (fun x => decide (x.length ≤ 12)) = true) (hl : l.length ≤ 200) : TabOk (tb l) := by
  refine ⟨by simp [tb], by simp [tb, rowsFrom_len]; omega, fun r hr => ?_, fun r hr v hv => ?_⟩
  · obtain ⟨i, x, hx, rfl⟩ := mem_rowsFrom l 0 r hr
    simp [rowOf]
  · obtain ⟨i, x, hx, rfl⟩ := mem_rowsFrom l 0 r hr
    simp only [rowOf, List.mem_singleton] at hv
    subst hv
    have := List.all_eq_true.1 h x hx
    have := short_ok (valid_valOf (by simpa using this))
    omega
theorem tb_errB {l : List Str} (h : l.all (fun x => decide (x.length ≤ 12)) = true) (hl : l.length ≤ 200) : errB (tb l) 0 = 0 := by
  unfold errB
  have h2 : ¬ (tb l).Rows.length > 200 := by simp [tb, rowsFrom_len]; omega
  have h3 : ¬ ((0 : Int) < 0 ∨ (0 : Int) ≥ ((tb l).Attrs.length : Int)) := by simp [tb]
  rw [tb_err h hl, if_neg (by simp), if_neg h2, if_neg h3]
/-- the rows of the examples -/
def exL : List Str := [[115, 109, 105, 116, 104], [115, 109, 121, 116, 104], [115, 109, 105, 116, 104, 115, 111, 110], [106, 111, 110, 101, 115]]
def passF (k q : Nat) (s u : Str) : Bool :=
  decide (max s.length u.length - min s.length u.length ≤ k) && decide (max s.length u.length + q ≤ commF ltS 100 (gramsB s q) (gramsB u q) + 1 + k * q)
theorem passF_eq (k q : Nat) (s u : Str) (h : s.length + q - 1 + (u.length + q - 1) ≤ 100) : passB k q s u = passF k q s u := by
  unfold passB passF
  rw [comm_F ltS 100 _ _ (by rw [gramsB_len, gramsB_len]; exact h)]
theorem ex_prefix : prefixB (tb exL) 0 3 = ([⟨1, 5⟩], 0) := by
  unfold prefixB
  rw [tb_errB (by decide) (by decide)]
  decide +kernel
theorem ex_filter : filterB (tb exL) 0 1 2 = ([⟨1, 3⟩], 0) := by
  unfold filterB
  rw [tb_errB (by decide) (by decide)]
  have hc : pairs53 (tb exL).Rows.length (alikeP (tb exL) (0 : Int).toNat (filterC (tb exL) (0 : Int).toNat (1 : Int).toNat (2 : Int).toNat)) (pairAt (tb exL)) = pairs53 4 (alikeP (tb exL) 0 fun i k => passF 1 2 (val53 (tb exL) 0 i).Str (val53 (tb exL) 0 k).Str) (pairAt (tb exL)) := by
    refine pairs53_congr (n := 4) fun i k hik hk => ?_
    have hl : ∀ i, i < 4 → (val53 (tb exL) 0 i).Str.length ≤ 8 := by decide +kernel
    have h1 := hl i (by omega)
    have h2 := hl k hk
    have h3 := passF_eq 1 2 (val53 (tb exL) 0 i).Str (val53 (tb exL) 0 k).Str (by omega)
    show (if _ then passB 1 2 (val53 (tb exL) 0 i).Str (val53 (tb exL) 0 k).Str else _) = _
    rw [h3]
    rfl
  rw [hc]
  decide +kernel
theorem ex_window : windowB (tb exL) 0 2 = ([⟨1, 5⟩, ⟨1, 7⟩, ⟨3, 5⟩], 0) := by
  unfold windowB
  rw [tb_errB (by decide) (by decide)]
  decide +kernel
theorem awakeK_true : drosslaw53_awake = some true := by
  have hT : drossref53_Table exL = some (tb exL, true) := by
    rw [RTable_eq exL (by decide)]; rfl
  have H := tb_ok (l := exL) (by decide) (by decide)
  have hT' : drossref53_Table [[115, 109, 105, 116, 104], [115, 109, 121, 116, 104], [115, 109, 105, 116, 104, 115, 111, 110], [106, 111, 110, 101, 115]] = some (tb exL, true) := hT
  simp only [drosslaw53_awake, hT', Option.bind_some, Prefix_eq _ _ _ H, Filter_eq _ _ _ _ H, Window_eq _ _ _ H, ex_prefix, ex_filter, ex_window, if_true, beq_self_eq_true]
  rw [Same53_eq _ _ (by simp), Same53_eq _ _ (by simp), Same53_eq _ _ (by simp)]
  rfl
end Go.Proofs.YtbiklagfjeileaaGreat
/- Sorting by insertion, for any order. -/
set_option linter.unusedVariables false
set_option linter.unusedSimpArgs false
namespace Go.Ab
open Go
end Go.Ab
/- Blocking: ascending lists of pairs; Union of both kinds. -/
set_option linter.unusedVariables false
set_option linter.unusedSimpArgs false
namespace Go.Ab
open Go
theorem asc_ext {α : Type} (lt : α → α → Bool) (irr : ∀ x, lt x x = false) (asym : ∀ x y, lt x y = true → lt y x = false) {l r : List α} (hl : l.Pairwise fun a b => lt a b = true) (hr : r.Pairwise fun a b => lt a b = true) (hm : ∀ x, x ∈ l ↔ x ∈ r) : l = r := by
  have nd : ∀ {l : List α}, (l.Pairwise fun a b => lt a b = true) → l.Nodup := fun h => h.imp fun hab e => by subst e; rw [irr] at hab; cases hab
  refine List.Perm.eq_of_pairwise (le := fun a b => lt a b = true) (fun a b _ _ h1 h2 => ?_) hl hr ((List.perm_ext_iff_of_nodup (nd hl) (nd hr)).2 hm)
  rw [asym a b h1] at h2; cases h2
/-- what comes after p, without repetitions side by side -/
def ddF {α : Type} [DecidableEq α] (p : α) : List α → List α
  | [] => []
  | y :: r => if y = p then ddF p r else y :: ddF y r
/-- a list without repetitions side by side -/
def cmpct {α : Type} [DecidableEq α] : List α → List α
  | [] => []
  | x :: r => x :: ddF x r
theorem ddF_mem {α : Type} [DecidableEq α] : ∀ (r : List α) (p x : α), (x = p ∨ x ∈ ddF p r) ↔ (x = p ∨ x ∈ r)
  | [], p, x => by simp [ddF]
  | y :: r, p, x => by
    simp only [ddF]
    split
    · rename_i h
      subst h
      rw [ddF_mem r y x]; simp
    · have := ddF_mem r y x
      simp only [List.mem_cons]
      rw [this]
theorem cmpct_mem {α : Type} [DecidableEq α] (l : List α) (x : α) : x ∈ cmpct l ↔ x ∈ l := by
  cases l with
  | nil => simp [cmpct]
  | cons y r => simp only [cmpct, List.mem_cons]; exact ddF_mem r y x
theorem ddF_asc {α : Type} [DecidableEq α] (lt : α → α → Bool) (tr : ∀ x y z, lt x y = true → lt y z = true → lt x z = true) (eqv : ∀ x y, lt x y = false → lt y x = false → x = y) :
    ∀ (r : List α) (p : α), (p :: r).Pairwise (fun a b => lt b a = false) → (p :: ddF p r).Pairwise fun a b => lt a b = true
  | [], p, _ => by simp [ddF]
  | y :: r, p, h => by
    rw [List.pairwise_cons, List.pairwise_cons] at h
    simp only [ddF]
    split
    · rename_i e
      subst e
      exact ddF_asc lt tr eqv r y (List.pairwise_cons.2 h.2)
    · rename_i e
      have ih := ddF_asc lt tr eqv r y (List.pairwise_cons.2 h.2)
      have hpy : lt p y = true := by
        cases hc : lt p y with
        | true => rfl
        | false => exact absurd (eqv y p (h.1 y List.mem_cons_self) hc) e
      rw [List.pairwise_cons]
      refine ⟨fun z hz => ?_, ih⟩
      rcases List.mem_cons.1 hz with rfl | hz
      · exact hpy
      · exact tr p y z hpy ((List.pairwise_cons.1 ih).1 z hz)
theorem cmpct_asc {α : Type} [DecidableEq α] (lt : α → α → Bool) (tr : ∀ x y z, lt x y = true → lt y z = true → lt x z = true) (eqv : ∀ x y, lt x y = false → lt y x = false → x = y)
    {l : List α} (h : l.Pairwise (fun a b => lt b a = false)) : (cmpct l).Pairwise fun a b => lt a b = true := by
  cases l with
  | nil => exact List.Pairwise.nil
  | cons p r => exact ddF_asc lt tr eqv r p h
theorem take_snoc2 {α : Type} {l : List α} {j : Nat} {x : α} (h : l[j]? = some x) : l.take (j + 1) = l.take j ++ [x] := by
  obtain ⟨hj, rfl⟩ := List.getElem?_eq_some_iff.1 h
  rw [List.take_add_one, h]; rfl
/-- the inner loop of Compact -/
theorem compact_copy {α : Type} [DecidableEq α] (l : List α) (k0 : Nat) (B : List α × Int × Int → Option (LS (List α × Int × Int) (List α × Int)))
    (hB : ∀ (s : List α) (k j : Nat) x y, s.length = l.length → k < l.length → 1 ≤ j → k0 + j < l.length → s[k0 + j]? = some x → s[k0 + j - 1]? = some y → B (s, (k : Int), (j : Int)) = some (.next (if x = y then (s, (k : Int), ((j + 1 : Nat) : Int)) else (s.set k x, ((k + 1 : Nat) : Int), ((j + 1 : Nat) : Int)))))
    (hE : ∀ (s : List α) (k : Nat), s.length = l.length → B (s, (k : Int), ((l.length - k0 : Nat) : Int)) = some (.done (s, (k : Int)))) :
    ∀ (r j : Nat) (s : List α) (k : Nat) (p : α), k0 + j + r = l.length → s.length = l.length → 1 ≤ j → k + 1 ≤ k0 + j → (∀ m, k0 + j ≤ m + 1 → s[m]? = l[m]?) → l[k0 + j - 1]? = some p →
      ∃ (s' : List α) (k' : Nat), LoopF B (s, (k : Int), (j : Int)) = some (s', (k' : Int)) ∧ s'.length = l.length ∧ k' ≤ l.length ∧ s'.take k' = s.take k ++ ddF p (l.drop (k0 + j))
  | 0, j, s, k, p, hj, hs, h1, hk, hm, hp => by
    have e : l.length - k0 = j := by omega
    refine ⟨s, k, Loop_done (by have := hE s k hs; rw [e] at this; exact this), hs, by omega, ?_⟩
    rw [List.drop_eq_nil_of_le (by omega)]; simp [ddF]
  | r + 1, j, s, k, p, hj, hs, h1, hk, hm, hp => by
    have hjl : k0 + j < l.length := by omega
    have hx : l[k0 + j]? = some l[k0 + j] := List.getElem?_eq_getElem hjl
    have hsx : s[k0 + j]? = some l[k0 + j] := by rw [hm _ (by omega), hx]
    have hsy : s[k0 + j - 1]? = some p := by rw [hm _ (by omega), hp]
    have hstep := hB s k j _ _ hs (by omega) h1 hjl hsx hsy
    have hd : l.drop (k0 + j) = l[k0 + j] :: l.drop (k0 + (j + 1)) := by rw [List.drop_eq_getElem_cons hjl]; rfl
    generalize hxe : l[k0 + j] = x at *
    by_cases hxy : x = p
    · rw [if_pos hxy] at hstep
      obtain ⟨s', k', e1, e2, e3, e4⟩ := compact_copy l k0 B hB hE r (j + 1) s k x (by omega) hs (by omega) (by omega) (fun m hmj => hm m (by omega)) (by rw [show k0 + (j + 1) - 1 = k0 + j by omega]; exact hx)
      refine ⟨s', k', by rw [Loop_next hstep]; exact e1, e2, e3, ?_⟩
      rw [e4, hd]
      subst hxy
      simp only [ddF, if_true]
    · rw [if_neg hxy] at hstep
      obtain ⟨s', k', e1, e2, e3, e4⟩ := compact_copy l k0 B hB hE r (j + 1) (s.set k x) (k + 1) x (by omega) (by rw [List.length_set]; exact hs) (by omega) (by omega)
        (fun m hmj => by rw [List.getElem?_set_ne (by omega)]; exact hm m (by omega)) (by rw [show k0 + (j + 1) - 1 = k0 + j by omega]; exact hx)
      refine ⟨s', k', by rw [Loop_next hstep]; exact e1, e2, e3, ?_⟩
      rw [e4, hd]
      simp only [ddF, if_neg hxy]
      have hg : (s.set k x)[k]? = some x := List.getElem?_set_self (by omega)
      rw [take_snoc2 hg, List.take_set_of_le (Nat.le_refl k), List.append_assoc]; rfl
end Go.Ab
namespace Go.Proofs.YtbiklagfjeileaaGreat
open Go Go.Ab
instance : DecidableEq Arr2_int64 := fun a b => match a, b with
  | ⟨x, y⟩, ⟨u, v⟩ => if h : x = u ∧ y = v then isTrue (by rw [h.1, h.2]) else isFalse fun e => h ⟨congrArg (·.x0) e, congrArg (·.x1) e⟩
theorem arr2_eq (a b : Arr2_int64) : ((a.x0 == b.x0) && (a.x1 == b.x1)) = decide (a = b) := by
  rw [Bool.eq_iff_iff, Bool.and_eq_true, beq_iff_eq, beq_iff_eq, decide_eq_true_eq]
  cases a; cases b; simp
/-- the order of pairs -/
def ltA (a b : Arr2_int64) : Bool := decide (a.x0 < b.x0 ∨ (a.x0 = b.x0 ∧ a.x1 < b.x1))
theorem ltA_irr (x : Arr2_int64) : ltA x x = false := by simp [ltA]
theorem ltA_asym (x y : Arr2_int64) (h : ltA x y = true) : ltA y x = false := by
  simp only [ltA, decide_eq_true_eq, decide_eq_false_iff_not] at *; omega
theorem ltA_tr (x y z : Arr2_int64) (h1 : ltA x y = true) (h2 : ltA y z = true) : ltA x z = true := by
  simp only [ltA, decide_eq_true_eq] at *; omega
theorem ltA_ntr (x y z : Arr2_int64) (h1 : ltA y x = false) (h2 : ltA z y = false) : ltA z x = false := by
  simp only [ltA, decide_eq_false_iff_not] at *; omega
theorem ltA_eqv (x y : Arr2_int64) (h1 : ltA x y = false) (h2 : ltA y x = false) : x = y := by
  simp only [ltA, decide_eq_false_iff_not] at *
  cases x; cases y
  simp only [Arr2_int64.mk.injEq] at *; omega
def cmpA (a b : Arr2_int64) : Int := if sgn a.x0 b.x0 ≠ 0 then sgn a.x0 b.x0 else sgn a.x1 b.x1
theorem compareA_eq (a b : Arr2_int64) : blocking_compare a b = some (cmpA a b) := by
  simp only [blocking_compare, cmp_int64_eq, cmp_Or2, Option.bind_some, cmpA]
theorem cmpA_lt (a b : Arr2_int64) : cmpA a b < 0 ↔ ltA a b = true := by
  unfold cmpA sgn ltA
  simp only [decide_eq_true_eq]
  repeat' split
  all_goals omega
abbrev Asc2 (l : List Arr2_int64) : Prop := l.Pairwise fun a b => ltA a b = true
theorem srtOkA (l : List Arr2_int64) : SrtOk (fun x y => (blocking_compare x y).getD 0) l := by
  refine ⟨fun x _ => ?_, fun x _ y _ z _ => ?_, fun x _ y _ z _ => ?_⟩
  · simp only [compareA_eq, Option.getD_some, cmpA_lt, ltA_irr]; simp
  · simp only [compareA_eq, Option.getD_some, cmpA_lt]; exact ltA_tr x y z
  · simp only [compareA_eq, Option.getD_some, cmpA_lt, Bool.not_eq_true]
    intro h1 h2
    exact ltA_ntr z y x h2 h1
/-- the pairs of a list, ascending, each once -/
noncomputable def setA (l : List Arr2_int64) : List Arr2_int64 := cmpct (srt (fun x y => (blocking_compare x y).getD 0) l)
theorem setA_mem (l : List Arr2_int64) (x : Arr2_int64) : x ∈ setA l ↔ x ∈ l := by
  unfold setA
  rw [cmpct_mem, (srt_perm (srtOkA l)).mem_iff]
theorem setA_asc (l : List Arr2_int64) : Asc2 (setA l) := by
  refine cmpct_asc ltA ltA_tr ltA_eqv ?_
  refine (srt_sorted (srtOkA l)).imp fun {a b} h => ?_
  simp only [compareA_eq, Option.getD_some, cmpA_lt, Bool.not_eq_true] at h
  exact h
theorem setA_of {l u : List Arr2_int64} (ha : Asc2 u) (hm : ∀ x, x ∈ u ↔ x ∈ l) : setA l = u :=
  asc_ext ltA ltA_irr ltA_asym (setA_asc l) ha fun x => by rw [setA_mem, hm]
theorem ascA_nodup {l : List Arr2_int64} (h : Asc2 l) : l.Nodup := h.imp fun hab e => by subst e; rw [ltA_irr] at hab; cases hab
/-! ### Compact -/
/-- what the sort and Compact leave -/
noncomputable def tailA (l : List Arr2_int64) : Option (List Arr2_int64) :=
  if ((l.length : Nat) : Int) < 2 then some l
  else (LoopF (blocking_Union_l8 l) 1).bind fun o => match o with
    | .inl () => some l
    | .inr r => some r
theorem union_l7 (l : List Arr2_int64) (k0 : Nat) (hl : l.length ≤ 1048576) (hk0 : k0 < l.length) (p : Arr2_int64) (hp : l[k0]? = some p) :
    ∃ (s' : List Arr2_int64) (k' : Nat), LoopF (blocking_Union_l7 l (k0 : Int)) (l, (k0 : Int), 1) = some (s', (k' : Int)) ∧ s'.length = l.length ∧ k' ≤ l.length ∧ s'.take k' = l.take k0 ++ ddF p (l.drop (k0 + 1)) := by
  have := compact_copy l k0 (blocking_Union_l7 l (k0 : Int)) (fun s k j x y hs hk h1 hj hx hy => by
      have c1 : (j : Int) < ((l.length - k0 : Nat) : Int) := by omega
      have hw : ((s.drop k0).take (l.length - k0)) = s.drop k0 := by
        rw [List.take_of_length_le (by rw [List.length_drop]; omega)]
      have g1 : idx (s.drop k0) (j : Int) = some x := by rw [idx_nat, List.getElem?_drop, hx]
      have e2 : IntKind.i64.wrap ((j : Int) - 1) = ((j - 1 : Nat) : Int) := by rw [wrap_i64 (by omega) (by omega)]; omega
      have g2 : idx (s.drop k0) ((j - 1 : Nat) : Int) = some y := by rw [idx_nat, List.getElem?_drop, show k0 + (j - 1) = k0 + j - 1 by omega, hy]
      have g3 : s[k]? = some s[k] := List.getElem?_eq_getElem (by omega)
      simp only [blocking_Union_l7, Int.toNat_natCast]
      rw [if_pos c1, hw, g1, Option.bind_some, e2, g2, Option.bind_some, arr2_eq, idx_get g3, Option.bind_some, wrap_nat (show j < 4611686018427387904 by omega), wrap_nat (show k < 4611686018427387904 by omega)]
      by_cases h : x = y
      · rw [if_pos (by simpa using h), if_pos h]
      · rw [if_neg (by simpa using h), if_neg h])
    (fun s k hs => by
      have c1 : ¬ ((l.length - k0 : Nat) : Int) < ((l.length - k0 : Nat) : Int) := by omega
      simp only [blocking_Union_l7, Int.toNat_natCast]
      rw [if_neg c1]) (l.length - k0 - 1) 1 l k0 p (by omega) rfl (Nat.le_refl _) (Nat.le_refl _) (fun m _ => rfl) hp
  exact this
theorem cut_take {α : Type} (s' : List α) (k' n : Nat) (z : α) (h : s'.length = n) (hk : k' ≤ n) : (((s'.take k' ++ List.replicate (s'.length - k') z) ++ s'.drop (k' + (s'.length - k'))).take k') = s'.take k' ∧ ((s'.take k' ++ List.replicate (s'.length - k') z) ++ s'.drop (k' + (s'.length - k'))).length = n := by
  constructor
  · rw [List.append_assoc, List.take_append_of_le_length (by rw [List.length_take]; omega), List.take_take, Nat.min_self]
  · simp only [List.length_append, List.length_take, List.length_replicate, List.length_drop]; omega
theorem union_l8 (l : List Arr2_int64) (hl : l.length ≤ 1048576) : ∀ (r : List Arr2_int64) (k : Nat) (p : Arr2_int64), 1 ≤ k → k ≤ l.length → l.drop k = r → l[k - 1]? = some p →
    ∃ o, LoopF (blocking_Union_l8 l) (k : Int) = some o ∧ (match o with | .inl () => l | .inr r => r) = l.take k ++ ddF p r
  | [], k, p, h1, hk, hd, hp => by
    have e : k = l.length := by
      have := congrArg List.length hd
      simp at this; omega
    subst e
    exact ⟨.inl (), Loop_done (by simp [blocking_Union_l8]), by simp [ddF]⟩
  | y :: r, k, p, h1, hk, hd, hp => by
    have hy : l[k]? = some y := by
      have := congrArg (·[0]?) hd
      simpa [List.getElem?_drop] using this
    have hkl := lt_of_get hy
    have hd' : l.drop (k + 1) = r := by rw [← List.drop_drop, hd]; rfl
    have e1 : IntKind.i64.wrap ((k : Int) - 1) = ((k - 1 : Nat) : Int) := by rw [wrap_i64 (by omega) (by omega)]; omega
    by_cases hyp : y = p
    · obtain ⟨s', k', q1, q2, q3, q4⟩ := union_l7 l k hl hkl y hy
      have c0 : (0 : Int) ≤ (k : Int) := by omega
      have c1 : (k : Int) ≤ ((l.length : Nat) : Int) := by omega
      have c2 : (0 : Int) ≤ (k' : Int) := by omega
      have c3 : (k' : Int) ≤ ((s'.length : Nat) : Int) := by omega
      obtain ⟨t1, t2⟩ := cut_take s' k' l.length (Arr2_int64.mk 0 0) q2 q3
      have c4 : (k' : Int) ≤ ((((s'.take k').length + (List.replicate (s'.length - k') (Arr2_int64.mk 0 0)).length + (s'.drop (k' + (s'.length - k'))).length) : Nat) : Int) := by
        simp only [List.length_append] at t2; rw [t2]; omega
      have c5 : k' ≤ ((s'.take k' ++ List.replicate (s'.length - k') (Arr2_int64.mk 0 0)) ++ s'.drop (k' + (s'.length - k'))).length := by rw [t2]; exact q3
      refine ⟨.inr (s'.take k'), Loop_done ?_, ?_⟩
      · simp only [blocking_Union_l8, if_pos (lt_true hy), idx_get hy, e1, idx_get hp, Option.bind_some, arr2_eq, hyp, decide_true, if_true, if_pos c0, if_pos c1, q1, if_pos c2, if_pos c3, Int.toNat_natCast, if_pos c4, if_pos c5, t1]
      · simp only [q4, hd', ddF]
        rw [if_pos hyp, hyp]
    · obtain ⟨o, q1, q2⟩ := union_l8 l hl r (k + 1) y (by omega) hkl hd' hy
      refine ⟨o, ?_, ?_⟩
      · rw [Loop_next (s' := ((k + 1 : Nat) : Int)) (by simp only [blocking_Union_l8, if_pos (lt_true hy), idx_get hy, e1, idx_get hp, Option.bind_some, arr2_eq, hyp, decide_false, Bool.false_eq_true, if_false, wrap_nat (show k < 4611686018427387904 by omega)])]
        exact q1
      · rw [q2, take_snoc2 hy]; simp [ddF, hyp]
theorem tailA_eq (l : List Arr2_int64) (hl : l.length ≤ 1048576) : tailA l = some (cmpct l) := by
  unfold tailA
  rcases l with _ | ⟨x, r⟩
  · rfl
  · by_cases h2 : (((x :: r).length : Nat) : Int) < 2
    · rw [if_pos h2]
      have : r = [] := by
        cases r with
        | nil => rfl
        | cons _ _ => simp only [List.length_cons] at h2; omega
      subst this; rfl
    · rw [if_neg h2]
      obtain ⟨o, q1, q2⟩ := union_l8 (x :: r) hl r 1 x (Nat.le_refl _) (by simp) rfl rfl
      have q1' : LoopF (blocking_Union_l8 (x :: r)) 1 = some o := q1
      rw [q1', Option.bind_some]
      rcases o with u | o
      · simp only at q2 ⊢
        exact congrArg some q2
      · simp only at q2 ⊢
        exact congrArg some q2
theorem concat_size (L : List (List Arr2_int64)) (hL : L.flatten.length ≤ 1048576) (hn : L.length ≤ 1048576) : LoopF (blocking_Union_l3 L) (0, 0) = some (L.flatten.length : Int) := by
  have h := LoopF_foldl L (fun (b : Nat) (i : Int) => ((b : Int), i)) (blocking_Union_l3 L) (fun b x => b + x.length) (fun b => (b : Int)) (fun k b => b = (L.take k).flatten.length) (b0 := 0) (s0 := (0, 0)) rfl (by simp)
    (fun k b x hx hk hI => by
      have e : (L.take (k + 1)).flatten.length = b + x.length := by
        rw [take_snoc2 hx, List.flatten_append, List.length_append, hI]; simp
      have hle : (L.take (k + 1)).flatten.length ≤ L.flatten.length := by
        conv => rhs; rw [← List.take_append_drop (k + 1) L, List.flatten_append, List.length_append]
        omega
      have w1 : IntKind.i64.wrap ((b : Int) + (x.length : Int)) = ((b + x.length : Nat) : Int) := by rw [wrap_i64 (by omega) (by omega)]; omega
      have c : ¬ (((b + x.length : Nat) : Int) < 0) := by omega
      refine ⟨?_, e.symm⟩
      simp only [blocking_Union_l3, if_pos (lt_true hx), idx_get hx, Option.bind_some, w1, if_neg c, wrap_nat (show k < 4611686018427387904 by omega)])
    (fun b hI => by simp [blocking_Union_l3])
  rw [h]
  have : ∀ (L : List (List Arr2_int64)) (b : Nat), L.foldl (fun b x => b + x.length) b = b + L.flatten.length := by
    intro L
    induction L with
    | nil => intro b; simp
    | cons x L ih => intro b; simp only [List.foldl_cons, ih, List.flatten_cons, List.length_append]; omega
  rw [this]; simp
theorem concat_all (L : List (List Arr2_int64)) (hL : L.flatten.length ≤ 1048576) (hn : L.length ≤ 1048576) : LoopF (blocking_Union_l4 L) (([] : List Arr2_int64), 0) = some L.flatten := by
  have h := LoopF_foldl L (fun (b : List Arr2_int64) (i : Int) => (b, i)) (blocking_Union_l4 L) (fun b x => b ++ x) id (fun k b => b = (L.take k).flatten) (b0 := []) (s0 := ([], 0)) rfl (by simp)
    (fun k b x hx hk hI => by
      have e : (L.take (k + 1)).flatten = b ++ x := by
        rw [take_snoc2 hx, List.flatten_append, hI]; simp
      have hle : (L.take (k + 1)).flatten.length ≤ L.flatten.length := by
        conv => rhs; rw [← List.take_append_drop (k + 1) L, List.flatten_append, List.length_append]
        omega
      have hr : roomB (b.length + x.length) 16 = true := room16 (by rw [e, List.length_append] at hle; omega)
      refine ⟨?_, e.symm⟩
      simp only [blocking_Union_l4, if_pos (lt_true hx), idx_get hx, Option.bind_some, hr, if_true, wrap_nat (show k < 4611686018427387904 by omega)])
    (fun b hI => by simp [blocking_Union_l4])
  rw [h]
  have : ∀ (L : List (List Arr2_int64)) (b : List Arr2_int64), L.foldl (fun b x => b ++ x) b = b ++ L.flatten := by
    intro L
    induction L with
    | nil => intro b; simp
    | cons x L ih => intro b; simp only [List.foldl_cons, ih, List.flatten_cons, List.append_assoc]
  rw [this]; simp
theorem sorted_tail (l : List Arr2_int64) (hl : l.length ≤ 1048576) : ((srtF (fun (x : Arr2_int64) (y : Arr2_int64) => blocking_compare x y) l).bind tailA) = some (setA l) := by
  have hok := srtOkA l
  have : srtF (fun (x : Arr2_int64) (y : Arr2_int64) => blocking_compare x y) l = some (srt (fun x y => (blocking_compare x y).getD 0) l) := by
    unfold srtF
    rw [if_pos ⟨fun x _ y _ => by show (blocking_compare x y).isSome = true; rw [compareA_eq]; rfl, hok, by omega⟩]
  rw [this, Option.bind_some, tailA_eq _ (by rw [(srt_perm hok).length_eq]; exact hl)]
  rfl
theorem Union_eq (L : List (List Arr2_int64)) (hL : L.flatten.length ≤ 1048576) (hn : L.length ≤ 1048576) : blocking_Union L = some (setA L.flatten) := by
  have e : blocking_Union L = (LoopF (blocking_Union_l3 L) (0, 0)).bind fun size => if 0 ≤ size then if size ≤ 1000000000000 then
      (LoopF (blocking_Union_l4 L) (([] : List Arr2_int64), 0)).bind fun ns => (srtF (fun (x : Arr2_int64) (y : Arr2_int64) => blocking_compare x y) ns).bind tailA else none else none := rfl
  have c1 : (0 : Int) ≤ (L.flatten.length : Int) := by omega
  have c2 : (L.flatten.length : Int) ≤ 1000000000000 := by omega
  rw [e, concat_size L hL hn, Option.bind_some, if_pos c1, if_pos c2, concat_all L hL hn, Option.bind_some, sorted_tail _ hL]

/-! ### the reference -/
theorem HasA_eq (l : List Arr2_int64) (p : Arr2_int64) (hl : l.length ≤ 1048576) : drossref53_Has l p = some (decide (p ∈ l)) := by
  have h := LoopF_all l (drossref53_Has_l1 l p) (fun x => !decide (x = p)) true
    (fun k x hx hk hp => by
      simp only [Bool.not_eq_true', decide_eq_false_iff_not] at hp
      simp only [drossref53_Has_l1, if_pos (lt_true hx), idx_get hx, Option.bind_some, arr2_eq, hp, decide_false, Bool.false_eq_true, if_false, wrap_nat (show k < 4611686018427387904 by omega)])
    (fun k x hx hp => by
      simp only [Bool.not_eq_false', decide_eq_true_eq] at hp
      simp only [drossref53_Has_l1, if_pos (lt_true hx), idx_get hx, Option.bind_some, arr2_eq, hp, decide_true, if_true])
    (by simp [drossref53_Has_l1])
  simp only [drossref53_Has, h, Option.bind_some]
  by_cases hm : p ∈ l
  · have : l.all (fun x => !decide (x = p)) = false := by
      rw [List.all_eq_false]
      exact ⟨p, hm, by simp⟩
    simp [this, hm]
  · have : l.all (fun x => !decide (x = p)) = true := by
      rw [List.all_eq_true]
      intro x hx
      have : x ≠ p := fun e => hm (e ▸ hx)
      simp [this]
    simp [this, hm]
theorem union_l11 (s : List Arr2_int64) (x : Arr2_int64) (hs : s.length ≤ 1048576) : LoopF drossref53_Union_l11 (s ++ [x], (s.length : Int)) = some (insR ltA x s) := by
  have := sift_loop ltA drossref53_Union_l11 1048577 (fun l => by simp [drossref53_Union_l11])
    (fun l k x y hk hx hy hlt => by
      have c : ((k + 1 : Nat) : Int) > 0 := by omega
      have e : IntKind.i64.wrap (((k + 1 : Nat) : Int) - 1) = (k : Int) := by rw [wrap_i64 (by omega) (by omega)]; omega
      have g : (l.set (k + 1) y)[k]? = some y := by rw [List.getElem?_set_ne (by omega), hy]
      simp only [ltA, decide_eq_true_eq] at hlt
      simp only [drossref53_Union_l11, if_pos c, idx_get hx, e, idx_get hy, Option.bind_some, Int.toNat_natCast, idx_get g]
      rcases hlt with h | ⟨h1, h2⟩
      · rw [if_pos h]
      · have n : ¬ x.x0 < y.x0 := by omega
        rw [if_neg n, if_pos (by simpa using h1), if_pos h2])
    (fun l k x y hk hx hy hlt => by
      have c : ((k + 1 : Nat) : Int) > 0 := by omega
      have e : IntKind.i64.wrap (((k + 1 : Nat) : Int) - 1) = (k : Int) := by rw [wrap_i64 (by omega) (by omega)]; omega
      simp only [ltA, decide_eq_false_iff_not, not_or, not_and] at hlt
      simp only [drossref53_Union_l11, if_pos c, idx_get hx, e, idx_get hy, Option.bind_some]
      rw [if_neg hlt.1]
      by_cases h : x.x0 = y.x0
      · rw [if_pos (by simpa using h), if_neg (hlt.2 h)]
      · rw [if_neg (by simpa using h)]) x s.length s [] rfl (by omega)
  simpa using this
/-- one pair more -/
def putA (out : List Arr2_int64) (x : Arr2_int64) : List Arr2_int64 := if x ∈ out then out else insR ltA x out
theorem putA_asc {out : List Arr2_int64} {x : Arr2_int64} (h : Asc2 out) : Asc2 (putA out x) := by
  unfold putA
  split
  · exact h
  · rename_i hx
    have hp := insR_perm ltA x out
    have hs := insR_sorted ltA ltA_asym ltA_ntr x out (h.imp fun {a b} hab => ltA_asym a b hab)
    have hnd : (insR ltA x out).Nodup := hp.nodup_iff.2 (List.nodup_cons.2 ⟨hx, ascA_nodup h⟩)
    refine (hs.and hnd).imp fun {a b} hab => ?_
    cases hc : ltA a b with
    | true => rfl
    | false => exact absurd (ltA_eqv a b hc hab.1) hab.2
theorem putA_mem {out : List Arr2_int64} {x y : Arr2_int64} : y ∈ putA out x ↔ y = x ∨ y ∈ out := by
  unfold putA
  split
  · rename_i h
    constructor
    · exact .inr
    · rintro (rfl | h1)
      · exact h
      · exact h1
  · rw [(insR_perm ltA x out).mem_iff, List.mem_cons]
theorem putA_len (out : List Arr2_int64) (x : Arr2_int64) : (putA out x).length ≤ out.length + 1 := by
  unfold putA
  split
  · omega
  · rw [insR_len]; omega
theorem puts (l out : List Arr2_int64) (h : Asc2 out) : Asc2 (l.foldl putA out) ∧ ∀ x, x ∈ l.foldl putA out ↔ x ∈ out ∨ x ∈ l := by
  induction l generalizing out with
  | nil => exact ⟨h, by simp⟩
  | cons y l ih =>
    obtain ⟨h1, h2⟩ := ih (putA out y) (putA_asc h)
    refine ⟨h1, fun x => ?_⟩
    rw [List.foldl_cons, h2, putA_mem, List.mem_cons]
    constructor
    · rintro ((h | h) | h)
      · exact .inr (.inl h)
      · exact .inl h
      · exact .inr (.inr h)
    · rintro (h | h | h)
      · exact .inl (.inr h)
      · exact .inl (.inl h)
      · exact .inr h
theorem puts_set (l : List Arr2_int64) : l.foldl putA [] = setA l := by
  obtain ⟨h1, h2⟩ := puts l [] List.Pairwise.nil
  exact (setA_of h1 fun x => by rw [h2]; simp).symm
theorem union_l12 (L : List (List Arr2_int64)) (i : Nat) (x : List Arr2_int64) (hx : L[i]? = some x) (out : List Arr2_int64) (hl : out.length + x.length ≤ 1048576) :
    LoopF (drossref53_Union_l12 L (i : Int)) (out, 0) = some (x.foldl putA out) := by
  have h := LoopF_foldl x (fun (b : List Arr2_int64) (k : Int) => (b, k)) (drossref53_Union_l12 L (i : Int)) putA id (fun k b => b.length ≤ out.length + k) (b0 := out) (s0 := (out, 0)) rfl (by simp)
    (fun k b y hy hk hI => by
      have hlen := putA_len b y
      refine ⟨?_, by omega⟩
      have hr : roomB (b.length + 1) 16 = true := room16 (by omega)
      simp only [drossref53_Union_l12, idx_get hx, Option.bind_some, if_pos (lt_true hy), idx_get hy, HasA_eq b y (by omega), hr, if_true]
      by_cases hm : y ∈ b
      · simp only [hm, decide_true, if_true, putA, wrap_nat (show k < 4611686018427387904 by omega)]
      · have e : IntKind.i64.wrap ((((b.length + 1) : Nat) : Int) - 1) = (b.length : Int) := by rw [wrap_i64 (by omega) (by omega)]; omega
        simp only [hm, decide_false, Bool.false_eq_true, if_false, putA, e, union_l11 b y (by omega), Option.bind_some, wrap_nat (show k < 4611686018427387904 by omega)])
    (fun b hI => by simp [drossref53_Union_l12, idx_get hx])
  rw [h]; rfl
theorem foldl_put_len (x out : List Arr2_int64) : (x.foldl putA out).length ≤ out.length + x.length := by
  induction x generalizing out with
  | nil => simp
  | cons y x ih =>
    have h1 := ih (putA out y)
    have h2 := putA_len out y
    simp only [List.foldl_cons, List.length_cons]; omega
theorem ref_Union_eq (L : List (List Arr2_int64)) (hL : L.flatten.length ≤ 1048576) (hn : L.length ≤ 1048576) : drossref53_Union L = some (setA L.flatten) := by
  have h := LoopF_foldl L (fun (b : List Arr2_int64) (i : Int) => (b, i)) (drossref53_Union_l13 L) (fun b x => x.foldl putA b) id (fun k b => b.length ≤ (L.take k).flatten.length) (b0 := []) (s0 := ([], 0)) rfl (by simp)
    (fun k b x hx hk hI => by
      have hle : (L.take (k + 1)).flatten.length ≤ L.flatten.length := by
        conv => rhs; rw [← List.take_append_drop (k + 1) L, List.flatten_append, List.length_append]
        omega
      have e : (L.take (k + 1)).flatten.length = (L.take k).flatten.length + x.length := by
        rw [take_snoc2 hx, List.flatten_append, List.length_append]; simp
      have hf := foldl_put_len x b
      refine ⟨?_, by omega⟩
      simp only [drossref53_Union_l13, if_pos (lt_true hx), union_l12 L k x hx b (by omega), Option.bind_some, wrap_nat (show k < 4611686018427387904 by omega)])
    (fun b hI => by simp [drossref53_Union_l13])
  simp only [drossref53_Union, h, Option.bind_some, id]
  have : ∀ (L : List (List Arr2_int64)) (b : List Arr2_int64), L.foldl (fun b x => x.foldl putA b) b = L.flatten.foldl putA b := by
    intro L
    induction L with
    | nil => intro b; rfl
    | cons x L ih => intro b; simp only [List.foldl_cons, ih, List.flatten_cons, List.foldl_append]
  rw [this, puts_set]
end Go.Proofs.YtbiklagfjeileaaGreat
/- Blocking: the binary search, Missed of both kinds. -/
set_option linter.unusedVariables false
set_option linter.unusedSimpArgs false
namespace Go.Ab
open Go
end Go.Ab
namespace Go.Proofs.YtbiklagfjeileaaGreat
open Go Go.Ab
end Go.Proofs.YtbiklagfjeileaaGreat
/- Sets of attributes: numbers of 32 bits. -/
set_option linter.unusedVariables false
set_option linter.unusedSimpArgs false
namespace Go.Ab
open Go
theorem wrap_u64 {n : Int} (h1 : 0 ≤ n) (h2 : n ≤ 18446744073709551615) : IntKind.u64.wrap n = n := by
  simp only [IntKind.wrap, IntKind.signed, IntKind.bits]
  simp only [Bool.false_and, Bool.false_eq_true, if_false]
  rw [show ((2 : Int) ^ 64) = 18446744073709551616 from rfl]
  omega
end Go.Ab
/- Fractions: both layers make the reduced fraction (of numbers that are not negative). -/
set_option linter.unusedVariables false
set_option linter.unusedSimpArgs false
namespace Go.Proofs.YtbiklagfjeileaaGreat
open Go Go.Ab

/-- the reduced fraction -/
def ratioN (n d : Nat) : Ratio := ⟨((n / Nat.gcd n d : Nat) : Int), ((d / Nat.gcd n d : Nat) : Int)⟩
theorem dmod {b y d c : Nat} (h : c + b * d = y) (hc : c < b) : y / b = d ∧ y % b = c := (Nat.div_mod_unique (by omega)).2 ⟨h, hc⟩
theorem ratio_abs_nat (n : Nat) (h : n < 4611686018427387904) : ratio_abs (n : Int) = some (n : Int) := by
  simp only [ratio_abs]
  rw [if_neg (by omega), wrap_u64 (by omega) (by omega)]
theorem ratio_gcd_loop : ∀ (b a : Nat), LoopF ratio_gcd_l1 ((a : Int), (b : Int)) = some ((Nat.gcd a b : Nat) : Int) := by
  intro b
  induction b using Nat.strongRecOn with
  | ind b ih =>
    intro a
    by_cases hb : b = 0
    · subst hb
      rw [Loop_done (t := (a : Int)) (by simp [ratio_gcd_l1]), Nat.gcd_zero_right]
    · have h1 : ((b : Int) > 0) := by omega
      have h2 : ¬ ((b : Int) = 0) := by omega
      have e : Int.tmod (a : Int) (b : Int) = ((a % b : Nat) : Int) := by rw [Int.ofNat_tmod]
      rw [Loop_next (s' := ((b : Int), ((a % b : Nat) : Int))) (by simp only [ratio_gcd_l1, if_pos h1, if_neg h2, e]), ih (a % b) (Nat.mod_lt _ (by omega)) b]
      rw [Nat.gcd_comm a b, Nat.gcd_rec b a, Nat.gcd_comm]
theorem ratio_gcd_nat (a b : Nat) : ratio_gcd (a : Int) (b : Int) = some ((Nat.gcd a b : Nat) : Int) := by
  simp only [ratio_gcd, ratio_gcd_loop, Option.bind_some]
theorem tdiv_nat (a b : Nat) : Int.tdiv (a : Int) (b : Int) = ((a / b : Nat) : Int) := Int.ofNat_tdiv a b
theorem ratio_Make_nat (n d : Nat) (hn : n < 4611686018427387904) (hd : 0 < d) (hd' : d < 4611686018427387904) : ratio_Make (n : Int) (d : Int) = some (ratioN n d, 0) := by
  have hg : 0 < Nat.gcd n d := Nat.gcd_pos_of_pos_right _ hd
  have h0 : ((d : Int) == 0) = false := by simp; omega
  have hdn : n / Nat.gcd n d ≤ n := Nat.div_le_self _ _
  have hdd : d / Nat.gcd n d ≤ d := Nat.div_le_self _ _
  have hg0 : ¬ ((Nat.gcd n d : Nat) : Int) = 0 := by omega
  have e1 : (decide ((n : Int) < 0)) = false := by simp
  have e2 : (decide ((d : Int) < 0)) = false := by simp
  simp only [ratio_Make, h0, Bool.false_eq_true, if_false, ratio_abs_nat n hn, ratio_abs_nat d hd', Option.bind_some, ratio_gcd_nat, if_neg hg0, tdiv_nat, e1, e2, ratioN]
  generalize n / Nat.gcd n d = p at *
  generalize d / Nat.gcd n d = q at *
  rw [wrap_u64 (n := (p : Int)) (by omega) (by omega), wrap_u64 (n := (q : Int)) (by omega) (by omega)]
  have c1 : ¬ ((p : Int) > 9223372036854775807) := by omega
  have c2 : ¬ ((q : Int) > 9223372036854775807) := by omega
  simp only [ratio_of, if_neg c1, if_neg c2, beq_self_eq_true, Bool.not_true, Bool.false_eq_true, if_false, Option.bind_some]
  rw [wrap_i64 (n := (p : Int)) (by omega) (by omega), wrap_i64 (n := (q : Int)) (by omega) (by omega)]

/-! ### the reference: division bit by bit -/
theorem wide_plus (a : Nat) (h : a < 4611686018427387904) : drossref04_plus ⟨0, (a : Int)⟩ ⟨0, (a : Int)⟩ = some ⟨0, ((2 * a : Nat) : Int)⟩ := by
  have e1 : addF (a : Int) (a : Int) 0 = some (((2 * a : Nat) : Int), 0) := by
    unfold addF
    rw [if_pos (by omega)]
    congr 2 <;> omega
  have e2 : addF 0 0 0 = some (0, 0) := by decide
  simp only [drossref04_plus, e1, e2, Option.bind_some]
theorem wide_minus (a b : Nat) (h : a < 9223372036854775808) (hb : b ≤ a) : drossref04_minus ⟨0, (a : Int)⟩ ⟨0, (b : Int)⟩ = some ⟨0, ((a - b : Nat) : Int)⟩ := by
  have e1 : subF (a : Int) (b : Int) 0 = some (((a - b : Nat) : Int), 0) := by
    unfold subF
    rw [if_pos (by omega), if_neg (by omega)]
    congr 2; omega
  have e2 : subF 0 0 0 = some (0, 0) := by decide
  simp only [drossref04_minus, e1, e2, Option.bind_some]
theorem wide_less (a b : Nat) : drossref04_less ⟨0, (a : Int)⟩ ⟨0, (b : Int)⟩ = some (decide (a < b)) := by
  simp only [drossref04_less]
  rw [if_neg (by omega), if_pos (by rfl)]
  simp
theorem parts_step0 (a b k : Nat) (hb : 0 < b) (hk : 64 ≤ k) (hk' : k < 128) : drossref04_parts_l1 ⟨0, (a : Int)⟩ ⟨0, (b : Int)⟩ (⟨0, 0⟩, ⟨0, 0⟩, (k : Int)) = some (.next (⟨0, 0⟩, ⟨0, 0⟩, (k : Int) - 1)) := by
  have h1 : (k : Int) ≥ 0 := by omega
  have h2 : (k : Int) ≥ 64 := by omega
  have h3 : Int.tmod (k : Int) 64 = ((k % 64 : Nat) : Int) := Int.ofNat_tmod k 64
  have h4 : ¬ ((k % 64 : Nat) : Int) < 0 := by omega
  have h5 : drossref04_plus ⟨0, 0⟩ ⟨0, 0⟩ = some ⟨0, 0⟩ := wide_plus 0 (by omega)
  have h6 : IntKind.u64.wrap ((0 : Int) + (Int.tmod (Int.fdiv 0 (2 ^ (min (((k % 64 : Nat) : Int)).toNat 64))) 2)) = 0 := by rw [Int.zero_fdiv]; rfl
  have h7 : drossref04_less ⟨0, 0⟩ ⟨0, (b : Int)⟩ = some true := by
    have := wide_less 0 b
    rw [show decide (0 < b) = true by simp [hb]] at this
    exact this
  have h8 : IntKind.i64.wrap ((k : Int) - 1) = (k : Int) - 1 := wrap_i64 (by omega) (by omega)
  simp only [drossref04_parts_l1, if_pos h1, if_pos h2, h3, if_neg h4, h5, Option.bind_some, h6, h7, if_true, h8]
theorem fdiv_pow (a k : Nat) : Int.fdiv (a : Int) (2 ^ k) = ((a / 2 ^ k : Nat) : Int) := by
  have e : (2 : Int) ^ k = ((2 ^ k : Nat) : Int) := by simp
  rw [e]; exact (Int.ofNat_fdiv a (2 ^ k)).symm
theorem parts_step1 (a b k : Nat) (ha : a < 4611686018427387904) (hb : 0 < b) (hb' : b < 2305843009213693952) (hk : k < 64) :
    drossref04_parts_l1 ⟨0, (a : Int)⟩ ⟨0, (b : Int)⟩ (⟨0, ((a / 2 ^ (k + 1) / b : Nat) : Int)⟩, ⟨0, ((a / 2 ^ (k + 1) % b : Nat) : Int)⟩, (k : Int)) =
      some (.next (⟨0, ((a / 2 ^ k / b : Nat) : Int)⟩, ⟨0, ((a / 2 ^ k % b : Nat) : Int)⟩, (k : Int) - 1)) := by
  have h1 : (k : Int) ≥ 0 := by omega
  have h2 : ¬ (k : Int) ≥ 64 := by omega
  have h3 : Int.tmod (k : Int) 64 = (k : Int) := by
    have : Int.tmod (k : Int) 64 = ((k % 64 : Nat) : Int) := Int.ofNat_tmod k 64
    rw [this]; omega
  have h4 : ¬ (k : Int) < 0 := by omega
  have hx : a / 2 ^ k = 2 * (a / 2 ^ (k + 1)) + a / 2 ^ k % 2 := by
    rw [Nat.pow_succ, ← Nat.div_div_eq_div_mul]; omega
  have hy : a / 2 ^ k ≤ a := Nat.div_le_self _ _
  have hbit : Int.tmod (Int.fdiv (a : Int) (2 ^ (min ((k : Int)).toNat 64))) 2 = ((a / 2 ^ k % 2 : Nat) : Int) := by
    rw [Int.toNat_natCast, Nat.min_eq_left (by omega), fdiv_pow]
    exact Int.ofNat_tmod _ 2
  have hbit2 : a / 2 ^ k % 2 < 2 := Nat.mod_lt _ (by omega)
  generalize a / 2 ^ k % 2 = bit at *
  generalize a / 2 ^ k = y at *
  generalize a / 2 ^ (k + 1) = x at *
  have hr : x % b < b := Nat.mod_lt _ hb
  have hq : x / b ≤ x := Nat.div_le_self _ _
  have hm := Nat.mod_add_div x b
  have p1 := wide_plus (x % b) (by omega)
  have p2 := wide_plus (x / b) (by omega)
  have h6 : IntKind.u64.wrap (((2 * (x % b) : Nat) : Int) + (bit : Int)) = ((2 * (x % b) + bit : Nat) : Int) := by
    rw [← Int.natCast_add]; exact wrap_u64 (by omega) (by omega)
  have h7 : IntKind.u64.wrap (((2 * (x / b) : Nat) : Int) + 1) = ((2 * (x / b) + 1 : Nat) : Int) := by
    rw [wrap_u64 (by omega) (by omega)]; omega
  have h8 : IntKind.i64.wrap ((k : Int) - 1) = (k : Int) - 1 := wrap_i64 (by omega) (by omega)
  simp only [drossref04_parts_l1, if_pos h1, if_neg h2, h3, if_neg h4, p1, p2, Option.bind_some, hbit, h6, h7, h8, wide_less]
  have hmul : b * (2 * (x / b)) = 2 * (b * (x / b)) := by rw [Nat.mul_left_comm]
  by_cases hl : 2 * (x % b) + bit < b
  · obtain ⟨e1, e2⟩ := dmod (b := b) (y := y) (d := 2 * (x / b)) (c := 2 * (x % b) + bit) (by rw [hmul]; omega) hl
    simp only [hl, decide_true, if_true, e1, e2]
  · obtain ⟨e1, e2⟩ := dmod (b := b) (y := y) (d := 2 * (x / b) + 1) (c := 2 * (x % b) + bit - b) (by rw [Nat.mul_add, hmul, Nat.mul_one]; omega) (by omega)
    have m1 := wide_minus (2 * (x % b) + bit) b (by omega) (by omega)
    simp only [hl, decide_false, Bool.false_eq_true, if_false, m1, Option.bind_some, e1, e2]
theorem parts_eq (a b : Nat) (ha : a < 4611686018427387904) (hb : 0 < b) (hb' : b < 2305843009213693952) : drossref04_parts ⟨0, (a : Int)⟩ ⟨0, (b : Int)⟩ = some (⟨0, ((a / b : Nat) : Int)⟩, ⟨0, ((a % b : Nat) : Int)⟩) := by
  have low : ∀ k : Nat, k ≤ 64 → LoopF (drossref04_parts_l1 ⟨0, (a : Int)⟩ ⟨0, (b : Int)⟩) (⟨0, ((a / 2 ^ k / b : Nat) : Int)⟩, ⟨0, ((a / 2 ^ k % b : Nat) : Int)⟩, (k : Int) - 1) = some (⟨0, ((a / b : Nat) : Int)⟩, ⟨0, ((a % b : Nat) : Int)⟩) := by
    intro k
    induction k with
    | zero =>
      intro _
      rw [Nat.pow_zero, Nat.div_one]
      exact Loop_done (by simp [drossref04_parts_l1])
    | succ k ih =>
      intro hk
      have e : ((k + 1 : Nat) : Int) - 1 = (k : Int) := by omega
      rw [e, Loop_next (parts_step1 a b k ha hb hb' (by omega))]
      exact ih (by omega)
  have hz : a / 2 ^ 64 = 0 := Nat.div_eq_of_lt (by omega)
  have high : ∀ k : Nat, k ≤ 64 → LoopF (drossref04_parts_l1 ⟨0, (a : Int)⟩ ⟨0, (b : Int)⟩) (⟨0, 0⟩, ⟨0, 0⟩, ((64 + k : Nat) : Int) - 1) = some (⟨0, ((a / b : Nat) : Int)⟩, ⟨0, ((a % b : Nat) : Int)⟩) := by
    intro k
    induction k with
    | zero =>
      intro _
      have := low 64 (Nat.le_refl _)
      rw [hz, Nat.zero_div, Nat.zero_mod] at this
      exact this
    | succ k ih =>
      intro hk
      have e : ((64 + (k + 1) : Nat) : Int) - 1 = ((64 + k : Nat) : Int) := by omega
      rw [e, Loop_next (parts_step0 a b (64 + k) hb (by omega) (by omega))]
      exact ih (by omega)
  have := high 64 (Nat.le_refl _)
  simp only [drossref04_parts]
  rw [show (127 : Int) = ((64 + 64 : Nat) : Int) - 1 by omega, this]
  rfl
theorem build_loop : ∀ (b a : Nat), a < 2305843009213693952 → b < 2305843009213693952 → LoopF drossref04_build_l1 (⟨0, (a : Int)⟩, ⟨0, (b : Int)⟩) = some ⟨0, ((Nat.gcd a b : Nat) : Int)⟩ := by
  intro b
  induction b using Nat.strongRecOn with
  | ind b ih =>
    intro a ha hb
    by_cases hz : b = 0
    · subst hz
      rw [Loop_done (t := ⟨0, (a : Int)⟩) (by simp [drossref04_build_l1, drossref04_zero]), Nat.gcd_zero_right]
    · have h1 : drossref04_zero ⟨0, (b : Int)⟩ = some false := by
        simp only [drossref04_zero]
        rw [if_pos (by rfl)]
        congr 1; simp; omega
      rw [Loop_next (s' := (⟨0, (b : Int)⟩, ⟨0, ((a % b : Nat) : Int)⟩)) (by simp only [drossref04_build_l1, h1, Option.bind_some, Bool.false_eq_true, if_false, parts_eq a b (by omega) (by omega) hb]), ih (a % b) (Nat.mod_lt _ (by omega)) b hb (Nat.lt_trans (Nat.mod_lt _ (by omega)) hb)]
      rw [Nat.gcd_comm a b, Nat.gcd_rec b a, Nat.gcd_comm]
theorem ref_Make_nat (n d : Nat) (hn : n < 2305843009213693952) (hd : 0 < d) (hd' : d < 2305843009213693952) : drossref04_Make (n : Int) (d : Int) = some (ratioN n d, 0) := by
  have hg : 0 < Nat.gcd n d := Nat.gcd_pos_of_pos_right _ hd
  have hgd : Nat.gcd n d ≤ d := Nat.gcd_le_right _ hd
  have h0 : ((d : Int) == 0) = false := by simp; omega
  have hdn : n / Nat.gcd n d ≤ n := Nat.div_le_self _ _
  have hdd : d / Nat.gcd n d ≤ d := Nat.div_le_self _ _
  have e1 : (decide ((n : Int) < 0)) = false := by simp
  have e2 : (decide ((d : Int) < 0)) = false := by simp
  have s1 : ∀ m : Nat, m < 2305843009213693952 → drossref04_size (m : Int) = some ⟨0, (m : Int)⟩ := by
    intro m hm
    simp only [drossref04_size]
    rw [if_neg (by omega), wrap_u64 (by omega) (by omega)]
  have l1 : ∀ m : Nat, m < 2305843009213693952 → drossref04_less ⟨0, 9223372036854775807⟩ ⟨0, (m : Int)⟩ = some false := by
    intro m hm
    have := wide_less 9223372036854775807 m
    rw [show decide (9223372036854775807 < m) = false by simp; omega] at this
    exact this
  simp only [drossref04_Make, h0, Bool.false_eq_true, if_false, s1 n hn, s1 d hd', Option.bind_some, drossref04_build, build_loop d n hn hd', parts_eq n _ (by omega) hg (by omega), parts_eq d _ (by omega) hg (by omega), l1 _ (show n / Nat.gcd n d < 2305843009213693952 by omega), l1 _ (show d / Nat.gcd n d < 2305843009213693952 by omega), e1, e2, beq_self_eq_true, Bool.not_true]
  simp only [ratioN]
  generalize n / Nat.gcd n d = p at *
  generalize d / Nat.gcd n d = q at *
  rw [wrap_i64 (n := (p : Int)) (by omega) (by omega), wrap_i64 (n := (q : Int)) (by omega) (by omega)]
theorem ref_Of_nat (n d : Nat) (hn : n < 2305843009213693952) (hd : 0 < d) (hd' : d < 2305843009213693952) : drossref04_Of (n : Int) (d : Int) = some (ratioN n d) := by
  simp only [drossref04_Of, ref_Make_nat n d hn hd hd', Option.bind_some]
  rfl
end Go.Proofs.YtbiklagfjeileaaGreat
/- Blocking: Reduction of both kinds; all pairs of a small table. -/
set_option linter.unusedVariables false
set_option linter.unusedSimpArgs false
namespace Go.Ab
theorem pairs53_map {α : Type} (n : Nat) (p : Nat → Nat → Bool) (mk : Nat → Nat → α) : pairs53 n p mk = (pairs53 n p Prod.mk).map fun x => mk x.1 x.2 := by
  unfold pairs53
  rw [List.map_flatMap]
  simp only [List.map_map]
  rfl
theorem pairs53_all {n : Nat} (h : n ≤ 8) : (pairs53 n (fun _ _ => true) Prod.mk).length = n * (n - 1) / 2 := by
  have : ∀ n, n ≤ 8 → (pairs53 n (fun _ _ => true) Prod.mk).length = n * (n - 1) / 2 := by decide +kernel
  exact this n h
theorem len_le_of_sub {α : Type} : ∀ {l r : List α}, l.Nodup → (∀ x ∈ l, x ∈ r) → l.length ≤ r.length
  | [], _, _, _ => Nat.zero_le _
  | x :: l, r, hn, hs => by
    obtain ⟨r1, r2, rfl⟩ := List.append_of_mem (hs x List.mem_cons_self)
    rw [List.nodup_cons] at hn
    have := len_le_of_sub (l := l) (r := r1 ++ r2) hn.2 (fun y hy => by
      have := hs y (List.mem_cons_of_mem _ hy)
      rw [List.mem_append, List.mem_cons] at this
      rw [List.mem_append]
      rcases this with h | rfl | h
      · exact .inl h
      · exact absurd hy hn.1
      · exact .inr h)
    simp only [List.length_append, List.length_cons] at *; omega
end Go.Ab
namespace Go.Proofs.YtbiklagfjeileaaGreat
open Go Go.Ab
/-- the number of all pairs of rows -/
def allN (n : Nat) : Nat := n * (n - 1) / 2
theorem allN_small {n : Nat} (h : n ≤ 200) : allN n ≤ 40000 := by
  have : n * (n - 1) ≤ 200 * 200 := Nat.mul_le_mul h (by omega)
  unfold allN; omega
theorem allN_zero {n : Nat} : allN n = 0 ↔ n < 2 := by
  unfold allN
  constructor
  · intro h
    rcases Nat.lt_or_ge n 2 with h2 | h2
    · exact h2
    · have : 2 * 1 ≤ n * (n - 1) := Nat.mul_le_mul h2 (by omega)
      omega
  · intro h
    have : n = 0 ∨ n = 1 := by omega
    rcases this with rfl | rfl <;> rfl
theorem allN_int {n : Nat} (h : n ≤ 200) : IntKind.i64.wrap (Int.tdiv (IntKind.i64.wrap ((n : Int) * (IntKind.i64.wrap ((n : Int) - 1)))) 2) = (allN n : Int) := by
  have hs := allN_small h
  have hm : n * (n - 1) ≤ 200 * 200 := Nat.mul_le_mul h (by omega)
  have w1 : IntKind.i64.wrap ((n : Int) - 1) = (n : Int) - 1 := wrap_i64 (by omega) (by omega)
  have e : (n : Int) * ((n : Int) - 1) = ((n * (n - 1) : Nat) : Int) := by
    rcases n with _ | n
    · rfl
    · rw [Int.natCast_mul]; congr 1; omega
  rw [w1, e, wrap_i64 (n := ((n * (n - 1) : Nat) : Int)) (by omega) (by omega)]
  have e2 : Int.tdiv ((n * (n - 1) : Nat) : Int) 2 = (allN n : Int) := Int.ofNat_tdiv (n * (n - 1)) 2
  rw [e2, wrap_i64 (by omega) (by omega)]
/-- a pair of rows of a table -/
def pairOk (t : Table) (p : Arr2_int64) : Bool := (findB t p.x0).2 && (findB t p.x1).2 && decide (p.x0 < p.x1)
noncomputable def redB (t : Table) (pairs : List Arr2_int64) : Ratio × Int :=
  if tableErr t ≠ 0 then (⟨0, 0⟩, tableErr t) else if t.Rows.length > 200 then (⟨0, 0⟩, 3)
  else if pairs.all (pairOk t) then (if t.Rows.length < 2 then (⟨1, 1⟩, 0) else (ratioN (allN t.Rows.length - (setA pairs).length) (allN t.Rows.length), 0)) else (⟨0, 0⟩, 1)
theorem red_loop (t : Table) (pairs : List Arr2_int64) (H : TabOk t) (hp : pairs.length ≤ 1048575) : LoopF (blocking_Reduction_l1 t pairs) 0 = some (if pairs.all (pairOk t) then .inl () else .inr (⟨0, 0⟩, 1)) :=
  LoopF_all pairs (blocking_Reduction_l1 t pairs) (pairOk t) (⟨0, 0⟩, 1)
    (fun k x hx hk hq => by
      simp only [pairOk, Bool.and_eq_true, decide_eq_true_eq] at hq
      have c : ¬ (x.x0 ≥ x.x1) := by omega
      simp only [blocking_Reduction_l1, if_pos (lt_true hx), idx_get hx, Option.bind_some, table_Find_eq t _ H.rows, hq.1.1, hq.1.2, if_true, if_neg c, wrap_nat (show k < 4611686018427387904 by omega)])
    (fun k x hx hq => by
      simp only [blocking_Reduction_l1, if_pos (lt_true hx), idx_get hx, Option.bind_some, table_Find_eq t _ H.rows]
      cases h1 : (findB t x.x0).2 with
      | false => simp
      | true =>
        cases h2 : (findB t x.x1).2 with
        | false => simp
        | true =>
          simp only [pairOk, h1, h2, Bool.and_self, Bool.true_and, decide_eq_false_iff_not] at hq
          have c : x.x0 ≥ x.x1 := by omega
          simp [c])
    (by simp [blocking_Reduction_l1])
theorem ref_red_loop (t : Table) (pairs : List Arr2_int64) (H : TabOk t) (hp : pairs.length ≤ 1048575) : LoopF (drossref53_Reduction_l1 t pairs) 0 = some (if pairs.all (pairOk t) then .inl () else .inr (⟨0, 0⟩, 1)) :=
  LoopF_all pairs (drossref53_Reduction_l1 t pairs) (pairOk t) (⟨0, 0⟩, 1)
    (fun k x hx hk hq => by
      simp only [pairOk, Bool.and_eq_true, decide_eq_true_eq] at hq
      have c : ¬ (x.x0 ≥ x.x1) := by omega
      simp only [drossref53_Reduction_l1, if_pos (lt_true hx), idx_get hx, Option.bind_some, ref_Find_eq t _ H.rows, hq.1.1, hq.1.2, if_true, if_neg c, wrap_nat (show k < 4611686018427387904 by omega)])
    (fun k x hx hq => by
      simp only [drossref53_Reduction_l1, if_pos (lt_true hx), idx_get hx, Option.bind_some, ref_Find_eq t _ H.rows]
      cases h1 : (findB t x.x0).2 with
      | false => simp
      | true =>
        cases h2 : (findB t x.x1).2 with
        | false => simp
        | true =>
          simp only [pairOk, h1, h2, Bool.and_self, Bool.true_and, decide_eq_false_iff_not] at hq
          have c : x.x0 ≥ x.x1 := by omega
          simp [c])
    (by simp [drossref53_Reduction_l1])
theorem one_one : ratioN 1 1 = ⟨1, 1⟩ := by decide
theorem Reduction_eq (t : Table) (pairs : List Arr2_int64) (H : TabOk t) (hp : pairs.length ≤ 1048575) (hle : pairs.all (pairOk t) = true → (setA pairs).length ≤ allN t.Rows.length) : blocking_Reduction t pairs = some (redB t pairs) := by
  simp only [blocking_Reduction, table_Valid_table t H, Option.bind_some, redB]
  by_cases h1 : tableErr t = 0
  · have b1 : (tableErr t != 0) = false := by simp [h1]
    rw [if_neg (show ¬ (tableErr t != 0) = true by rw [b1]; simp), if_neg (show ¬ tableErr t ≠ 0 by simp [h1])]
    by_cases h2 : t.Rows.length > 200
    · have c2 : (t.Rows.length : Int) > 200 := by omega
      rw [if_pos c2, if_pos h2]
    · have c2 : ¬ (t.Rows.length : Int) > 200 := by omega
      rw [if_neg c2, if_neg h2, red_loop t pairs H hp, Option.bind_some]
      by_cases h3 : pairs.all (pairOk t) = true
      · have hs := hle h3
        have hn := allN_small (show t.Rows.length ≤ 200 by omega)
        rw [if_pos h3, if_pos h3]
        simp only [allN_int (show t.Rows.length ≤ 200 by omega)]
        by_cases h4 : t.Rows.length < 2
        · have hz := allN_zero.2 h4
          have m11 : ratio_Make 1 1 = some (ratioN 1 1, 0) := ratio_Make_nat 1 1 (by omega) (by omega) (by omega)
          rw [if_pos h4, if_pos (by rw [hz]; rfl), m11, Option.bind_some, one_one]
        · have hz : allN t.Rows.length ≠ 0 := fun h => h4 (allN_zero.1 h)
          have c : ¬ (((allN t.Rows.length : Nat) : Int) == 0) = true := by simp only [beq_iff_eq]; omega
          have hu := Union_eq [pairs] (by simp; omega) (by simp)
          rw [List.flatten_singleton] at hu
          have e : IntKind.i64.wrap (((allN t.Rows.length : Nat) : Int) - ((setA pairs).length : Int)) = ((allN t.Rows.length - (setA pairs).length : Nat) : Int) := by rw [wrap_i64 (by omega) (by omega)]; omega
          rw [if_neg c, if_neg h4, hu, Option.bind_some, e, ratio_Make_nat _ _ (by omega) (by omega) (by omega), Option.bind_some]
      · rw [if_neg h3, if_neg h3]
  · have b1 : (tableErr t != 0) = true := by simp [h1]
    simp [b1, h1]
theorem ref_Reduction_eq (t : Table) (pairs : List Arr2_int64) (H : TabOk t) (hp : pairs.length ≤ 1048575) (hle : pairs.all (pairOk t) = true → (setA pairs).length ≤ allN t.Rows.length) : drossref53_Reduction t pairs = some (redB t pairs) := by
  simp only [drossref53_Reduction, ref_Valid_table t H, Option.bind_some, redB]
  by_cases h1 : tableErr t = 0
  · have b1 : (tableErr t != 0) = false := by simp [h1]
    rw [if_neg (show ¬ (tableErr t != 0) = true by rw [b1]; simp), if_neg (show ¬ tableErr t ≠ 0 by simp [h1])]
    by_cases h2 : t.Rows.length > 200
    · have c2 : (t.Rows.length : Int) > 200 := by omega
      rw [if_pos c2, if_pos h2]
    · have c2 : ¬ (t.Rows.length : Int) > 200 := by omega
      rw [if_neg c2, if_neg h2, ref_red_loop t pairs H hp, Option.bind_some]
      by_cases h3 : pairs.all (pairOk t) = true
      · have hs := hle h3
        have hn := allN_small (show t.Rows.length ≤ 200 by omega)
        rw [if_pos h3, if_pos h3]
        simp only [allN_int (show t.Rows.length ≤ 200 by omega)]
        by_cases h4 : t.Rows.length < 2
        · have c4 : (t.Rows.length : Int) < 2 := by omega
          rw [if_pos c4, if_pos h4]
        · have c4 : ¬ (t.Rows.length : Int) < 2 := by omega
          have hz : allN t.Rows.length ≠ 0 := fun h => h4 (allN_zero.1 h)
          have hu := ref_Union_eq [pairs] (by simp; omega) (by simp)
          rw [List.flatten_singleton] at hu
          have e : IntKind.i64.wrap (((allN t.Rows.length : Nat) : Int) - ((setA pairs).length : Int)) = ((allN t.Rows.length - (setA pairs).length : Nat) : Int) := by rw [wrap_i64 (by omega) (by omega)]; omega
          rw [if_neg c4, if_neg h4, hu, Option.bind_some, e, ref_Of_nat _ _ (by omega) (by omega) (by omega), Option.bind_some]
      · rw [if_neg h3, if_neg h3]
  · have b1 : (tableErr t != 0) = true := by simp [h1]
    simp [b1, h1]

/-! ### the table of some strings -/
theorem tb_row {l : List Str} {i : Nat} (h : i < l.length) : (tb l).Rows[i]? = some (rowOf i l[i]) := by
  have := rowsFrom_get l 0 i l[i] (List.getElem?_eq_getElem h)
  rw [Nat.zero_add] at this; exact this
theorem tb_rows (l : List Str) : (tb l).Rows.length = l.length := rowsFrom_len l 0
theorem tb_find {l : List Str} {id : Int} : (findB (tb l) id).2 = true ↔ ∃ i : Nat, i < l.length ∧ id = 1 + 2 * (i : Int) := by
  unfold findB
  cases h : (tb l).Rows.findIdx? (fun r => r.ID == id) with
  | none =>
    simp only [Bool.false_eq_true, false_iff]
    rintro ⟨i, hi, rfl⟩
    rw [List.findIdx?_eq_none_iff] at h
    have := h _ (List.mem_of_getElem? (tb_row hi))
    simp [rowOf] at this
  | some i =>
    simp only [true_iff]
    rw [List.findIdx?_eq_some_iff_getElem] at h
    obtain ⟨hi, h1, _⟩ := h
    have hi' : i < l.length := by rw [← tb_rows]; exact hi
    refine ⟨i, hi', ?_⟩
    have := tb_row hi'
    rw [List.getElem?_eq_getElem hi] at this
    rw [Option.some.inj this] at h1
    simp only [rowOf, beq_iff_eq] at h1
    exact h1.symm
def oddPair (i k : Nat) : Arr2_int64 := ⟨1 + 2 * (i : Int), 1 + 2 * (k : Int)⟩
theorem odd_len {n : Nat} (h : n ≤ 8) : (pairs53 n (fun _ _ => true) oddPair).length = allN n := by
  rw [pairs53_map, List.length_map, pairs53_all h]; rfl
theorem tb_pairOk {l : List Str} {p : Arr2_int64} : pairOk (tb l) p = true ↔ p ∈ pairs53 l.length (fun _ _ => true) oddPair := by
  unfold pairOk
  rw [Bool.and_eq_true, Bool.and_eq_true, tb_find, tb_find, decide_eq_true_eq, mem_pairs53]
  constructor
  · rintro ⟨⟨⟨i, hi, e1⟩, ⟨k, hk, e2⟩⟩, hlt⟩
    refine ⟨i, k, by omega, hk, rfl, ?_⟩
    cases p
    simp only at e1 e2
    unfold oddPair
    rw [e1, e2]
  · rintro ⟨i, k, h1, h2, _, rfl⟩
    exact ⟨⟨⟨i, by omega, rfl⟩, ⟨k, h2, rfl⟩⟩, by simp only [oddPair]; omega⟩
theorem tb_bound {l : List Str} (hl : l.length ≤ 8) {pairs : List Arr2_int64} (h : pairs.all (pairOk (tb l)) = true) : (setA pairs).length ≤ allN (tb l).Rows.length := by
  rw [tb_rows, ← odd_len hl]
  refine len_le_of_sub (ascA_nodup (setA_asc pairs)) fun x hx => ?_
  rw [setA_mem] at hx
  exact tb_pairOk.1 (List.all_eq_true.1 h x hx)
end Go.Proofs.YtbiklagfjeileaaGreat
/- BlockingReduction answers true. -/
set_option linter.unusedVariables false
set_option linter.unusedSimpArgs false
namespace Go.Proofs.YtbiklagfjeileaaGreat
open Go Go.Ab
theorem BlockingReduction_holds (l : List Str) (pairs : List Arr2_int64) (hl : okL okS l) (hp : okL okArr2_int64 pairs) : drosslaw53_BlockingReduction l pairs = some true := by
  simp only [drosslaw53_BlockingReduction, RTable_eq l (by have := hl.1; omega), Option.bind_some, awakeK_true, if_true]
  by_cases ha : l.all (fun x => decide (x.length ≤ 12)) = true
  · by_cases h8 : l.length ≤ 8
    · by_cases h30 : (pairs.length : Int) > 30
      · simp [ha, h8, h30]
      · have H := tb_ok ha (by omega)
        have r2 : roomB pairs.length 16 = true := room16 (by omega)
        simp only [ha, if_true, h8, decide_true, h30, decide_false, Bool.false_eq_true, if_false, slices_Clone__2_int64, r2, Option.bind_some, Reduction_eq (tb l) pairs H (by omega) (tb_bound h8), ref_Reduction_eq (tb l) pairs H (by omega) (tb_bound h8), beq_self_eq_true, Bool.and_self]
    · simp [ha, h8]
  · simp [ha]
end Go.Proofs.YtbiklagfjeileaaGreat

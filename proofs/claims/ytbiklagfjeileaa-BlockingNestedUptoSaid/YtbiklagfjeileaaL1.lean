/- The Lean functions that the program's functions are lifted to, and the plain laws about them. -/
import Derived.Lib.Repeat
import Derived.Test.YtbiklagfjeileaaA2
set_option linter.unusedVariables false
set_option linter.unusedSimpArgs false
namespace Go.Proofs.Ytbiklagfjeileaa
open Go Go.Ab
structure Value where
  Kind : Int
  Num : Int
  Str : List UInt8
  deriving DecidableEq
structure Row where
  ID : Int
  Values : List Value
  deriving DecidableEq
structure Table where
  Name : List UInt8
  Attrs : List (List UInt8)
  Rows : List Row
  deriving DecidableEq
structure Arr2_int64 where
  x0 : Int
  x1 : Int
  deriving DecidableEq
structure Arr2_uint8 where
  x0 : Int
  x1 : Int
  deriving DecidableEq
noncomputable def drossref53_Table_l1 (l_1 : List (List UInt8)) : (List Row × Int) → Option (LS (List Row × Int) ((List Row) ⊕ (Table × Bool))) := fun (t_29, i_30) =>
  if i_30 < (l_1.length : Int) then
  (idx l_1 i_30).bind fun (x_60 : List UInt8) =>
  if (x_60.length : Int) > 12 then
  some (.done (.inr ((Table.mk [] [] []), false)))
  else
  if (x_60 == [63]) = true then
  if roomB (t_29.length + 1) 32 = true then
  some (.next ((t_29 ++ [(Row.mk (IntKind.i64.wrap (1 + (IntKind.i64.wrap (2 * i_30)))) [(Value.mk 0 0 [])])]), (IntKind.i64.wrap (i_30 + 1))))
  else none
  else
  (show Option (Bool) from
  if ((x_60.length : Int) == 1) = true then
  (x_60[0]?).bind fun (c_77 : UInt8) =>
  if ((c_77.toNat : Nat) : Int) ≥ 48 then
  some (decide (((c_77.toNat : Nat) : Int) ≤ 57))
  else
  some false
  else
  some false).bind (fun t54_71 =>
  if t54_71 = true then
  (x_60[0]?).bind fun (c_81 : UInt8) =>
  if roomB (t_29.length + 1) 32 = true then
  some (.next ((t_29 ++ [(Row.mk (IntKind.i64.wrap (1 + (IntKind.i64.wrap (2 * i_30)))) [(Value.mk 1 (IntKind.i64.wrap (IntKind.u8.wrap (((c_81.toNat : Nat) : Int) - 48))) [])])]), (IntKind.i64.wrap (i_30 + 1))))
  else none
  else
  if roomB (t_29.length + 1) 32 = true then
  some (.next ((t_29 ++ [(Row.mk (IntKind.i64.wrap (1 + (IntKind.i64.wrap (2 * i_30)))) [(Value.mk 2 0 x_60)])]), (IntKind.i64.wrap (i_30 + 1))))
  else none)
  else
  some (.done (.inl t_29))
noncomputable def drossref53_Table (l_1 : List (List UInt8)) : Option (Table × Bool) :=
  (LoopF (drossref53_Table_l1 l_1) ([], 0)).bind (fun o => match o with
  | .inl t_58 =>
  some ((Table.mk [114] [[97]] t_58), (decide ((l_1.length : Int) ≤ 8)))
  | .inr r_88 =>
  some r_88)
noncomputable def table_isName_l1 (s_92 : List UInt8) : Int → Option (LS (Int) ((Unit) ⊕ (Bool))) := fun t19_119 =>
  if t19_119 < (s_92.length : Int) then
  (idx s_92 t19_119).bind fun (c_150 : UInt8) =>
  (show Option (Bool) from
  if ((c_150.toNat : Nat) : Int) ≥ 97 then
  if ((c_150.toNat : Nat) : Int) ≤ 122 then
  some true
  else
  if ((c_150.toNat : Nat) : Int) ≥ 65 then
  if ((c_150.toNat : Nat) : Int) ≤ 90 then
  some true
  else
  some (((c_150.toNat : Nat) : Int) == 95)
  else
  some (((c_150.toNat : Nat) : Int) == 95)
  else
  if ((c_150.toNat : Nat) : Int) ≥ 65 then
  if ((c_150.toNat : Nat) : Int) ≤ 90 then
  some true
  else
  some (((c_150.toNat : Nat) : Int) == 95)
  else
  some (((c_150.toNat : Nat) : Int) == 95)).bind (fun letter_158 =>
  if letter_158 = true then
  some (.next (IntKind.i64.wrap (t19_119 + 1)))
  else
  if (t19_119 == 0) = true then
  some (.done (.inr false))
  else
  if ((c_150.toNat : Nat) : Int) < 48 then
  some (.done (.inr false))
  else
  if ((c_150.toNat : Nat) : Int) > 57 then
  some (.done (.inr false))
  else
  some (.next (IntKind.i64.wrap (t19_119 + 1))))
  else
  some (.done (.inl ()))
noncomputable def table_isName (s_92 : List UInt8) : Option (Bool) :=
  if (s_92 == []) = true then
  some false
  else
  if (s_92.length : Int) > 24 then
  some false
  else
  if (s_92 == [110, 117, 108, 108]) = true then
  some false
  else
  (LoopF (table_isName_l1 s_92) 0).bind (fun o => match o with
  | .inl () =>
  some true
  | .inr r_174 =>
  some r_174)
noncomputable def slices_Index_string_l1 (s_178 : List (List UInt8)) (v_179 : List UInt8) : Int → Option (LS (Int) ((Unit) ⊕ (Int))) := fun t8_185 =>
  if t8_185 < (s_178.length : Int) then
  (idx s_178 t8_185).bind fun (x_193 : List UInt8) =>
  if (v_179 == x_193) = true then
  some (.done (.inr t8_185))
  else
  some (.next (IntKind.i64.wrap (t8_185 + 1)))
  else
  some (.done (.inl ()))
noncomputable def slices_Index_string (s_178 : List (List UInt8)) (v_179 : List UInt8) : Option (Int) :=
  (LoopF (slices_Index_string_l1 s_178 v_179) 0).bind (fun o => match o with
  | .inl () =>
  some (-1)
  | .inr r_198 =>
  some r_198)
noncomputable def slices_Contains_string (s_202 : List (List UInt8)) (v_203 : List UInt8) : Option (Bool) :=
  (slices_Index_string s_202 v_203).bind fun (r_204 : Int) =>
  some (decide (r_204 ≥ 0))
noncomputable def slices_IndexFunc_Value_l1 (s_207 : List Value) (f_208 : Value → Option (Bool)) : Int → Option (LS (Int) ((Unit) ⊕ (Int))) := fun t8_218 =>
  if t8_218 < (s_207.length : Int) then
  (idx s_207 t8_218).bind fun (x_228 : Value) =>
  (f_208 x_228).bind fun (r_230 : Bool) =>
  if r_230 = true then
  some (.done (.inr t8_218))
  else
  some (.next (IntKind.i64.wrap (t8_218 + 1)))
  else
  some (.done (.inl ()))
noncomputable def slices_IndexFunc_Value (s_207 : List Value) (f_208 : Value → Option (Bool)) : Option (Int) :=
  (LoopF (slices_IndexFunc_Value_l1 s_207 f_208) 0).bind (fun o => match o with
  | .inl () =>
  some (-1)
  | .inr r_235 =>
  some r_235)
noncomputable def slices_ContainsFunc_Value (s_239 : List Value) (f_240 : Value → Option (Bool)) : Option (Bool) :=
  (slices_IndexFunc_Value s_239 f_240).bind fun (r_243 : Int) =>
  some (decide (r_243 ≥ 0))
noncomputable def value_Valid (v_246 : Value) : Option (Bool) :=
  if (v_246.Kind == 0) = true then
  if (v_246.Num == 0) = true then
  some (v_246.Str == [])
  else
  some false
  else
  if (v_246.Kind == 1) = true then
  some (v_246.Str == [])
  else
  if (v_246.Kind == 2) = true then
  if (v_246.Num == 0) = true then
  some (decide ((v_246.Str.length : Int) ≤ 200))
  else
  some false
  else
  if (v_246.Kind == 3) = true then
  if v_246.Num ≥ 1 then
  some (v_246.Str == [])
  else
  some false
  else
  some false
noncomputable def table_validValues_1 (v_255 : Value) : Option (Bool) :=
  (value_Valid v_255).bind fun (r_256 : Bool) =>
  some (!r_256)
noncomputable def table_validValues (l_259 : List Value) : Option (Bool) :=
  (slices_ContainsFunc_Value l_259 (fun (y_260 : Value) => table_validValues_1 y_260)).bind fun (r_261 : Bool) =>
  some (!r_261)
noncomputable def table_Valid_l1 (t_264 : Table) : Int → Option (LS (Int) ((Unit) ⊕ (Int))) := fun t25_284 =>
  if t25_284 < (t_264.Attrs.length : Int) then
  (idx t_264.Attrs t25_284).bind fun (x_305 : List UInt8) =>
  (table_isName x_305).bind fun (r_307 : Bool) =>
  if r_307 = true then
  if (0 : Int) ≤ t25_284 then
  if t25_284 ≤ (t_264.Attrs.length : Int) then
  (slices_Contains_string (t_264.Attrs.take (t25_284.toNat)) x_305).bind fun (r_314 : Bool) =>
  if r_314 = true then
  some (.done (.inr 1))
  else
  some (.next (IntKind.i64.wrap (t25_284 + 1)))
  else none
  else none
  else
  some (.done (.inr 1))
  else
  some (.done (.inl ()))
noncomputable def table_Valid_l2 (t_264 : Table) : (Int × Int) → Option (LS (Int × Int) ((Unit) ⊕ (Int))) := fun (last_330, t45_331) =>
  if t45_331 < (t_264.Rows.length : Int) then
  (idx t_264.Rows t45_331).bind fun (x_347 : Row) =>
  if x_347.ID ≤ last_330 then
  some (.done (.inr 1))
  else
  if ((x_347.Values.length : Int) != (t_264.Attrs.length : Int)) = true then
  some (.done (.inr 6))
  else
  (table_validValues x_347.Values).bind fun (r_351 : Bool) =>
  if r_351 = true then
  some (.next (x_347.ID, (IntKind.i64.wrap (t45_331 + 1))))
  else
  some (.done (.inr 1))
  else
  some (.done (.inl ()))
noncomputable def table_Valid (t_264 : Table) : Option (Int) :=
  (table_isName t_264.Name).bind fun (r_265 : Bool) =>
  if r_265 = true then
  if (t_264.Attrs.length : Int) > 16 then
  some 3
  else
  if (t_264.Rows.length : Int) > 1000 then
  some 3
  else
  (LoopF (table_Valid_l1 t_264) 0).bind (fun o => match o with
  | .inl () =>
  (LoopF (table_Valid_l2 t_264) (0, 0)).bind (fun o => match o with
  | .inl () =>
  some 0
  | .inr r_356 =>
  some r_356)
  | .inr r_359 =>
  some r_359)
  else
  some 1
noncomputable def blocking_check (t_363 : Table) (attr_364 : Int) (right_365 : Bool) : Option (Int) :=
  (table_Valid t_363).bind fun (r_366 : Int) =>
  if (r_366 != 0) = true then
  some r_366
  else
  if (t_363.Rows.length : Int) > 200 then
  some 3
  else
  (show Option (Bool) from
  if attr_364 < 0 then
  some true
  else
  some (decide (attr_364 ≥ (t_363.Attrs.length : Int)))).bind (fun t18_371 =>
  if t18_371 = true then
  some 6
  else
  if right_365 = true then
  some 0
  else
  some 7)
noncomputable def slices_IndexFunc_string_l1 (s_379 : List (List UInt8)) (f_380 : (List UInt8) → Option (Bool)) : Int → Option (LS (Int) ((Unit) ⊕ (Int))) := fun t8_390 =>
  if t8_390 < (s_379.length : Int) then
  (idx s_379 t8_390).bind fun (x_400 : List UInt8) =>
  (f_380 x_400).bind fun (r_402 : Bool) =>
  if r_402 = true then
  some (.done (.inr t8_390))
  else
  some (.next (IntKind.i64.wrap (t8_390 + 1)))
  else
  some (.done (.inl ()))
noncomputable def slices_IndexFunc_string (s_379 : List (List UInt8)) (f_380 : (List UInt8) → Option (Bool)) : Option (Int) :=
  (LoopF (slices_IndexFunc_string_l1 s_379 f_380) 0).bind (fun o => match o with
  | .inl () =>
  some (-1)
  | .inr r_407 =>
  some r_407)
noncomputable def slices_ContainsFunc_string (s_411 : List (List UInt8)) (f_412 : (List UInt8) → Option (Bool)) : Option (Bool) :=
  (slices_IndexFunc_string s_411 f_412).bind fun (r_415 : Int) =>
  some (decide (r_415 ≥ 0))
noncomputable def similarity_long_1 (s_418 : List UInt8) : Option (Bool) :=
  some (decide ((s_418.length : Int) > 200))
noncomputable def similarity_long (l_420 : List (List UInt8)) : Option (Bool) :=
  (slices_ContainsFunc_string l_420 (fun (y_421 : List UInt8) => similarity_long_1 y_421)).bind fun (r_422 : Bool) =>
  some r_422
noncomputable def strings_Repeat (x : List UInt8) (n : Int) : Option (List UInt8) := repF x n
noncomputable def cmp_isNaN_string (x_457 : List UInt8) : Option (Bool) :=
  some (!(x_457 == x_457))
noncomputable def similarity_Grams_l1 (s_554 : List UInt8) (q_555 : Int) (w_575 : List UInt8) : (List (List UInt8) × Int) → Option (LS (List (List UInt8) × Int) (List (List UInt8))) := fun (out_582, t32_583) =>
  if t32_583 < (IntKind.i64.wrap ((IntKind.i64.wrap ((s_554.length : Int) + q_555)) - 1)) then
  if 0 ≤ t32_583 then
  if t32_583 ≤ (IntKind.i64.wrap (t32_583 + q_555)) then
  if (IntKind.i64.wrap (t32_583 + q_555)) ≤ (w_575.length : Int) then
  if roomB (out_582.length + 1) 16 = true then
  some (.next ((out_582 ++ [((w_575.drop t32_583.toNat).take ((IntKind.i64.wrap (t32_583 + q_555)).toNat - t32_583.toNat))]), (IntKind.i64.wrap (t32_583 + 1))))
  else none
  else none
  else none
  else none
  else
  some (.done out_582)
noncomputable def similarity_Grams (s_554 : List UInt8) (q_555 : Int) : Option (List (List UInt8) × Int) :=
  (similarity_long [s_554]).bind fun (r_556 : Bool) =>
  if r_556 = true then
  some ([], 3)
  else
  if q_555 < 1 then
  some ([], 7)
  else
  if q_555 > 4 then
  some ([], 7)
  else
  (strings_Repeat [1] (IntKind.i64.wrap (q_555 - 1))).bind fun (r_563 : List UInt8) =>
  if r_563.length + s_554.length ≤ 9223372036854775807 then
  (some (r_563 ++ s_554)).bind fun (w_572 : List UInt8) =>
  if w_572.length + r_563.length ≤ 9223372036854775807 then
  (some (w_572 ++ r_563)).bind fun (w_575 : List UInt8) =>
  (LoopF (similarity_Grams_l1 s_554 q_555 w_575) ([], 0)).bind (fun out_590 =>
  (srtSF out_590).bind fun (l_599 : List (List UInt8)) =>
  some (l_599, 0))
  else none
  else none
noncomputable def blocking_pairs_l3 (t_604 : Table) (ok_605 : Int → Int → Option (Bool)) (t11_651 : Int) : (List Arr2_int64 × Int) → Option (LS (List Arr2_int64 × Int) (List Arr2_int64)) := fun (out_707, k_708) =>
  if k_708 < (t_604.Rows.length : Int) then
  (ok_605 t11_651 k_708).bind fun (r_724 : Bool) =>
  if r_724 = true then
  (idx t_604.Rows t11_651).bind fun (x_727 : Row) =>
  (idx t_604.Rows k_708).bind fun (x_729 : Row) =>
  if roomB (out_707.length + 1) 16 = true then
  some (.next ((out_707 ++ [(Arr2_int64.mk x_727.ID x_729.ID)]), (IntKind.i64.wrap (k_708 + 1))))
  else none
  else
  some (.next (out_707, (IntKind.i64.wrap (k_708 + 1))))
  else
  some (.done out_707)
noncomputable def blocking_pairs_l4 (t_604 : Table) (ok_605 : Int → Int → Option (Bool)) : (List Arr2_int64 × Int) → Option (LS (List Arr2_int64 × Int) (List Arr2_int64)) := fun (out_650, t11_651) =>
  if t11_651 < (t_604.Rows.length : Int) then
  (LoopF (blocking_pairs_l3 t_604 ok_605 t11_651) (out_650, (IntKind.i64.wrap (t11_651 + 1)))).bind (fun out_720 =>
  some (.next (out_720, (IntKind.i64.wrap (t11_651 + 1)))))
  else
  some (.done out_650)
noncomputable def blocking_pairs (t_604 : Table) (ok_605 : Int → Int → Option (Bool)) : Option (List Arr2_int64) :=
  (LoopF (blocking_pairs_l4 t_604 ok_605) ([], 0)).bind (fun out_693 =>
  some out_693)
noncomputable def cmp_Or_int_l1 (vals_739 : List Int) : Int → Option (LS (Int) ((Unit) ⊕ (Int))) := fun t8_747 =>
  if t8_747 < (vals_739.length : Int) then
  (idx vals_739 t8_747).bind fun (x_759 : Int) =>
  if (x_759 != 0) = true then
  some (.done (.inr x_759))
  else
  some (.next (IntKind.i64.wrap (t8_747 + 1)))
  else
  some (.done (.inl ()))
noncomputable def cmp_Or_int (vals_739 : List Int) : Option (Int) :=
  (LoopF (cmp_Or_int_l1 vals_739) 0).bind (fun o => match o with
  | .inl () =>
  some 0
  | .inr r_764 =>
  some r_764)
noncomputable def cmp_isNaN_int (x_768 : Int) : Option (Bool) :=
  some (x_768 != x_768)
noncomputable def cmp_Compare_int (x_770 : Int) (y_771 : Int) : Option (Int) :=
  (cmp_isNaN_int x_770).bind fun (r_774 : Bool) =>
  (cmp_isNaN_int y_771).bind fun (r_778 : Bool) =>
  if r_774 = true then
  if r_778 = true then
  some 0
  else
  some (-1)
  else
  if r_778 = true then
  some 1
  else
  if x_770 < y_771 then
  some (-1)
  else
  if x_770 > y_771 then
  some 1
  else
  some 0
noncomputable def cmp_isNaN_int64 (x_786 : Int) : Option (Bool) :=
  some (x_786 != x_786)
noncomputable def cmp_Compare_int64 (x_788 : Int) (y_789 : Int) : Option (Int) :=
  (cmp_isNaN_int64 x_788).bind fun (r_792 : Bool) =>
  (cmp_isNaN_int64 y_789).bind fun (r_796 : Bool) =>
  if r_792 = true then
  if r_796 = true then
  some 0
  else
  some (-1)
  else
  if r_796 = true then
  some 1
  else
  if x_788 < y_789 then
  some (-1)
  else
  if x_788 > y_789 then
  some 1
  else
  some 0
noncomputable def bytealg_CompareString (a_804 : List UInt8) (b_805 : List UInt8) : Option (Int) :=
  some (Lib.compareBytes a_804 b_805)
noncomputable def strings_Compare (a_809 : List UInt8) (b_810 : List UInt8) : Option (Int) :=
  (bytealg_CompareString a_809 b_810).bind fun (r_811 : Int) =>
  some r_811
noncomputable def value_Compare (a_814 : Value) (b_815 : Value) : Option (Int) :=
  (cmp_Compare_int a_814.Kind b_815.Kind).bind fun (r_816 : Int) =>
  (cmp_Compare_int64 a_814.Num b_815.Num).bind fun (r_818 : Int) =>
  (strings_Compare a_814.Str b_815.Str).bind fun (r_820 : Int) =>
  (cmp_Or_int [r_816, r_818, r_820]).bind fun (r_822 : Int) =>
  some r_822
noncomputable def blocking_alike_1 (i_825 : Int) (k_826 : Int) (c_827 : Table) (c_828 : Int) (c_829 : Int → Int → Option (Bool)) : Option (Bool) :=
  (idx c_827.Rows i_825).bind fun (x_841 : Row) =>
  (idx x_841.Values c_828).bind fun (x_843 : Value) =>
  (idx c_827.Rows k_826).bind fun (x_845 : Row) =>
  (idx x_845.Values c_828).bind fun (x_847 : Value) =>
  (show Option (Bool) from
  if (x_843.Kind == 2) = true then
  some (x_847.Kind == 2)
  else
  some false).bind (fun t35_850 =>
  if t35_850 = true then
  (c_829 i_825 k_826).bind fun (r_855 : Bool) =>
  some r_855
  else
  (value_Compare x_843 x_847).bind fun (r_857 : Int) =>
  some (r_857 == 0))
noncomputable def blocking_alike (t_861 : Table) (attr_862 : Int) (ok_863 : Int → Int → Option (Bool)) : Option (Unit) :=
  some ()
noncomputable def cmp_Compare_string (x_868 : List UInt8) (y_869 : List UInt8) : Option (Int) :=
  (cmp_isNaN_string x_868).bind fun (r_872 : Bool) =>
  (cmp_isNaN_string y_869).bind fun (r_876 : Bool) =>
  if r_872 = true then
  if r_876 = true then
  some 0
  else
  some (-1)
  else
  if r_876 = true then
  some 1
  else
  if (Op.bytesLess x_868 y_869) = true then
  some (-1)
  else
  if (x_868 == y_869) = true then
  some 0
  else
  some 1
noncomputable def blocking_common_l1 (a_884 : List (List UInt8)) (b_885 : List (List UInt8)) : (Int × Int × Int) → Option (LS (Int × Int × Int) (Int)) := fun (n_902, i_903, k_904) =>
  if i_903 < (a_884.length : Int) then
  if k_904 < (b_885.length : Int) then
  (idx a_884 i_903).bind fun (x_930 : List UInt8) =>
  (idx b_885 k_904).bind fun (x_932 : List UInt8) =>
  (cmp_Compare_string x_930 x_932).bind fun (r_934 : Int) =>
  if r_934 < 0 then
  some (.next (n_902, (IntKind.i64.wrap (i_903 + 1)), k_904))
  else
  if r_934 > 0 then
  some (.next (n_902, i_903, (IntKind.i64.wrap (k_904 + 1))))
  else
  some (.next ((IntKind.i64.wrap (n_902 + 1)), (IntKind.i64.wrap (i_903 + 1)), (IntKind.i64.wrap (k_904 + 1))))
  else
  some (.done n_902)
  else
  some (.done n_902)
noncomputable def blocking_common (a_884 : List (List UInt8)) (b_885 : List (List UInt8)) : Option (Int) :=
  (LoopF (blocking_common_l1 a_884 b_885) (0, 0, 0)).bind (fun n_921 =>
  some n_921)
noncomputable def blocking_Filter_1 (a_942 : Int) (b_943 : Int) (c_944 : List Int) (c_945 : Int) (c_946 : List (List (List UInt8))) (c_947 : Int) : Option (Bool) :=
  (idx c_944 a_942).bind fun (x_952 : Int) =>
  (idx c_944 b_943).bind fun (x_954 : Int) =>
  if (if (IntKind.i64.wrap (x_954 - x_952)) > (IntKind.i64.wrap (x_952 - x_954)) then (IntKind.i64.wrap (x_954 - x_952)) else (IntKind.i64.wrap (x_952 - x_954))) ≤ c_945 then
  (idx c_946 a_942).bind fun (x_959 : List (List UInt8)) =>
  (idx c_946 b_943).bind fun (x_963 : List (List UInt8)) =>
  (blocking_common x_959 x_963).bind fun (r_965 : Int) =>
  some (decide (r_965 ≥ (IntKind.i64.wrap ((IntKind.i64.wrap ((IntKind.i64.wrap ((if x_954 > x_952 then x_954 else x_952) + c_947)) - 1)) - (IntKind.i64.wrap (c_945 * c_947))))))
  else
  some false
noncomputable def blocking_Filter_l1 (t_968 : Table) (attr_969 : Int) (q_971 : Int) : (List (List (List UInt8)) × List Int × Int) → Option (LS (List (List (List UInt8)) × List Int × Int) ((List (List (List UInt8)) × List Int) ⊕ (List Arr2_int64 × Int))) := fun (grams_1024, size_1025, t49_1026) =>
  if t49_1026 < (t_968.Rows.length : Int) then
  (idx t_968.Rows t49_1026).bind fun (x_1053 : Row) =>
  (idx x_1053.Values attr_969).bind fun (x_1057 : Value) =>
  if (x_1057.Kind == 2) = true then
  (similarity_Grams x_1057.Str q_971).bind fun (r_1062 : List (List UInt8) × Int) =>
  if (r_1062.2 != 0) = true then
  some (.done (.inr ([], r_1062.2)))
  else
  (idx grams_1024 t49_1026).bind fun (x_1065 : List (List UInt8)) =>
  (idx size_1025 t49_1026).bind fun (x_1067 : Int) =>
  some (.next ((grams_1024.set t49_1026.toNat r_1062.1), (size_1025.set t49_1026.toNat (x_1057.Str.length : Int)), (IntKind.i64.wrap (t49_1026 + 1))))
  else
  some (.next (grams_1024, size_1025, (IntKind.i64.wrap (t49_1026 + 1))))
  else
  some (.done (.inl (grams_1024, size_1025)))
noncomputable def blocking_Filter (t_968 : Table) (attr_969 : Int) (k_970 : Int) (q_971 : Int) : Option (List Arr2_int64 × Int) :=
  (show Option (Int) from
  if k_970 ≥ 0 then
  if k_970 ≤ 200 then
  if q_971 ≥ 1 then
  (blocking_check t_968 attr_969 (decide (q_971 ≤ 4))).bind fun (r_989 : Int) =>
  some r_989
  else
  (blocking_check t_968 attr_969 false).bind fun (r_991 : Int) =>
  some r_991
  else
  (blocking_check t_968 attr_969 false).bind fun (r_993 : Int) =>
  some r_993
  else
  (blocking_check t_968 attr_969 false).bind fun (r_995 : Int) =>
  some r_995).bind (fun e_983 =>
  if (e_983 != 0) = true then
  some ([], e_983)
  else
  if 0 ≤ (t_968.Rows.length : Int) then
  if roomB t_968.Rows.length 24 = true then
  if roomB t_968.Rows.length 8 = true then
  (LoopF (blocking_Filter_l1 t_968 attr_969 q_971) ((List.replicate t_968.Rows.length []), (List.replicate t_968.Rows.length 0), 0)).bind (fun o => match o with
  | .inl (grams_1047, size_1048) =>
  (blocking_alike t_968 attr_969 (fun (y_1071 : Int) (y_1072 : Int) => blocking_Filter_1 y_1071 y_1072 size_1048 k_970 grams_1047 q_971)).bind fun (r_1073 : Unit) =>
  (blocking_pairs t_968 (fun (y_1077 : Int) (y_1078 : Int) => blocking_alike_1 y_1077 y_1078 t_968 attr_969 (fun (y_1075 : Int) (y_1076 : Int) => blocking_Filter_1 y_1075 y_1076 size_1048 k_970 grams_1047 q_971))).bind fun (r_1079 : List Arr2_int64) =>
  some (r_1079, 0)
  | .inr r_1081 =>
  some r_1081)
  else none
  else none
  else none)
noncomputable def blocking_Window_1 (i_1183 : Int) (k_1184 : Int) (c_1185 : Table) (c_1186 : Int) : Option (Int) :=
  (idx c_1185.Rows i_1183).bind fun (x_1187 : Row) =>
  (idx x_1187.Values c_1186).bind fun (x_1189 : Value) =>
  (idx c_1185.Rows k_1184).bind fun (x_1191 : Row) =>
  (idx x_1191.Values c_1186).bind fun (x_1193 : Value) =>
  (value_Compare x_1189 x_1193).bind fun (r_1195 : Int) =>
  (cmp_Compare_int i_1183 k_1184).bind fun (r_1197 : Int) =>
  (cmp_Or_int [r_1195, r_1197]).bind fun (r_1199 : Int) =>
  some r_1199
noncomputable def blocking_Window_2 (i_1202 : Int) (k_1203 : Int) (c_1204 : List Int) (c_1205 : Int) : Option (Bool) :=
  (idx c_1204 i_1202).bind fun (x_1206 : Int) =>
  (idx c_1204 k_1203).bind fun (x_1208 : Int) =>
  some (decide ((if (IntKind.i64.wrap (x_1208 - x_1206)) > (IntKind.i64.wrap (x_1206 - x_1208)) then (IntKind.i64.wrap (x_1208 - x_1206)) else (IntKind.i64.wrap (x_1206 - x_1208))) < c_1205))
noncomputable def blocking_Window_l1 (t_1211 : Table) : (List Int × Int) → Option (LS (List Int × Int) (List Int)) := fun (order_1236, t32_1237) =>
  if t32_1237 < ((t_1211.Rows.length : Nat) : Int) then
  (idx order_1236 t32_1237).bind fun (x_1245 : Int) =>
  some (.next ((order_1236.set t32_1237.toNat t32_1237), (IntKind.i64.wrap (t32_1237 + 1))))
  else
  some (.done order_1236)
noncomputable def blocking_Window_l2 (l_1254 : List Int) : (List Int × Int) → Option (LS (List Int × Int) (List Int)) := fun (place_1271, t48_1272) =>
  if t48_1272 < ((l_1254.length : Nat) : Int) then
  (idx l_1254 t48_1272).bind fun (x_1286 : Int) =>
  (idx place_1271 x_1286).bind fun (x_1288 : Int) =>
  some (.next ((place_1271.set x_1286.toNat t48_1272), (IntKind.i64.wrap (t48_1272 + 1))))
  else
  some (.done place_1271)
noncomputable def blocking_Window (t_1211 : Table) (attr_1212 : Int) (w_1213 : Int) : Option (List Arr2_int64 × Int) :=
  (show Option (Int) from
  if w_1213 ≥ 2 then
  (blocking_check t_1211 attr_1212 (decide (w_1213 ≤ 200))).bind fun (r_1223 : Int) =>
  some r_1223
  else
  (blocking_check t_1211 attr_1212 false).bind fun (r_1225 : Int) =>
  some r_1225).bind (fun e_1219 =>
  if (e_1219 != 0) = true then
  some ([], e_1219)
  else
  if 0 ≤ (t_1211.Rows.length : Int) then
  if roomB t_1211.Rows.length 8 = true then
  (LoopF (blocking_Window_l1 t_1211) ((List.replicate t_1211.Rows.length 0), 0)).bind (fun order_1242 =>
  (srtF (fun (y_1256 : Int) (y_1257 : Int) => blocking_Window_1 y_1256 y_1257 t_1211 attr_1212) order_1242).bind fun (l_1254 : List Int) =>
  if 0 ≤ ((l_1254.length : Nat) : Int) then
  if roomB l_1254.length 8 = true then
  (LoopF (blocking_Window_l2 l_1254) ((List.replicate l_1254.length 0), 0)).bind (fun place_1281 =>
  (blocking_pairs t_1211 (fun (y_1292 : Int) (y_1293 : Int) => blocking_Window_2 y_1292 y_1293 place_1281 w_1213)).bind fun (r_1294 : List Arr2_int64) =>
  some (r_1294, 0))
  else none
  else none)
  else none
  else none)
noncomputable def blocking_Prefix_1 (i_1300 : Int) (c_1301 : Table) (c_1302 : Int) (c_1303 : Int) : Option (List UInt8) :=
  (idx c_1301.Rows i_1300).bind fun (x_1308 : Row) =>
  (idx x_1308.Values c_1302).bind fun (x_1310 : Value) =>
  if (0 : Int) ≤ (if (x_1310.Str.length : Int) < c_1303 then (x_1310.Str.length : Int) else c_1303) then
  if (if (x_1310.Str.length : Int) < c_1303 then (x_1310.Str.length : Int) else c_1303) ≤ (x_1310.Str.length : Int) then
  some (x_1310.Str.take ((if (x_1310.Str.length : Int) < c_1303 then (x_1310.Str.length : Int) else c_1303).toNat))
  else none
  else none
noncomputable def blocking_Prefix_2 (i_1315 : Int) (k_1316 : Int) (c_1317 : Int → Option (List UInt8)) : Option (Bool) :=
  (c_1317 i_1315).bind fun (r_1320 : List UInt8) =>
  (c_1317 k_1316).bind fun (r_1322 : List UInt8) =>
  some (r_1320 == r_1322)
noncomputable def blocking_Prefix (t_1325 : Table) (attr_1326 : Int) (size_1327 : Int) : Option (List Arr2_int64 × Int) :=
  (show Option (Int) from
  if size_1327 ≥ 1 then
  (blocking_check t_1325 attr_1326 (decide (size_1327 ≤ 200))).bind fun (r_1337 : Int) =>
  some r_1337
  else
  (blocking_check t_1325 attr_1326 false).bind fun (r_1339 : Int) =>
  some r_1339).bind (fun e_1333 =>
  if (e_1333 != 0) = true then
  some ([], e_1333)
  else
  (blocking_alike t_1325 attr_1326 (fun (y_1343 : Int) (y_1344 : Int) => blocking_Prefix_2 y_1343 y_1344 (fun (y_1342 : Int) => blocking_Prefix_1 y_1342 t_1325 attr_1326 size_1327))).bind fun (r_1345 : Unit) =>
  (blocking_pairs t_1325 (fun (y_1350 : Int) (y_1351 : Int) => blocking_alike_1 y_1350 y_1351 t_1325 attr_1326 (fun (y_1348 : Int) (y_1349 : Int) => blocking_Prefix_2 y_1348 y_1349 (fun (y_1347 : Int) => blocking_Prefix_1 y_1347 t_1325 attr_1326 size_1327)))).bind fun (r_1352 : List Arr2_int64) =>
  some (r_1352, 0))
noncomputable def drossref53_Same_l1 (a_1356 : List Arr2_int64) (b_1357 : List Arr2_int64) : Int → Option (LS (Int) ((Unit) ⊕ (Bool))) := fun i_1365 =>
  if i_1365 < (a_1356.length : Int) then
  (idx a_1356 i_1365).bind fun (x_1373 : Arr2_int64) =>
  (idx b_1357 i_1365).bind fun (x_1375 : Arr2_int64) =>
  if ((x_1373.x0 == x_1375.x0) && (x_1373.x1 == x_1375.x1)) = true then
  some (.next (IntKind.i64.wrap (i_1365 + 1)))
  else
  some (.done (.inr false))
  else
  some (.done (.inl ()))
noncomputable def drossref53_Same (a_1356 : List Arr2_int64) (b_1357 : List Arr2_int64) : Option (Bool) :=
  if ((a_1356.length : Int) != (b_1357.length : Int)) = true then
  some false
  else
  (LoopF (drossref53_Same_l1 a_1356 b_1357) 0).bind (fun o => match o with
  | .inl () =>
  some true
  | .inr r_1380 =>
  some r_1380)
noncomputable def drosslaw53_awake : Option (Bool) :=
  (drossref53_Table [[115, 109, 105, 116, 104], [115, 109, 121, 116, 104], [115, 109, 105, 116, 104, 115, 111, 110], [106, 111, 110, 101, 115]]).bind fun (r_1386 : Table × Bool) =>
  (blocking_Prefix r_1386.1 0 3).bind fun (r_1390 : List Arr2_int64 × Int) =>
  (blocking_Filter r_1386.1 0 1 2).bind fun (r_1394 : List Arr2_int64 × Int) =>
  (blocking_Window r_1386.1 0 2).bind fun (r_1398 : List Arr2_int64 × Int) =>
  if r_1386.2 = true then
  if (r_1390.2 == 0) = true then
  if (r_1394.2 == 0) = true then
  if (r_1398.2 == 0) = true then
  (drossref53_Same r_1390.1 [(Arr2_int64.mk 1 5)]).bind fun (r_1404 : Bool) =>
  if r_1404 = true then
  (drossref53_Same r_1394.1 [(Arr2_int64.mk 1 3)]).bind fun (r_1407 : Bool) =>
  if r_1407 = true then
  (drossref53_Same r_1398.1 [(Arr2_int64.mk 1 5), (Arr2_int64.mk 1 7), (Arr2_int64.mk 3 5)]).bind fun (r_1410 : Bool) =>
  some r_1410
  else
  some false
  else
  some false
  else
  some false
  else
  some false
  else
  some false
  else
  some false
noncomputable def blocking_Exact_1 (i_1946 : Int) (k_1947 : Int) (c_1948 : Table) (c_1949 : Int) : Option (Bool) :=
  (idx c_1948.Rows i_1946).bind fun (x_1950 : Row) =>
  (idx x_1950.Values c_1949).bind fun (x_1952 : Value) =>
  (idx c_1948.Rows k_1947).bind fun (x_1954 : Row) =>
  (idx x_1954.Values c_1949).bind fun (x_1956 : Value) =>
  (value_Compare x_1952 x_1956).bind fun (r_1958 : Int) =>
  some (r_1958 == 0)
noncomputable def blocking_Exact (t_1961 : Table) (attr_1962 : Int) : Option (List Arr2_int64 × Int) :=
  (blocking_check t_1961 attr_1962 true).bind fun (r_1965 : Int) =>
  if (r_1965 != 0) = true then
  some ([], r_1965)
  else
  (blocking_pairs t_1961 (fun (y_1968 : Int) (y_1969 : Int) => blocking_Exact_1 y_1968 y_1969 t_1961 attr_1962)).bind fun (r_1970 : List Arr2_int64) =>
  some (r_1970, 0)
noncomputable def drossref53_Has_l1 (l_1973 : List Arr2_int64) (p_1974 : Arr2_int64) : Int → Option (LS (Int) ((Unit) ⊕ (Bool))) := fun i_1979 =>
  if i_1979 < (l_1973.length : Int) then
  (idx l_1973 i_1979).bind fun (x_1985 : Arr2_int64) =>
  if ((x_1985.x0 == p_1974.x0) && (x_1985.x1 == p_1974.x1)) = true then
  some (.done (.inr true))
  else
  some (.next (IntKind.i64.wrap (i_1979 + 1)))
  else
  some (.done (.inl ()))
noncomputable def drossref53_Has (l_1973 : List Arr2_int64) (p_1974 : Arr2_int64) : Option (Bool) :=
  (LoopF (drossref53_Has_l1 l_1973 p_1974) 0).bind (fun o => match o with
  | .inl () =>
  some false
  | .inr r_1990 =>
  some r_1990)
noncomputable def drossref53_Within_l1 (a_1994 : List Arr2_int64) (b_1995 : List Arr2_int64) : Int → Option (LS (Int) ((Unit) ⊕ (Bool))) := fun i_2002 =>
  if i_2002 < (a_1994.length : Int) then
  (idx a_1994 i_2002).bind fun (x_2010 : Arr2_int64) =>
  (drossref53_Has b_1995 x_2010).bind fun (r_2012 : Bool) =>
  if r_2012 = true then
  some (.next (IntKind.i64.wrap (i_2002 + 1)))
  else
  some (.done (.inr false))
  else
  some (.done (.inl ()))
noncomputable def drossref53_Within (a_1994 : List Arr2_int64) (b_1995 : List Arr2_int64) : Option (Bool) :=
  (LoopF (drossref53_Within_l1 a_1994 b_1995) 0).bind (fun o => match o with
  | .inl () =>
  some true
  | .inr r_2017 =>
  some r_2017)
noncomputable def drosslaw53_BlockingNested (l_2021 : List (List UInt8)) (n_2022 : Arr2_uint8) (q_2023 : Int) : Option (Bool) :=
  (drossref53_Table l_2021).bind fun (r_2026 : Table × Bool) =>
  (show Option (Bool) from
  (drosslaw53_awake ).bind fun (r_2034 : Bool) =>
  if r_2034 = true then
  some (!r_2026.2)
  else
  some true).bind (fun t36_2031 =>
  if t36_2031 = true then
  (drosslaw53_awake ).bind fun (r_2038 : Bool) =>
  some r_2038
  else
  (blocking_Window r_2026.1 0 (if (IntKind.i64.wrap (2 + (IntKind.i64.wrap (Int.tmod (if n_2022.x1 > n_2022.x0 then n_2022.x1 else n_2022.x0) 100)))) < (IntKind.i64.wrap (2 + (IntKind.i64.wrap (Int.tmod (if n_2022.x1 < n_2022.x0 then n_2022.x1 else n_2022.x0) 100)))) then (IntKind.i64.wrap (2 + (IntKind.i64.wrap (Int.tmod (if n_2022.x1 > n_2022.x0 then n_2022.x1 else n_2022.x0) 100)))) else (IntKind.i64.wrap (2 + (IntKind.i64.wrap (Int.tmod (if n_2022.x1 < n_2022.x0 then n_2022.x1 else n_2022.x0) 100)))))).bind fun (r_2042 : List Arr2_int64 × Int) =>
  (blocking_Window r_2026.1 0 (if (IntKind.i64.wrap (2 + (IntKind.i64.wrap (Int.tmod (if n_2022.x1 > n_2022.x0 then n_2022.x1 else n_2022.x0) 100)))) > (IntKind.i64.wrap (2 + (IntKind.i64.wrap (Int.tmod (if n_2022.x1 < n_2022.x0 then n_2022.x1 else n_2022.x0) 100)))) then (IntKind.i64.wrap (2 + (IntKind.i64.wrap (Int.tmod (if n_2022.x1 > n_2022.x0 then n_2022.x1 else n_2022.x0) 100)))) else (IntKind.i64.wrap (2 + (IntKind.i64.wrap (Int.tmod (if n_2022.x1 < n_2022.x0 then n_2022.x1 else n_2022.x0) 100)))))).bind fun (r_2046 : List Arr2_int64 × Int) =>
  (blocking_Prefix r_2026.1 0 (if (IntKind.i64.wrap (2 + (IntKind.i64.wrap (Int.tmod (if n_2022.x1 > n_2022.x0 then n_2022.x1 else n_2022.x0) 100)))) < (IntKind.i64.wrap (2 + (IntKind.i64.wrap (Int.tmod (if n_2022.x1 < n_2022.x0 then n_2022.x1 else n_2022.x0) 100)))) then (IntKind.i64.wrap (2 + (IntKind.i64.wrap (Int.tmod (if n_2022.x1 > n_2022.x0 then n_2022.x1 else n_2022.x0) 100)))) else (IntKind.i64.wrap (2 + (IntKind.i64.wrap (Int.tmod (if n_2022.x1 < n_2022.x0 then n_2022.x1 else n_2022.x0) 100)))))).bind fun (r_2050 : List Arr2_int64 × Int) =>
  (blocking_Prefix r_2026.1 0 (if (IntKind.i64.wrap (2 + (IntKind.i64.wrap (Int.tmod (if n_2022.x1 > n_2022.x0 then n_2022.x1 else n_2022.x0) 100)))) > (IntKind.i64.wrap (2 + (IntKind.i64.wrap (Int.tmod (if n_2022.x1 < n_2022.x0 then n_2022.x1 else n_2022.x0) 100)))) then (IntKind.i64.wrap (2 + (IntKind.i64.wrap (Int.tmod (if n_2022.x1 > n_2022.x0 then n_2022.x1 else n_2022.x0) 100)))) else (IntKind.i64.wrap (2 + (IntKind.i64.wrap (Int.tmod (if n_2022.x1 < n_2022.x0 then n_2022.x1 else n_2022.x0) 100)))))).bind fun (r_2054 : List Arr2_int64 × Int) =>
  (blocking_Filter r_2026.1 0 (IntKind.i64.wrap ((if (IntKind.i64.wrap (2 + (IntKind.i64.wrap (Int.tmod (if n_2022.x1 > n_2022.x0 then n_2022.x1 else n_2022.x0) 100)))) < (IntKind.i64.wrap (2 + (IntKind.i64.wrap (Int.tmod (if n_2022.x1 < n_2022.x0 then n_2022.x1 else n_2022.x0) 100)))) then (IntKind.i64.wrap (2 + (IntKind.i64.wrap (Int.tmod (if n_2022.x1 > n_2022.x0 then n_2022.x1 else n_2022.x0) 100)))) else (IntKind.i64.wrap (2 + (IntKind.i64.wrap (Int.tmod (if n_2022.x1 < n_2022.x0 then n_2022.x1 else n_2022.x0) 100))))) - 2)) (IntKind.i64.wrap (1 + (IntKind.i64.wrap (Int.tmod q_2023 4))))).bind fun (r_2058 : List Arr2_int64 × Int) =>
  (blocking_Filter r_2026.1 0 (IntKind.i64.wrap ((if (IntKind.i64.wrap (2 + (IntKind.i64.wrap (Int.tmod (if n_2022.x1 > n_2022.x0 then n_2022.x1 else n_2022.x0) 100)))) > (IntKind.i64.wrap (2 + (IntKind.i64.wrap (Int.tmod (if n_2022.x1 < n_2022.x0 then n_2022.x1 else n_2022.x0) 100)))) then (IntKind.i64.wrap (2 + (IntKind.i64.wrap (Int.tmod (if n_2022.x1 > n_2022.x0 then n_2022.x1 else n_2022.x0) 100)))) else (IntKind.i64.wrap (2 + (IntKind.i64.wrap (Int.tmod (if n_2022.x1 < n_2022.x0 then n_2022.x1 else n_2022.x0) 100))))) - 2)) (IntKind.i64.wrap (1 + (IntKind.i64.wrap (Int.tmod q_2023 4))))).bind fun (r_2062 : List Arr2_int64 × Int) =>
  (blocking_Exact r_2026.1 0).bind fun (r_2066 : List Arr2_int64 × Int) =>
  if (r_2042.2 != 0) = true then
  some false
  else
  if (r_2046.2 != 0) = true then
  some false
  else
  if (r_2050.2 != 0) = true then
  some false
  else
  if (r_2054.2 != 0) = true then
  some false
  else
  if (r_2058.2 != 0) = true then
  some false
  else
  if (r_2062.2 != 0) = true then
  some false
  else
  if (r_2066.2 != 0) = true then
  some false
  else
  (drossref53_Within r_2042.1 r_2046.1).bind fun (r_2075 : Bool) =>
  if r_2075 = true then
  (drossref53_Within r_2054.1 r_2050.1).bind fun (r_2078 : Bool) =>
  if r_2078 = true then
  (drossref53_Within r_2058.1 r_2062.1).bind fun (r_2081 : Bool) =>
  if r_2081 = true then
  (drossref53_Within r_2066.1 r_2054.1).bind fun (r_2084 : Bool) =>
  if r_2084 = true then
  (drossref53_Within r_2066.1 r_2058.1).bind fun (r_2087 : Bool) =>
  some r_2087
  else
  some false
  else
  some false
  else
  some false
  else
  some false)
end Go.Proofs.Ytbiklagfjeileaa
/- Loops over lists, in plain Lean. -/
set_option linter.unusedVariables false
set_option linter.unusedSimpArgs false
namespace Go.Ab
open Go

/-- a loop over a list: f says how to go on or how it ends -/
def foldR {α β τ : Type} (f : β → α → β ⊕ τ) (fin : β → τ) : List α → β → τ
  | [], b => fin b
  | x :: r, b => match f b x with
    | .inl b' => foldR f fin r b'
    | .inr t => t

theorem LoopF_foldR {α β σ τ : Type} (l : List α) (S : β → Int → σ) (B : σ → Option (LS σ τ)) (f : β → α → β ⊕ τ) (fin : β → τ) (I : Nat → β → Prop)
    (hs : ∀ (k : Nat) b x, l[k]? = some x → I k b → (∀ b', f b x = .inl b' → B (S b k) = some (.next (S b' (k + 1 : Nat))) ∧ I (k + 1) b') ∧ (∀ t, f b x = .inr t → B (S b k) = some (.done t)))
    (he : ∀ b, I l.length b → B (S b l.length) = some (.done (fin b))) :
    ∀ (r : List α) (k : Nat) (b : β), l.drop k = r → k ≤ l.length → I k b → LoopF B (S b k) = some (foldR f fin r b) := by
  intro r
  induction r with
  | nil =>
    intro k b hd hk hI
    have : k = l.length := by
      have := congrArg List.length hd
      simp at this; omega
    subst this
    exact Loop_done (he b hI)
  | cons x r ih =>
    intro k b hd hk hI
    have hx : l[k]? = some x := by
      have := congrArg (·[0]?) hd
      simpa [List.getElem?_drop] using this
    have hlt : k < l.length := (List.getElem?_eq_some_iff.1 hx).1
    have hd' : l.drop (k + 1) = r := by
      rw [← List.drop_drop, hd]; rfl
    obtain ⟨h1, h2⟩ := hs k b x hx hI
    cases hf : f b x with
    | inl b' =>
      obtain ⟨h3, h4⟩ := h1 b' hf
      rw [Loop_next h3, ih (k + 1) b' hd' hlt h4]
      simp [foldR, hf]
    | inr t =>
      rw [Loop_done (h2 t hf)]
      simp [foldR, hf]

theorem LoopF_list {α β σ τ : Type} (l : List α) (S : β → Int → σ) (B : σ → Option (LS σ τ)) (f : β → α → β ⊕ τ) (fin : β → τ) (I : Nat → β → Prop) {b0 : β} {s0 : σ} (h0 : s0 = S b0 0) (hI : I 0 b0)
    (hs : ∀ (k : Nat) b x, l[k]? = some x → k < l.length → I k b → (∀ b', f b x = .inl b' → B (S b k) = some (.next (S b' (k + 1 : Nat))) ∧ I (k + 1) b') ∧ (∀ t, f b x = .inr t → B (S b k) = some (.done t)))
    (he : ∀ b, I l.length b → B (S b l.length) = some (.done (fin b))) : LoopF B s0 = some (foldR f fin l b0) := by
  subst h0
  exact LoopF_foldR l S B f fin I (fun k b x hx => hs k b x hx (lt_of_get hx)) he l 0 b0 rfl (Nat.zero_le _) hI

theorem wrap_succ {k n : Nat} (h : k < n) (hn : n ≤ 4611686018427387904) : IntKind.i64.wrap ((k : Int) + 1) = ((k + 1 : Nat) : Int) := by
  rw [wrap_i64 (by omega) (by omega)]; omega
theorem wrap_nat {k : Nat} (h : k < 4611686018427387904) : IntKind.i64.wrap ((k : Int) + 1) = ((k + 1 : Nat) : Int) := by
  rw [wrap_i64 (by omega) (by omega)]; omega
theorem room_le {n b : Nat} (h : n ≤ 1073741824) (hb : b ≤ 65536) : roomB n b = true := by
  unfold roomB
  have : n * b ≤ 1073741824 * 65536 := Nat.mul_le_mul h hb
  simp only [decide_eq_true_eq]
  omega
theorem idx_get {α : Type} {l : List α} {k : Nat} {x : α} (h : l[k]? = some x) : idx l (k : Int) = some x := by rw [idx_nat, h]
theorem lt_true {α : Type} {l : List α} {k : Nat} {x : α} (h : l[k]? = some x) : ((k : Int) < (l.length : Int)) := by have := lt_of_get h; omega

/-! ### kinds of loops -/
theorem foldl_of {α β : Type} (g : β → α → β) : ∀ (l : List α) (b : β), foldR (fun b x => (Sum.inl (g b x) : β ⊕ β)) id l b = l.foldl g b
  | [], _ => rfl
  | x :: r, b => by simp only [foldR, List.foldl_cons]; exact foldl_of g r _
end Go.Ab
namespace Go.Ab
open Go
theorem LoopF_all {α ρ : Type} (l : List α) (B : Int → Option (LS Int (Unit ⊕ ρ))) (p : α → Bool) (bad : ρ)
    (h1 : ∀ (k : Nat) x, l[k]? = some x → k < l.length → p x = true → B k = some (.next (k + 1 : Nat))) (h2 : ∀ (k : Nat) x, l[k]? = some x → p x = false → B k = some (.done (.inr bad))) (h3 : B l.length = some (.done (.inl ()))) :
    LoopF B 0 = some (if l.all p then .inl () else .inr bad) := by
  have h := LoopF_list l (fun (_ : Unit) i => i) B (fun (_ : Unit) x => if p x then Sum.inl () else Sum.inr (Sum.inr bad)) (fun _ => Sum.inl ()) (fun _ _ => True) (b0 := ()) (s0 := 0) rfl trivial
    (fun k b x hx hk _ => by
      constructor
      · intro b' hf
        refine ⟨?_, trivial⟩
        rcases Bool.eq_false_or_eq_true (p x) with hp | hp
        · exact h1 k x hx hk hp
        · simp [hp] at hf
      · intro t hf
        rcases Bool.eq_false_or_eq_true (p x) with hp | hp
        · simp [hp] at hf
        · simp [hp] at hf; subst hf; exact h2 k x hx hp)
    (fun b _ => h3)
  rw [h]
  congr 1
  clear h h1 h2 h3
  induction l with
  | nil => rfl
  | cons x r ih => rcases Bool.eq_false_or_eq_true (p x) with hp | hp <;> simp [foldR, hp, ih]
theorem LoopF_find {α : Type} (l : List α) (B : Int → Option (LS Int (Unit ⊕ Int))) (p : α → Bool)
    (h1 : ∀ (k : Nat) x, l[k]? = some x → k < l.length → p x = false → B k = some (.next (k + 1 : Nat))) (h2 : ∀ (k : Nat) x, l[k]? = some x → p x = true → B k = some (.done (.inr k))) (h3 : B l.length = some (.done (.inl ()))) :
    LoopF B 0 = some (match l.findIdx? p with | some i => .inr (i : Int) | none => .inl ()) := by
  have key : ∀ (r : List α) (k : Nat), l.drop k = r → k ≤ l.length → LoopF B (k : Int) = some (match r.findIdx? p with | some i => .inr ((k + i : Nat) : Int) | none => .inl ()) := by
    intro r
    induction r with
    | nil =>
      intro k hd hk
      have : k = l.length := by
        have := congrArg List.length hd
        simp at this; omega
      subst this
      exact Loop_done h3
    | cons x r ih =>
      intro k hd hk
      have hx : l[k]? = some x := by
        have := congrArg (·[0]?) hd
        simpa [List.getElem?_drop] using this
      have hd' : l.drop (k + 1) = r := by rw [← List.drop_drop, hd]; rfl
      rcases Bool.eq_false_or_eq_true (p x) with hp | hp
      · rw [Loop_done (h2 k x hx hp)]
        simp [List.findIdx?_cons, hp]
      · rw [Loop_next (h1 k x hx (lt_of_get hx) hp), ih (k + 1) hd' (lt_of_get hx)]
        simp only [List.findIdx?_cons, hp]
        cases r.findIdx? p with
        | none => rfl
        | some i => simp; omega
  have := key l 0 (by simp) (Nat.zero_le _)
  simpa using this
end Go.Ab
namespace Go.Ab
open Go
/-! ### what is known of the arguments -/
def okI (k : IntKind) (n : Int) : Prop := (Lit.int k n).wf = true
def okS (s : List UInt8) : Prop := s.length ≤ 1048576
def okL {α : Type} (ok : α → Prop) (l : List α) : Prop := l.length ≤ 1048576 ∧ ∀ x ∈ l, ok x
end Go.Ab
namespace Go.Ab
open Go
/-- all elements, with their places -/
def allFrom {α : Type} (p : Nat → α → Bool) : Nat → List α → Bool
  | _, [] => true
  | k, x :: r => p k x && allFrom p (k + 1) r
theorem LoopF_allk {α ρ : Type} (l : List α) (B : Int → Option (LS Int (Unit ⊕ ρ))) (p : Nat → α → Bool) (bad : ρ)
    (h1 : ∀ (k : Nat) x, l[k]? = some x → k < l.length → p k x = true → B k = some (.next (k + 1 : Nat))) (h2 : ∀ (k : Nat) x, l[k]? = some x → p k x = false → B k = some (.done (.inr bad))) (h3 : B l.length = some (.done (.inl ()))) :
    ∀ (r : List α) (k : Nat), l.drop k = r → k ≤ l.length → LoopF B (k : Int) = some (if allFrom p k r then .inl () else .inr bad) := by
  intro r
  induction r with
  | nil =>
    intro k hd hk
    have : k = l.length := by
      have := congrArg List.length hd
      simp at this; omega
    subst this
    exact Loop_done h3
  | cons x r ih =>
    intro k hd hk
    have hx : l[k]? = some x := by
      have := congrArg (·[0]?) hd
      simpa [List.getElem?_drop] using this
    have hd' : l.drop (k + 1) = r := by rw [← List.drop_drop, hd]; rfl
    rcases Bool.eq_false_or_eq_true (p k x) with hp | hp
    · rw [Loop_next (h1 k x hx (lt_of_get hx) hp), ih (k + 1) hd' (lt_of_get hx)]
      simp [allFrom, hp]
    · rw [Loop_done (h2 k x hx hp)]
      simp [allFrom, hp]
theorem allFrom_all {α : Type} (q : α → Bool) : ∀ (l : List α) (k : Nat), allFrom (fun _ x => q x) k l = l.all q
  | [], _ => rfl
  | x :: r, k => by simp [allFrom, allFrom_all q r]
theorem allFrom_congr {α : Type} {p q : Nat → α → Bool} : ∀ (l : List α) (k : Nat), (∀ j x, k ≤ j → x ∈ l → p j x = q j x) → allFrom p k l = allFrom q k l
  | [], _, _ => rfl
  | x :: r, k, h => by
    simp only [allFrom]
    rw [h k x (Nat.le_refl _) (by simp), allFrom_congr r (k + 1) (fun j y hj hy => h j y (by omega) (by simp [hy]))]
end Go.Ab
set_option linter.unusedVariables false
namespace Go.Proofs.Ytbiklagfjeileaa
open Go Go.Ab
def okArr2_uint8 (x : Arr2_uint8) : Prop := (okI .u8) x.x0 ∧ (okI .u8) x.x1
end Go.Proofs.Ytbiklagfjeileaa
/- The values of the program and of the reference: valid ones, their order. -/
set_option linter.unusedVariables false
set_option linter.unusedSimpArgs false
namespace Go.Proofs.Ytbiklagfjeileaa
open Go Go.Ab

def valid (v : Value) : Bool := decide ((v.Kind = 0 ∧ v.Num = 0 ∧ v.Str = []) ∨ (v.Kind = 1 ∧ v.Str = []) ∨ (v.Kind = 2 ∧ v.Num = 0 ∧ v.Str.length ≤ 200) ∨ (v.Kind = 3 ∧ 1 ≤ v.Num ∧ v.Str = []))
theorem value_Valid_eq (v : Value) : value_Valid v = some (valid v) := by
  simp only [value_Valid, valid]
  repeat' split
  all_goals simp_all
  all_goals (try omega)
  all_goals (try (rw [Bool.eq_iff_iff]; simp <;> omega))
def sgn (a b : Int) : Int := if a < b then -1 else if b < a then 1 else 0
theorem cmp_int_eq (a b : Int) : cmp_Compare_int a b = some (sgn a b) := by
  simp only [cmp_Compare_int, cmp_isNaN_int, sgn]
  simp
  split <;> (try split) <;> simp_all
theorem cmp_int64_eq (a b : Int) : cmp_Compare_int64 a b = some (sgn a b) := by
  simp only [cmp_Compare_int64, cmp_isNaN_int64, sgn]
  simp
  split <;> (try split) <;> simp_all

def strc : List UInt8 → List UInt8 → Int
  | [], [] => 0
  | [], _ :: _ => -1
  | _ :: _, [] => 1
  | a :: x, b :: y => if a = b then strc x y else sgn a.toNat b.toNat
theorem compareBytes_eq : ∀ a b : List UInt8, Lib.compareBytes a b = strc a b
  | [], [] => rfl
  | [], _ :: _ => rfl
  | _ :: _, [] => rfl
  | x :: a, y :: b => by
    simp only [Lib.compareBytes, strc, sgn, compareBytes_eq a b, UInt8.lt_iff_toNat_lt, ← UInt8.toNat_inj]
    split <;> split <;> (try split) <;> (try split) <;> omega
theorem strings_Compare_eq (a b : List UInt8) : strings_Compare a b = some (strc a b) := by
  simp [strings_Compare, bytealg_CompareString, compareBytes_eq]
theorem sgn_ne {a b : Int} (h : a ≠ b) : sgn a b ≠ 0 := by
  unfold sgn; split <;> (try split) <;> omega
def vcmp (a b : Value) : Int := if sgn a.Kind b.Kind ≠ 0 then sgn a.Kind b.Kind else if sgn a.Num b.Num ≠ 0 then sgn a.Num b.Num else strc a.Str b.Str
theorem Or3_eq (a b c : Int) : cmp_Or_int [a, b, c] = some (if a ≠ 0 then a else if b ≠ 0 then b else c) := by
  simp only [cmp_Or_int]
  have w0 : IntKind.i64.wrap 1 = 1 := by decide
  have w1 : IntKind.i64.wrap 2 = 2 := by decide
  have w2 : IntKind.i64.wrap 3 = 3 := by decide
  by_cases h1 : a = 0
  · by_cases h2 : b = 0
    · by_cases h3 : c = 0
      · rw [Loop_next (s' := 1) (by simp [cmp_Or_int_l1, idx, h1, w0]), Loop_next (s' := 2) (by simp [cmp_Or_int_l1, idx, h2, w1]), Loop_next (s' := 3) (by simp [cmp_Or_int_l1, idx, h3, w2]), Loop_done (t := .inl ()) (by simp [cmp_Or_int_l1])]
        simp [h1, h2, h3]
      · rw [Loop_next (s' := 1) (by simp [cmp_Or_int_l1, idx, h1, w0]), Loop_next (s' := 2) (by simp [cmp_Or_int_l1, idx, h2, w1]), Loop_done (t := .inr c) (by simp [cmp_Or_int_l1, idx, h3])]
        simp [h1, h2]
    · rw [Loop_next (s' := 1) (by simp [cmp_Or_int_l1, idx, h1, w0]), Loop_done (t := .inr b) (by simp [cmp_Or_int_l1, idx, h2])]
      simp [h1, h2]
  · rw [Loop_done (t := .inr a) (by simp [cmp_Or_int_l1, idx, h1])]
    simp [h1]
theorem value_Compare_eq (a b : Value) : value_Compare a b = some (vcmp a b) := by
  simp only [value_Compare, cmp_int_eq, cmp_int64_eq, strings_Compare_eq, Option.bind_some, Or3_eq, vcmp]

theorem strc_eq : ∀ a b : List UInt8, strc a b = 0 ↔ a = b
  | [], [] => by simp [strc]
  | [], _ :: _ => by simp [strc]
  | _ :: _, [] => by simp [strc]
  | x :: a, y :: b => by
    simp only [strc]
    by_cases h : x = y
    · subst h; simp [strc_eq a b]
    · have : sgn x.toNat y.toNat ≠ 0 := sgn_ne (by simpa [Int.natCast_inj, UInt8.toNat_inj] using h)
      simp [h, this]
theorem sgn_zero (a b : Int) : sgn a b = 0 ↔ a = b := by
  unfold sgn; split <;> (try split) <;> omega
theorem vcmp_eq (a b : Value) : vcmp a b = 0 ↔ a = b := by
  unfold vcmp
  cases a; cases b
  simp only [Value.mk.injEq]
  split
  · rename_i h; simp only [ne_eq, sgn_zero] at h; simp [sgn_zero, h]
  · rename_i h; simp only [ne_eq, sgn_zero, Decidable.not_not] at h
    split
    · rename_i h2; simp only [ne_eq, sgn_zero] at h2; simp [sgn_zero, h2]
    · rename_i h2; simp only [ne_eq, sgn_zero, Decidable.not_not] at h2
      simp [strc_eq, h, h2]
def veq (a b : Value) : Bool := (a.Kind == b.Kind) && ((a.Num == b.Num) && (a.Str == b.Str))
end Go.Proofs.Ytbiklagfjeileaa
/- The rows of the merging. -/
set_option linter.unusedVariables false
set_option linter.unusedSimpArgs false
namespace Go.Proofs.Ytbiklagfjeileaa
open Go Go.Ab

def rowsErr : List Row → Int
  | [] => 12
  | r :: l => if (r :: l).all (fun x => x.Values.length == r.Values.length) then 0 else 6
theorem IndexFunc_Value_eq (l : List Value) (f : Value → Option Bool) (p : Value → Bool) (hf : ∀ x ∈ l, f x = some (p x)) (hl : l.length ≤ 1073741824) : slices_IndexFunc_Value l f = some (match l.findIdx? p with | some i => (i : Int) | none => -1) := by
  have h := LoopF_find l (slices_IndexFunc_Value_l1 l f) p
    (fun k x hx hk hp => by simp [slices_IndexFunc_Value_l1, lt_true hx, idx_get hx, hf x (List.mem_of_getElem? hx), hp, wrap_succ hk (by omega)])
    (fun k x hx hp => by simp [slices_IndexFunc_Value_l1, lt_true hx, idx_get hx, hf x (List.mem_of_getElem? hx), hp])
    (by simp [slices_IndexFunc_Value_l1])
  simp only [slices_IndexFunc_Value, h, Option.bind_some]
  cases l.findIdx? p <;> rfl
theorem findIdx_any {α : Type} (p : α → Bool) (l : List α) : decide ((match l.findIdx? p with | some i => ((i : Nat) : Int) | none => -1) ≥ 0) = l.any p := by
  cases h : l.findIdx? p with
  | none =>
    rw [List.findIdx?_eq_none_iff] at h
    have : l.any p = false := by rw [List.any_eq_false]; intro x hx; simp [h x hx]
    rw [this]; rfl
  | some i =>
    have : l.any p = true := by
      rw [List.findIdx?_eq_some_iff_getElem] at h
      obtain ⟨hi, hp, _⟩ := h
      rw [List.any_eq_true]
      exact ⟨_, List.getElem_mem hi, hp⟩
    rw [this]; simp
theorem ContainsFunc_Value_eq (l : List Value) (f : Value → Option Bool) (p : Value → Bool) (hf : ∀ x ∈ l, f x = some (p x)) (hl : l.length ≤ 1073741824) : slices_ContainsFunc_Value l f = some (l.any p) := by
  simp only [slices_ContainsFunc_Value, IndexFunc_Value_eq l f p hf hl, Option.bind_some, findIdx_any]

/-- the IDs ascend from a number on, and all values are valid -/
def okRows : Int → List Row → Bool
  | _, [] => true
  | a, r :: l => decide (a < r.ID) && r.Values.all valid && okRows r.ID l
end Go.Proofs.Ytbiklagfjeileaa
/- The choice of a value. -/
set_option linter.unusedVariables false
set_option linter.unusedSimpArgs false
namespace Go.Proofs.Ytbiklagfjeileaa
open Go Go.Ab

/-! ### the order of values -/
theorem sgn_lt (a b : Int) : sgn a b < 0 ↔ a < b := by unfold sgn; split <;> (try split) <;> omega
theorem sgn_neg (a b : Int) : sgn b a = - sgn a b := by unfold sgn; split <;> (try split) <;> (try split) <;> omega
theorem strc_neg : ∀ a b : List UInt8, strc b a = - strc a b
  | [], [] => rfl
  | [], _ :: _ => rfl
  | _ :: _, [] => rfl
  | x :: a, y :: b => by
    simp only [strc]
    by_cases h : x = y
    · subst h; simp [strc_neg a b]
    · have h' : ¬ y = x := fun e => h e.symm
      simp only [if_neg h, if_neg h']; exact sgn_neg _ _
theorem strc_trans : ∀ a b c : List UInt8, strc a b < 0 → strc b c < 0 → strc a c < 0
  | [], [], _, h, _ => by simp [strc] at h
  | [], _ :: _, [], _, h => by simp [strc] at h
  | [], _ :: _, _ :: _, _, _ => by simp [strc]
  | _ :: _, [], _, h, _ => by simp [strc] at h
  | _ :: _, _ :: _, [], _, h => by simp [strc] at h
  | x :: a, y :: b, z :: c, h1, h2 => by
    simp only [strc] at h1 h2 ⊢
    have ix : ∀ p q : UInt8, p = q ↔ (p.toNat : Int) = q.toNat := fun p q => by rw [Int.natCast_inj, UInt8.toNat_inj]
    by_cases hxy : x = y
    · subst hxy
      by_cases hxz : x = z
      · subst hxz
        simp only [if_pos] at h1 h2 ⊢
        exact strc_trans a b c h1 h2
      · simp only [if_neg hxz] at h2 ⊢
        exact h2
    · simp only [if_neg hxy, sgn_lt] at h1
      by_cases hyz : y = z
      · subst hyz
        simp only [if_neg hxy, sgn_lt]; exact h1
      · simp only [if_neg hyz, sgn_lt] at h2
        have hxz : ¬ x = z := by rw [ix]; omega
        simp only [if_neg hxz, sgn_lt]; omega
theorem vcmp_lt (a b : Value) : vcmp a b < 0 ↔ a.Kind < b.Kind ∨ (a.Kind = b.Kind ∧ (a.Num < b.Num ∨ (a.Num = b.Num ∧ strc a.Str b.Str < 0))) := by
  unfold vcmp
  split
  · rename_i h; rw [ne_eq, sgn_zero] at h; rw [sgn_lt]; omega
  · rename_i h; rw [ne_eq, sgn_zero, Decidable.not_not] at h
    split
    · rename_i h2; rw [ne_eq, sgn_zero] at h2; rw [sgn_lt]; omega
    · rename_i h2; rw [ne_eq, sgn_zero, Decidable.not_not] at h2
      constructor
      · intro h3; exact .inr ⟨h, .inr ⟨h2, h3⟩⟩
      · rintro (h3 | ⟨_, h3 | ⟨_, h3⟩⟩)
        · omega
        · omega
        · exact h3
theorem vcmp_trans (a b c : Value) (h1 : vcmp a b < 0) (h2 : vcmp b c < 0) : vcmp a c < 0 := by
  rw [vcmp_lt] at *
  rcases h1 with h1 | ⟨h1, h1' | ⟨h1', h1''⟩⟩ <;> rcases h2 with h2 | ⟨h2, h2' | ⟨h2', h2''⟩⟩ <;> try omega
  exact .inr ⟨by omega, .inr ⟨by omega, strc_trans _ _ _ h1'' h2''⟩⟩
theorem vcmp_neg (a b : Value) : vcmp b a = - vcmp a b := by
  unfold vcmp
  rw [sgn_neg a.Kind, sgn_neg a.Num, strc_neg a.Str]
  split <;> (try split) <;> (try split) <;> (try split) <;> omega
theorem vcmp_self (a : Value) : vcmp a a = 0 := (vcmp_eq a a).2 rfl

/-! ### which value is preferred -/
def betterB (cnt : Value → Int) (rule : Int) (v b : Value) : Bool :=
  if rule = 2 then decide (cnt v > cnt b) else if rule = 3 then decide (v.Kind = 2) && (decide (b.Kind ≠ 2) || decide ((v.Str.length : Int) > b.Str.length))
  else if rule = 4 then decide (vcmp v b < 0) else if rule = 5 then decide (vcmp v b > 0) else false
def cellV (r : Row) (a : Nat) : Value := r.Values.getD a ⟨0, 0, []⟩
def Short (rows : List Row) : Prop := ∀ r ∈ rows, ∀ v ∈ r.Values, v.Str.length ≤ 1073741824

end Go.Proofs.Ytbiklagfjeileaa
/- Choose is the reference's Choose. -/
set_option linter.unusedVariables false
set_option linter.unusedSimpArgs false
namespace Go.Proofs.Ytbiklagfjeileaa
open Go Go.Ab

/-- the greatest element that comes first, with the place where it was found -/
def pickF {β : Type} (B : Value → Value → Bool) (o : Value × β) (x : Value × β) : Value × β := if B x.1 o.1 then x else o
def nn (rows : List Row) (a : Nat) : List Row := rows.filter fun r => (cellV r a).Kind != 0
/-- the outcome of both -/
def chosen (rows : List Row) (a : Nat) (rule : Int) : Value × Int :=
  match nn rows a with
  | [] => (⟨0, 0, []⟩, (rows[0]?.map (·.ID)).getD 0)
  | r :: l => (l.map fun x => (cellV x a, x.ID)).foldl (pickF (betterB (fun x => (((rows.map (cellV · a)).countP (veq · x) : Nat) : Int)) rule)) (cellV r a, r.ID)

end Go.Proofs.Ytbiklagfjeileaa
/- Choose is the reference's Choose, second part. -/
set_option linter.unusedVariables false
set_option linter.unusedSimpArgs false
namespace Go.Proofs.Ytbiklagfjeileaa
open Go Go.Ab

/-- what both answer -/
def choice (rows : List Row) (attr rule : Int) : Value × Int × Int :=
  if rowsErr rows ≠ 0 then (⟨0, 0, []⟩, 0, rowsErr rows)
  else if attr < 0 ∨ ((rows[0]?.map (·.Values.length)).getD 0 : Nat) ≤ attr then (⟨0, 0, []⟩, 0, 6)
  else if okRows 0 rows = false ∨ rule < 1 ∨ 5 < rule then (⟨0, 0, []⟩, 0, 1)
  else ((chosen rows attr.toNat rule).1, (chosen rows attr.toNat rule).2, 0)
end Go.Proofs.Ytbiklagfjeileaa
/- Merge is the reference's Merge. -/
set_option linter.unusedVariables false
set_option linter.unusedSimpArgs false
namespace Go.Proofs.Ytbiklagfjeileaa
open Go Go.Ab

def okRule (r : Int) : Bool := decide (1 ≤ r) && decide (r ≤ 5)
/-- the merged values and origins -/
def stepM (rows : List Row) (b : List Value × List Int) (rule : Int) : List Value × List Int := (b.1 ++ [(chosen rows b.1.length rule).1], b.2 ++ [(chosen rows b.1.length rule).2])
def mergedV (rows : List Row) (rules : List Int) : List Value × List Int := rules.foldl (stepM rows) ([], [])
/-- what both answer -/
def merging (rows : List Row) (rules : List Int) : (Row × List Int) × Int :=
  if rowsErr rows ≠ 0 then ((⟨0, []⟩, []), rowsErr rows)
  else if rules.length ≠ (rows[0]?.map (·.Values.length)).getD 0 then ((⟨0, []⟩, []), 6)
  else if okRows 0 rows = false ∨ rules.all okRule = false then ((⟨0, []⟩, []), 1)
  else ((⟨(rows[0]?.map (·.ID)).getD 0, (mergedV rows rules).1⟩, (mergedV rows rules).2), 0)
theorem any_not_all {α : Type} (p : α → Bool) (l : List α) : (l.any fun x => !p x) = !l.all p := by simp [List.all_eq_not_any_not]
end Go.Proofs.Ytbiklagfjeileaa
/- Tables: names, validity, finding a row. -/
set_option linter.unusedVariables false
set_option linter.unusedSimpArgs false
namespace Go.Proofs.Ytbiklagfjeileaa
open Go Go.Ab

def letter (c : Int) : Bool := (decide (97 ≤ c) && decide (c ≤ 122)) || ((decide (65 ≤ c) && decide (c ≤ 90)) || c == 95)
theorem letter_shape (c : Int) : (show Option Bool from
            if c ≥ 97 then
              if c ≤ 122 then some true
              else if c ≥ 65 then if c ≤ 90 then some true else some (c == 95) else some (c == 95)
            else if c ≥ 65 then if c ≤ 90 then some true else some (c == 95) else some (c == 95)) = some (letter c) := by
  simp only [letter]
  by_cases h1 : 97 ≤ c <;> by_cases h2 : c ≤ 122 <;> by_cases h3 : 65 ≤ c <;> by_cases h4 : c ≤ 90 <;> simp [h1, h2, h3, h4]
def lod (c : UInt8) : Bool := letter c.toNat || (decide (48 ≤ (c.toNat : Int)) && decide ((c.toNat : Int) ≤ 57))
def nameB : List UInt8 → Bool
  | [] => false
  | c :: r => decide (r.length < 24) && letter c.toNat && !((c :: r) == [110, 117, 108, 108]) && r.all lod
theorem isName_eq (s : List UInt8) : table_isName s = some (nameB s) := by
  cases s with
  | nil => rfl
  | cons c r =>
    have hn : ¬ (((c :: r) == []) = true) := by simp
    simp only [table_isName, if_neg hn]
    by_cases h24 : ((c :: r).length : Int) > 24
    · have : ¬ r.length < 24 := by simp at h24; omega
      rw [if_pos h24]; simp [nameB, this]
    · have h24' : r.length < 24 := by simp at h24; omega
      rw [if_neg h24]
      by_cases hnull : ((c :: r) == [110, 117, 108, 108]) = true
      · simp only [hnull, if_true, nameB]; simp
      · simp only [Bool.not_eq_true] at hnull
        have hlet : ∀ x : UInt8, (show Option Bool from
            if ((x.toNat : Nat) : Int) ≥ 97 then
              if ((x.toNat : Nat) : Int) ≤ 122 then some true
              else if ((x.toNat : Nat) : Int) ≥ 65 then if ((x.toNat : Nat) : Int) ≤ 90 then some true else some (((x.toNat : Nat) : Int) == 95) else some (((x.toNat : Nat) : Int) == 95)
            else if ((x.toNat : Nat) : Int) ≥ 65 then if ((x.toNat : Nat) : Int) ≤ 90 then some true else some (((x.toNat : Nat) : Int) == 95) else some (((x.toNat : Nat) : Int) == 95)) = some (letter x.toNat) := fun x => letter_shape x.toNat
        have h := LoopF_allk (c :: r) (table_isName_l1 (c :: r)) (fun k x => letter x.toNat || (decide (k ≠ 0) && (decide (48 ≤ (x.toNat : Int)) && decide ((x.toNat : Int) ≤ 57)))) false
          (fun k x hx hk hp => by
            simp only [table_isName_l1, if_pos (lt_true hx), idx_get hx, Option.bind_some, hlet, wrap_succ hk (by simp; omega)]
            by_cases hx1 : letter x.toNat = true
            · simp [hx1]
            · simp only [Bool.not_eq_true] at hx1
              simp only [hx1, Bool.false_or, Bool.and_eq_true, decide_eq_true_eq] at hp
              have e0 : ¬ (((k : Int) == 0) = true) := by simp; omega
              have e1 : ¬ (x.toNat : Int) < 48 := by omega
              have e2 : ¬ (x.toNat : Int) > 57 := by omega
              simp [hx1, e0, e1, e2])
          (fun k x hx hp => by
            simp only [table_isName_l1, if_pos (lt_true hx), idx_get hx, Option.bind_some, hlet]
            simp only [Bool.or_eq_false_iff, Bool.and_eq_false_iff, decide_eq_false_iff_not] at hp
            simp only [hp.1, Bool.false_eq_true, if_false]
            by_cases e0 : k = 0
            · simp [e0]
            · have e0' : ¬ (((k : Int) == 0) = true) := by simp; omega
              by_cases e1 : (x.toNat : Int) < 48
              · simp [e1]
              · have e2 : (x.toNat : Int) > 57 := by
                  rcases hp.2 with h | h | h
                  · exact absurd e0 h
                  · omega
                  · omega
                simp [e1, e2])
          (by simp [table_isName_l1]) (c :: r) 0 rfl (Nat.zero_le _)
        simp only [Int.natCast_zero] at h
        simp only [hnull, Bool.false_eq_true, if_false, h, Option.bind_some]
        have e : allFrom (fun k x => letter x.toNat || (decide (k ≠ 0) && (decide (48 ≤ (x.toNat : Int)) && decide ((x.toNat : Int) ≤ 57)))) 0 (c :: r) = (letter c.toNat && r.all lod) := by
          simp only [allFrom]
          rw [allFrom_congr (q := fun _ x => lod x) r 1 (fun j x hj _ => by
            have hj0 : j ≠ 0 := by omega
            simp [lod, hj0]), allFrom_all]
          simp
        rw [e]
        simp only [nameB, h24', decide_true, Bool.true_and, hnull, Bool.not_false, Bool.and_true]
        cases letter c.toNat <;> cases r.all lod <;> rfl

def posI : Option Nat → Int
  | some i => i
  | none => -1
theorem posI_any {α : Type} (p : α → Bool) (l : List α) : decide (posI (l.findIdx? p) ≥ 0) = l.any p := by
  rw [← findIdx_any]
  cases l.findIdx? p <;> rfl
theorem Index_string_eq (l : List (List UInt8)) (s : List UInt8) (hl : l.length ≤ 1073741824) : slices_Index_string l s = some (posI (l.findIdx? (fun x => s == x))) := by
  have h := LoopF_find l (slices_Index_string_l1 l s) (fun x => s == x)
    (fun k x hx hk hp => by simp only [slices_Index_string_l1, if_pos (lt_true hx), idx_get hx, Option.bind_some, hp, Bool.false_eq_true, if_false, if_true, wrap_succ hk (show l.length ≤ 4611686018427387904 by omega)])
    (fun k x hx hp => by simp only [slices_Index_string_l1, if_pos (lt_true hx), idx_get hx, Option.bind_some, hp, if_true])
    (by simp [slices_Index_string_l1])
  simp only [slices_Index_string, h, Option.bind_some]
  cases l.findIdx? (fun x => s == x) <;> rfl
theorem Contains_string_eq (l : List (List UInt8)) (s : List UInt8) (hl : l.length ≤ 1073741824) : slices_Contains_string l s = some (l.any fun x => s == x) := by
  simp only [slices_Contains_string, Index_string_eq l s hl, Option.bind_some]
  exact congrArg some (posI_any _ l)
def namesB (l : List (List UInt8)) : Bool := allFrom (fun k x => nameB x && !(l.take k).any fun y => x == y) 0 l
def rowsCode (n : Nat) : Int → List Row → Int
  | _, [] => 0
  | a, r :: l => if r.ID ≤ a then 1 else if r.Values.length ≠ n then 6 else if r.Values.all valid then rowsCode n r.ID l else 1
def tableErr (t : Table) : Int :=
  if nameB t.Name = false then 1 else if t.Attrs.length > 16 then 3 else if t.Rows.length > 1000 then 3 else if namesB t.Attrs = false then 1 else rowsCode t.Attrs.length 0 t.Rows
theorem validValues_eq (l : List Value) (hl : l.length ≤ 1073741824) : table_validValues l = some (l.all valid) := by
  simp only [table_validValues, ContainsFunc_Value_eq l (fun y => table_validValues_1 y) (fun v => !valid v) (fun y _ => by simp [table_validValues_1, value_Valid_eq]) hl, Option.bind_some, any_not_all, Bool.not_not]

theorem rows_loop {B : Int × Int → Option (LS (Int × Int) (Unit ⊕ Int))} (rows : List Row) (n : Nat)
    (hB : ∀ (k : Nat) (a : Int) x, rows[k]? = some x → k < rows.length → B (a, (k : Int)) = if x.ID ≤ a then some (.done (.inr 1)) else if x.Values.length ≠ n then some (.done (.inr 6)) else if x.Values.all valid then some (.next (x.ID, ((k + 1 : Nat) : Int))) else some (.done (.inr 1)))
    (hE : ∀ a, B (a, (rows.length : Int)) = some (.done (.inl ()))) : ∀ (r : List Row) (k : Nat) (a : Int), rows.drop k = r → k ≤ rows.length → ∃ o, LoopF B (a, (k : Int)) = some o ∧ (match o with | .inl () => rowsCode n a r = 0 | .inr z => rowsCode n a r = z ∧ z ≠ 0) := by
  intro r
  induction r with
  | nil =>
    intro k a hd hk
    have : k = rows.length := by
      have := congrArg List.length hd
      simp at this; omega
    subst this
    exact ⟨.inl (), Loop_done (hE a), rfl⟩
  | cons x r ih =>
    intro k a hd hk
    have hx : rows[k]? = some x := by
      have := congrArg (·[0]?) hd
      simpa [List.getElem?_drop] using this
    have hd' : rows.drop (k + 1) = r := by rw [← List.drop_drop, hd]; rfl
    have hlt := lt_of_get hx
    have hb := hB k a x hx hlt
    by_cases h1 : x.ID ≤ a
    · rw [if_pos h1] at hb
      exact ⟨_, Loop_done hb, by simp [rowsCode, h1]⟩
    · rw [if_neg h1] at hb
      by_cases h2 : x.Values.length ≠ n
      · rw [if_pos h2] at hb
        exact ⟨_, Loop_done hb, by simp [rowsCode, h1, h2]⟩
      · rw [if_neg h2] at hb
        by_cases h3 : x.Values.all valid = true
        · rw [if_pos h3] at hb
          obtain ⟨o, h4, h5⟩ := ih (k + 1) x.ID hd' hlt
          refine ⟨o, by rw [Loop_next hb]; exact h4, ?_⟩
          have e : rowsCode n a (x :: r) = rowsCode n x.ID r := by
            simp only [rowsCode, if_neg h1, if_neg h2, if_pos h3]
          rw [e]; exact h5
        · rw [if_neg h3] at hb
          exact ⟨_, Loop_done hb, by simp only [rowsCode, if_neg h1, if_neg h2, if_neg h3]; exact ⟨trivial, by omega⟩⟩

structure TabOk (t : Table) : Prop where
  attrs : t.Attrs.length ≤ 1073741824
  rows : t.Rows.length ≤ 1073741824
  vals : ∀ r ∈ t.Rows, r.Values.length ≤ 1073741824
  short : Short t.Rows
theorem table_Valid_table (t : Table) (H : TabOk t) : table_Valid t = some (tableErr t) := by
  simp only [table_Valid, isName_eq, Option.bind_some, tableErr]
  by_cases h1 : nameB t.Name = true
  · by_cases h2 : t.Attrs.length > 16
    · have : (t.Attrs.length : Int) > 16 := by omega
      simp [h1, h2, this]
    · have h2' : ¬ (t.Attrs.length : Int) > 16 := by omega
      by_cases h3 : t.Rows.length > 1000
      · have : (t.Rows.length : Int) > 1000 := by omega
        simp [h1, h2, h2', h3, this]
      · have h3' : ¬ (t.Rows.length : Int) > 1000 := by omega
        have hN := LoopF_allk t.Attrs (table_Valid_l1 t) (fun k x => nameB x && !(t.Attrs.take k).any fun y => x == y) 1
          (fun k x hx hk hp => by
            simp only [Bool.and_eq_true, Bool.not_eq_true'] at hp
            have h0 : ((0 : Int) ≤ (k : Int)) := by omega
            have h1 : ((k : Int) ≤ (t.Attrs.length : Int)) := by omega
            have hA := H.attrs
            simp only [table_Valid_l1, if_pos (lt_true hx), idx_get hx, Option.bind_some, isName_eq, hp.1, if_true, if_pos h0, if_pos h1, Int.toNat_natCast, Contains_string_eq _ x (show (t.Attrs.take k).length ≤ 1073741824 by simp; omega), hp.2, Bool.false_eq_true, if_false,
              wrap_succ hk (show t.Attrs.length ≤ 4611686018427387904 by omega)])
          (fun k x hx hp => by
            have hk := lt_of_get hx
            have h0 : ((0 : Int) ≤ (k : Int)) := by omega
            have h1 : ((k : Int) ≤ (t.Attrs.length : Int)) := by omega
            have hA := H.attrs
            simp only [table_Valid_l1, if_pos (lt_true hx), idx_get hx, Option.bind_some, isName_eq, if_pos h0, if_pos h1, Int.toNat_natCast, Contains_string_eq _ x (show (t.Attrs.take k).length ≤ 1073741824 by simp; omega)]
            rcases Bool.eq_false_or_eq_true (nameB x) with hn | hn
            · simp only [hn, Bool.true_and, Bool.not_eq_false'] at hp
              simp only [hn, if_true, hp]
            · simp [hn])
          (by simp [table_Valid_l1]) t.Attrs 0 rfl (Nat.zero_le _)
        simp only [Int.natCast_zero] at hN
        simp only [h1, if_true, if_neg h2', if_neg h3', hN, Option.bind_some, Bool.true_eq_false, if_false, if_neg h2, if_neg h3]
        have hNe : namesB t.Attrs = allFrom (fun k x => nameB x && !(t.Attrs.take k).any fun y => x == y) 0 t.Attrs := rfl
        rw [← hNe]
        by_cases h4 : namesB t.Attrs = true
        · obtain ⟨o, h5, h6⟩ := rows_loop (B := table_Valid_l2 t) t.Rows t.Attrs.length (fun k a x hx hk => by
              simp only [table_Valid_l2, if_pos (lt_true hx), idx_get hx, Option.bind_some, validValues_eq _ (H.vals x (List.mem_of_getElem? hx)), wrap_succ hk (show t.Rows.length ≤ 4611686018427387904 by have := H.rows; omega)]
              by_cases e1 : x.ID ≤ a
              · simp [e1]
              · by_cases e2 : x.Values.length = t.Attrs.length
                · simp [e1, e2]
                · have : ¬ ((x.Values.length : Int) = t.Attrs.length) := by omega
                  simp [e1, e2, this]) (fun a => by simp [table_Valid_l2]) t.Rows 0 0 rfl (Nat.zero_le _)
          simp only [Int.natCast_zero] at h5
          simp only [h4, if_true, h5, Option.bind_some, Bool.true_eq_false, if_false]
          cases o with
          | inl u => simp only at h6 ⊢; rw [h6]
          | inr z => simp only at h6 ⊢; rw [h6.1]
        · simp only [Bool.not_eq_true] at h4
          simp [h4]
  · simp only [Bool.not_eq_true] at h1
    simp [h1]

end Go.Proofs.Ytbiklagfjeileaa
/- Blocking: loops over pairs of rows, the check, Exact, Prefix. -/
set_option linter.unusedVariables false
set_option linter.unusedSimpArgs false
namespace Go.Ab
open Go
/-- the pairs i < k < n for which p holds -/
def pairs53 {α : Type} (n : Nat) (p : Nat → Nat → Bool) (mk : Nat → Nat → α) : List α :=
  (List.range n).flatMap fun i => (((List.range n).drop (i + 1)).filter (p i)).map (mk i)
theorem room16 {n : Nat} (h : n ≤ 8000000000) : roomB n 16 = true := by
  unfold roomB
  simp only [decide_eq_true_eq]
  omega
theorem range_get {n k x : Nat} (h : (List.range n)[k]? = some x) : x = k ∧ k < n := by
  have hl := lt_of_get h
  rw [List.length_range] at hl
  rw [List.getElem?_range hl] at h
  exact ⟨(Option.some.inj h).symm, hl⟩
theorem pairs_loop {α : Type} {B3 : Nat → (List α × Int) → Option (LS (List α × Int) (List α))} {B4 : (List α × Int) → Option (LS (List α × Int) (List α))} (n : Nat) (hn : n ≤ 1000) (p : Nat → Nat → Bool) (mk : Nat → Nat → α)
    (h3 : ∀ (i k : Nat) (out : List α), i < k → k < n → roomB (out.length + 1) 16 = true → B3 i (out, (k : Int)) = some (.next (if p i k then out ++ [mk i k] else out, ((k + 1 : Nat) : Int))))
    (h3e : ∀ (i : Nat) (out : List α), B3 i (out, (n : Int)) = some (.done out))
    (h4 : ∀ (i : Nat) (out : List α), i < n → B4 (out, (i : Int)) = (LoopF (B3 i) (out, ((i + 1 : Nat) : Int))).bind fun o => some (.next (o, ((i + 1 : Nat) : Int))))
    (h4e : ∀ (out : List α), B4 (out, (n : Int)) = some (.done out)) : LoopF B4 ([], 0) = some (pairs53 n p mk) := by
  have inner : ∀ (i : Nat) (out : List α), i < n → out.length ≤ i * n → LoopF (B3 i) (out, ((i + 1 : Nat) : Int)) = some (out ++ (((List.range n).drop (i + 1)).filter (p i)).map (mk i)) := by
    intro i out hi ho
    have hin : i * n ≤ 1000 * 1000 := Nat.mul_le_mul (by omega) hn
    have h := LoopF_foldR (List.range n) (fun (out : List α) (k : Int) => (out, k)) (B3 i) (fun out k => (Sum.inl (if p i k then out ++ [mk i k] else out) : List α ⊕ List α)) id (fun k out => out.length ≤ i * n + k ∧ i < k)
      (fun k b x hx hI => by
        obtain ⟨rfl, hk⟩ := range_get hx
        refine ⟨fun b' hb => ?_, fun t ht => by cases ht⟩
        cases hb
        refine ⟨h3 i x b hI.2 hk (room16 (by omega)), ?_, by omega⟩
        split
        · rw [List.length_append, List.length_singleton]; omega
        · omega)
      (fun b hI => by simp only [List.length_range]; exact h3e i b) ((List.range n).drop (i + 1)) (i + 1) out rfl (by simp; omega) ⟨by omega, by omega⟩
    rw [h]
    congr 1
    clear h
    generalize (List.range n).drop (i + 1) = r
    induction r generalizing out with
    | nil => simp [foldR]
    | cons x r ih =>
      simp only [foldR]
      have aux : ∀ (r : List Nat) (out : List α), foldR (fun out k => (Sum.inl (if p i k then out ++ [mk i k] else out) : List α ⊕ List α)) id r out = out ++ (r.filter (p i)).map (mk i) := by
        intro r
        induction r with
        | nil => intro out; simp [foldR]
        | cons y r ihr =>
          intro out
          simp only [foldR, ihr]
          by_cases hp : p i y = true
          · simp [hp]
          · simp [hp]
      rw [aux]
      by_cases hp : p i x = true
      · simp [hp]
      · simp [hp]
  have h := LoopF_list (List.range n) (fun (out : List α) (k : Int) => (out, k)) B4 (fun out i => (Sum.inl (out ++ (((List.range n).drop (i + 1)).filter (p i)).map (mk i)) : List α ⊕ List α)) id (fun k out => out.length ≤ k * n) (b0 := []) (s0 := ([], 0)) rfl (by simp)
    (fun k b x hx hk hI => by
      obtain ⟨rfl, hk⟩ := range_get hx
      refine ⟨fun b' hb => ?_, fun t ht => by cases ht⟩
      cases hb
      refine ⟨by rw [h4 x b hk, inner x b hk hI]; rfl, ?_⟩
      have : ((((List.range n).drop (x + 1)).filter (p x)).map (mk x)).length ≤ n := by
        rw [List.length_map]
        exact Nat.le_trans (List.length_filter_le _ _) (by rw [List.length_drop, List.length_range]; omega)
      rw [List.length_append, Nat.add_mul, Nat.one_mul]; omega)
    (fun b hI => by simp only [List.length_range]; exact h4e b)
  rw [h]
  congr 1
  unfold pairs53
  have aux : ∀ (r : List Nat) (out : List α), foldR (fun out i => (Sum.inl (out ++ (((List.range n).drop (i + 1)).filter (p i)).map (mk i)) : List α ⊕ List α)) id r out = out ++ r.flatMap fun i => (((List.range n).drop (i + 1)).filter (p i)).map (mk i) := by
    intro r
    induction r with
    | nil => intro out; simp [foldR]
    | cons y r ihr => intro out; simp only [foldR, ihr]; simp
  rw [aux, List.nil_append]
theorem mem_drop_range {n i k : Nat} : k ∈ (List.range n).drop (i + 1) ↔ i < k ∧ k < n := by
  rw [List.mem_iff_getElem?]
  constructor
  · rintro ⟨j, hj⟩
    rw [List.getElem?_drop] at hj
    obtain ⟨h1, h2⟩ := range_get hj
    omega
  · rintro ⟨h1, h2⟩
    refine ⟨k - (i + 1), ?_⟩
    rw [List.getElem?_drop, show i + 1 + (k - (i + 1)) = k by omega, List.getElem?_range h2]
theorem pairs53_congr {α : Type} {n : Nat} {p q : Nat → Nat → Bool} {mk : Nat → Nat → α} (h : ∀ i k, i < k → k < n → p i k = q i k) : pairs53 n p mk = pairs53 n q mk := by
  unfold pairs53
  have : ∀ i, ((List.range n).drop (i + 1)).filter (p i) = ((List.range n).drop (i + 1)).filter (q i) := fun i =>
    List.filter_congr fun k hk => by
      obtain ⟨h1, h2⟩ := mem_drop_range.1 hk
      exact h i k h1 h2
  simp only [this]
theorem mem_pairs53 {α : Type} {n : Nat} {p : Nat → Nat → Bool} {mk : Nat → Nat → α} {x : α} : x ∈ pairs53 n p mk ↔ ∃ i k, i < k ∧ k < n ∧ p i k = true ∧ x = mk i k := by
  unfold pairs53
  simp only [List.mem_flatMap, List.mem_range, List.mem_map, List.mem_filter, mem_drop_range]
  constructor
  · rintro ⟨i, hi, k, ⟨⟨h1, h2⟩, h3⟩, rfl⟩
    exact ⟨i, k, h1, h2, h3, rfl⟩
  · rintro ⟨i, k, h1, h2, h3, rfl⟩
    exact ⟨i, by omega, k, ⟨⟨h1, h2⟩, h3⟩, rfl⟩
theorem pairs53_len {α : Type} {n : Nat} {p : Nat → Nat → Bool} {mk : Nat → Nat → α} : (pairs53 n p mk).length ≤ n * n := by
  unfold pairs53
  rw [List.length_flatMap]
  have : ∀ l : List Nat, (l.map fun i => ((((List.range n).drop (i + 1)).filter (p i)).map (mk i)).length).sum ≤ l.length * n := by
    intro l
    induction l with
    | nil => simp
    | cons x l ih =>
      have : ((((List.range n).drop (x + 1)).filter (p x)).map (mk x)).length ≤ n := by
        rw [List.length_map]
        exact Nat.le_trans (List.length_filter_le _ _) (by rw [List.length_drop, List.length_range]; omega)
      simp only [List.map_cons, List.sum_cons, List.length_cons, Nat.add_mul, Nat.one_mul]; omega
  have := this (List.range n)
  simpa using this
theorem allFrom_get' {α : Type} {p : Nat → α → Bool} : ∀ {l : List α} {k : Nat}, allFrom p k l = true → ∀ {j : Nat} {x : α}, l[j]? = some x → p (k + j) x = true
  | [], k, _, j, x, hx => by simp at hx
  | y :: l, k, h, 0, x, hx => by
    simp only [List.getElem?_cons_zero, Option.some.injEq] at hx
    subst hx
    simp only [allFrom, Bool.and_eq_true] at h
    exact h.1
  | y :: l, k, h, j + 1, x, hx => by
    simp only [List.getElem?_cons_succ] at hx
    simp only [allFrom, Bool.and_eq_true] at h
    have := allFrom_get' h.2 hx
    rw [show k + (j + 1) = k + 1 + j by omega]; exact this
theorem allFrom_of {α : Type} (p : Nat → α → Bool) : ∀ (l : List α) (k : Nat), (∀ j x, l[j]? = some x → p (k + j) x = true) → allFrom p k l = true
  | [], _, _ => rfl
  | y :: l, k, h => by
    simp only [allFrom, Bool.and_eq_true]
    refine ⟨h 0 y rfl, allFrom_of p l (k + 1) fun j x hj => ?_⟩
    rw [show k + 1 + j = k + (j + 1) by omega]
    exact h (j + 1) x hj
end Go.Ab
namespace Go.Proofs.Ytbiklagfjeileaa
open Go Go.Ab

/-- the value of a row -/
def rowAt (t : Table) (i : Nat) : Row := t.Rows.getD i ⟨0, []⟩
def val53 (t : Table) (a i : Nat) : Value := (rowAt t i).Values.getD a ⟨0, 0, []⟩
def pairAt (t : Table) (i k : Nat) : Arr2_int64 := ⟨(rowAt t i).ID, (rowAt t k).ID⟩
/-- the error of a table and an attribute -/
def errB (t : Table) (attr : Int) : Int := if tableErr t ≠ 0 then tableErr t else if t.Rows.length > 200 then 3 else if attr < 0 ∨ attr ≥ (t.Attrs.length : Int) then 6 else 0
theorem check53_eq (t : Table) (attr : Int) (b : Bool) (H : TabOk t) : blocking_check t attr b = some (if errB t attr ≠ 0 then errB t attr else if b then 0 else 7) := by
  simp only [blocking_check, table_Valid_table t H, Option.bind_some, errB]
  by_cases h1 : tableErr t = 0
  · by_cases h2 : t.Rows.length > 200
    · have : (t.Rows.length : Int) > 200 := by omega
      simp [h1, h2, this]
    · have : ¬ (t.Rows.length : Int) > 200 := by omega
      by_cases h3 : attr < 0
      · simp [h1, h2, this, h3]
      · by_cases h4 : attr ≥ (t.Attrs.length : Int) <;> cases b <;> simp [h1, h2, this, h3, h4]
  · simp [h1]
/-- a good table with an attribute -/
structure Good53 (t : Table) (a : Nat) : Prop where
  ok : TabOk t
  few : t.Rows.length ≤ 200
  has : ∀ i, i < t.Rows.length → t.Rows[i]? = some (rowAt t i) ∧ (rowAt t i).Values[a]? = some (val53 t a i) ∧ valid (val53 t a i) = true
theorem rows_ok : ∀ (rows : List Row) (n : Nat) (b : Int), rowsCode n b rows = 0 → ∀ r ∈ rows, r.Values.length = n ∧ ∀ v ∈ r.Values, valid v = true
  | [], _, _, _ => by simp
  | r :: rows, n, b, h => by
    simp only [rowsCode] at h
    by_cases h1 : r.ID ≤ b
    · rw [if_pos h1] at h; cases h
    · rw [if_neg h1] at h
      by_cases h2 : r.Values.length = n
      · by_cases h3 : r.Values.all valid = true
        · simp only [h2, h3, ne_eq, not_true_eq_false, if_false, if_true, Bool.not_true, Bool.false_eq_true, Bool.true_eq_false] at h
          intro x hx
          rcases List.mem_cons.1 hx with rfl | hx
          · exact ⟨h2, by simpa using h3⟩
          · exact rows_ok rows n _ h x hx
        · simp [h2, h3] at h
      · simp [h2] at h
theorem good_of {t : Table} {attr : Int} (H : TabOk t) (h : errB t attr = 0) : ∃ a : Nat, attr = (a : Int) ∧ Good53 t a := by
  unfold errB at h
  by_cases h1 : tableErr t = 0
  · simp only [h1, ne_eq, not_true_eq_false, if_false] at h
    by_cases h2 : t.Rows.length > 200
    · simp [h2] at h
    · by_cases h3 : attr < 0 ∨ attr ≥ (t.Attrs.length : Int)
      · simp [h2, h3] at h
      · obtain ⟨a, rfl⟩ := Int.eq_ofNat_of_zero_le (show 0 ≤ attr by omega)
        refine ⟨a, rfl, H, by omega, fun i hi => ?_⟩
        have hr : t.Rows[i]? = some (rowAt t i) := by
          unfold rowAt; rw [List.getD_eq_getElem?_getD, List.getElem?_eq_getElem hi]; rfl
        have hm : rowAt t i ∈ t.Rows := List.mem_of_getElem? hr
        have hc : rowsCode t.Attrs.length 0 t.Rows = 0 := by
          unfold tableErr at h1
          split at h1
          · cases h1
          · split at h1
            · cases h1
            · split at h1
              · cases h1
              · split at h1
                · cases h1
                · exact h1
        obtain ⟨e1, e2⟩ := rows_ok _ _ _ hc _ hm
        have ha : a < (rowAt t i).Values.length := by omega
        have hv : (rowAt t i).Values[a]? = some (val53 t a i) := by
          unfold val53; rw [List.getD_eq_getElem?_getD, List.getElem?_eq_getElem ha]; rfl
        exact ⟨hr, hv, e2 _ (List.mem_of_getElem? hv)⟩
  · simp [h1] at h
/-- the loops of blocking.pairs -/
theorem pairs_eq (t : Table) (ok : Int → Int → Option Bool) (p : Nat → Nat → Bool) (hn : t.Rows.length ≤ 200) (hp : ∀ i k : Nat, i < k → k < t.Rows.length → ok i k = some (p i k)) :
    blocking_pairs t ok = some (pairs53 t.Rows.length p (pairAt t)) := by
  have hr : ∀ i, i < t.Rows.length → t.Rows[i]? = some (rowAt t i) := fun i hi => by
    unfold rowAt; rw [List.getD_eq_getElem?_getD, List.getElem?_eq_getElem hi]; rfl
  have h := pairs_loop (B3 := fun i => blocking_pairs_l3 t ok (i : Int)) (B4 := blocking_pairs_l4 t ok) t.Rows.length (by omega) p (pairAt t)
    (fun i k out hik hk hroom => by
      have hki : (k : Int) < (t.Rows.length : Int) := by omega
      simp only [blocking_pairs_l3, if_pos hki, hp i k hik hk, Option.bind_some, idx_get (hr i (by omega)), idx_get (hr k hk), hroom, if_true, wrap_nat (show k < 4611686018427387904 by omega)]
      cases p i k <;> simp [pairAt])
    (fun i out => by simp [blocking_pairs_l3])
    (fun i out hi => by
      have hii : (i : Int) < (t.Rows.length : Int) := by omega
      simp only [blocking_pairs_l4, if_pos hii, wrap_nat (show i < 4611686018427387904 by omega)])
    (fun out => by simp [blocking_pairs_l4])
  simp only [blocking_pairs, h, Option.bind_some]
def exactP (t : Table) (a i k : Nat) : Bool := decide (val53 t a i = val53 t a k)
theorem vcmp_eq0 (a b : Value) : (vcmp a b == 0) = decide (a = b) := by
  rw [Bool.eq_iff_iff]; simp [vcmp_eq]
theorem Exact_eq (t : Table) (attr : Int) (H : TabOk t) : blocking_Exact t attr = some (if errB t attr ≠ 0 then ([], errB t attr) else (pairs53 t.Rows.length (exactP t attr.toNat) (pairAt t), 0)) := by
  simp only [blocking_Exact, check53_eq t attr true H, Option.bind_some, if_true]
  by_cases h : errB t attr = 0
  · obtain ⟨a, rfl, G⟩ := good_of H h
    simp only [h, ne_eq, not_true_eq_false, if_false, Int.toNat_natCast]
    rw [pairs_eq t _ (exactP t a) G.few (fun i k hik hk => by
      obtain ⟨r1, v1, _⟩ := G.has i (by omega)
      obtain ⟨r2, v2, _⟩ := G.has k hk
      simp only [blocking_Exact_1, idx_get r1, idx_get r2, idx_get v1, idx_get v2, Option.bind_some, value_Compare_eq, vcmp_eq0, exactP])]
    simp
  · simp [h]
theorem short_ok {v : Value} (h : valid v = true) : v.Str.length ≤ 200 := by
  unfold valid at h
  simp only [decide_eq_true_eq] at h
  rcases h with h | h | h | h
  · rw [h.2.2]; simp
  · rw [h.2]; simp
  · exact h.2.2
  · rw [h.2.2]; simp
end Go.Proofs.Ytbiklagfjeileaa
/- Blocking: Prefix. -/
set_option linter.unusedVariables false
set_option linter.unusedSimpArgs false
namespace Go.Proofs.Ytbiklagfjeileaa
open Go Go.Ab

theorem begin_eq (s : List UInt8) (n : Nat) : s.take ((if (s.length : Int) < (n : Int) then (s.length : Int) else (n : Int)).toNat) = s.take n := by
  by_cases h : (s.length : Int) < (n : Int)
  · rw [if_pos h, Int.toNat_natCast, List.take_of_length_le (Nat.le_refl _), List.take_of_length_le (by omega)]
  · rw [if_neg h, Int.toNat_natCast]
theorem prefix1_eq (t : Table) (a n i : Nat) (G : Good53 t a) (hi : i < t.Rows.length) : blocking_Prefix_1 (i : Int) t (a : Int) (n : Int) = some ((val53 t a i).Str.take n) := by
  obtain ⟨r1, v1, _⟩ := G.has i hi
  have h1 : (0 : Int) ≤ (if ((val53 t a i).Str.length : Int) < (n : Int) then ((val53 t a i).Str.length : Int) else (n : Int)) := by split <;> omega
  have h2 : (if ((val53 t a i).Str.length : Int) < (n : Int) then ((val53 t a i).Str.length : Int) else (n : Int)) ≤ ((val53 t a i).Str.length : Int) := by split <;> omega
  simp only [blocking_Prefix_1, idx_get r1, idx_get v1, Option.bind_some, if_pos h1, if_pos h2, begin_eq]
/-- strings satisfy a condition, other values are equal -/
def alikeP (t : Table) (a : Nat) (c : Nat → Nat → Bool) (i k : Nat) : Bool :=
  if (val53 t a i).Kind = 2 ∧ (val53 t a k).Kind = 2 then c i k else decide (val53 t a i = val53 t a k)
theorem alike_eq (t : Table) (a : Nat) (G : Good53 t a) (f : Int → Int → Option Bool) (c : Nat → Nat → Bool) (i k : Nat) (hik : i < k) (hk : k < t.Rows.length) (hf : (val53 t a i).Kind = 2 → (val53 t a k).Kind = 2 → f i k = some (c i k)) :
    blocking_alike_1 (i : Int) (k : Int) t (a : Int) f = some (alikeP t a c i k) := by
  obtain ⟨r1, v1, _⟩ := G.has i (by omega)
  obtain ⟨r2, v2, _⟩ := G.has k hk
  simp only [blocking_alike_1, idx_get r1, idx_get r2, idx_get v1, idx_get v2, Option.bind_some, value_Compare_eq, vcmp_eq0, alikeP]
  by_cases h1 : (val53 t a i).Kind = 2
  · by_cases h2 : (val53 t a k).Kind = 2
    · simp [h1, h2, hf h1 h2]
    · simp [h1, h2]
  · simp [h1]
def prefixC (t : Table) (a n i k : Nat) : Bool := (val53 t a i).Str.take n == (val53 t a k).Str.take n
/-- what Prefix answers -/
def prefixB (t : Table) (attr size : Int) : List Arr2_int64 × Int :=
  if errB t attr ≠ 0 then ([], errB t attr) else if size < 1 ∨ size > 200 then ([], 7) else (pairs53 t.Rows.length (alikeP t attr.toNat (prefixC t attr.toNat size.toNat)) (pairAt t), 0)
theorem Prefix_eq (t : Table) (attr size : Int) (H : TabOk t) : blocking_Prefix t attr size = some (prefixB t attr size) := by
  have hc : (show Option (Int) from if size ≥ 1 then (blocking_check t attr (decide (size ≤ 200))).bind fun (r : Int) => some r else (blocking_check t attr false).bind fun (r : Int) => some r) =
      some (if errB t attr ≠ 0 then errB t attr else if size < 1 ∨ size > 200 then 7 else 0) := by
    simp only [check53_eq t attr _ H, Option.bind_some]
    by_cases h : errB t attr = 0
    · by_cases h1 : size ≥ 1
      · by_cases h2 : size ≤ 200
        · have : ¬ (size < 1 ∨ size > 200) := by omega
          simp [h, h1, h2, this]
        · have : size < 1 ∨ size > 200 := by omega
          simp [h, h1, h2, this]
      · have : size < 1 ∨ size > 200 := by omega
        simp [h, h1, this]
    · simp [h]
  simp only [blocking_Prefix, hc, Option.bind_some, prefixB]
  by_cases h : errB t attr = 0
  · by_cases h2 : size < 1 ∨ size > 200
    · simp [h, h2]
    · obtain ⟨a, rfl, G⟩ := good_of H h
      obtain ⟨n, rfl⟩ := Int.eq_ofNat_of_zero_le (show 0 ≤ size by omega)
      simp only [h, ne_eq, not_true_eq_false, if_false, if_neg h2, Int.toNat_natCast, blocking_alike, Option.bind_some, bne_self_eq_false, Bool.false_eq_true]
      rw [pairs_eq t _ (alikeP t a (prefixC t a n)) G.few (fun i k hik hk => alike_eq t a G _ _ i k hik hk fun _ _ => by
        simp only [blocking_Prefix_2, prefix1_eq t a n i G (by omega), prefix1_eq t a n k G hk, Option.bind_some, prefixC])]
      rfl
  · simp [h]
theorem Same53_eq (a b : List Arr2_int64) (h : a.length ≤ 4611686018427387904) : drossref53_Same a b = some (decide (a = b)) := by
  simp only [drossref53_Same]
  by_cases hl : a.length = b.length
  · have h0 : ((a.length : Int) != (b.length : Int)) = false := by simp [hl]
    have hL := LoopF_allk a (drossref53_Same_l1 a b) (fun k x => decide (b[k]? = some x)) false
      (fun k x hx hk hp => by
        simp only [decide_eq_true_eq] at hp
        simp only [drossref53_Same_l1, if_pos (lt_true hx), idx_get hx, idx_get hp, Option.bind_some, beq_self_eq_true, Bool.and_self, if_true, wrap_succ hk h])
      (fun k x hx hp => by
        have hk := lt_of_get hx
        simp only [decide_eq_false_iff_not] at hp
        have hb : b[k]? = some b[k] := List.getElem?_eq_getElem (by omega)
        rw [hb] at hp
        have hne : ((x.x0 == (b[k]).x0) && (x.x1 == (b[k]).x1)) = false := by
          rw [Bool.eq_false_iff]
          intro hc
          simp only [Bool.and_eq_true, beq_iff_eq] at hc
          apply hp
          congr 1
          cases x; cases hq : b[k]; rw [hq] at hc; simp_all
        simp only [drossref53_Same_l1, if_pos (lt_true hx), idx_get hx, idx_get hb, Option.bind_some, hne, Bool.false_eq_true, if_false])
      (by simp [drossref53_Same_l1]) a 0 rfl (Nat.zero_le _)
    simp only [Int.natCast_zero] at hL
    simp only [h0, Bool.false_eq_true, if_false, hL, Option.bind_some]
    have hiff : allFrom (fun k x => decide (b[k]? = some x)) 0 a = decide (a = b) := by
      rw [Bool.eq_iff_iff, decide_eq_true_eq]
      constructor
      · intro ha
        apply List.ext_getElem?
        intro j
        by_cases hj : j < a.length
        · have := allFrom_get' ha (List.getElem?_eq_getElem hj)
          simp only [Nat.zero_add, decide_eq_true_eq] at this
          rw [this, List.getElem?_eq_getElem hj]
        · rw [List.getElem?_eq_none (by omega), List.getElem?_eq_none (by omega)]
      · rintro rfl
        exact allFrom_of _ _ _ fun j x hj => by simp [hj]
    rw [hiff]
    by_cases he : a = b <;> simp [he]
  · have h0 : ((a.length : Int) != (b.length : Int)) = true := by simp; omega
    have : a ≠ b := fun e => hl (by rw [e])
    simp [h0, this]
end Go.Proofs.Ytbiklagfjeileaa
/- Blocking: sorting by sifting, q-grams, common members. -/
set_option linter.unusedVariables false
set_option linter.unusedSimpArgs false
namespace Go.Ab
open Go
/-- an element put into a list from its end -/
def insRev {α : Type} (lt : α → α → Bool) (x : α) : List α → List α
  | [] => [x]
  | y :: r => if lt x y then y :: insRev lt x r else x :: y :: r
def insR {α : Type} (lt : α → α → Bool) (x : α) (s : List α) : List α := (insRev lt x s.reverse).reverse
theorem insRev_perm {α : Type} (lt : α → α → Bool) (x : α) : ∀ s : List α, (insRev lt x s).Perm (x :: s)
  | [] => List.Perm.refl _
  | y :: r => by
    simp only [insRev]
    split
    · exact ((insRev_perm lt x r).cons y).trans (List.Perm.swap x y r)
    · exact List.Perm.refl _
theorem insR_perm {α : Type} (lt : α → α → Bool) (x : α) (s : List α) : (insR lt x s).Perm (x :: s) := by
  unfold insR
  exact (List.reverse_perm _).trans ((insRev_perm lt x _).trans ((List.reverse_perm s).cons x))
theorem insRev_sorted {α : Type} (lt : α → α → Bool) (asym : ∀ x y, lt x y = true → lt y x = false) (ntr : ∀ x y z, lt y x = false → lt z y = false → lt z x = false) (x : α) :
    ∀ s : List α, s.Pairwise (fun a b => lt a b = false) → (insRev lt x s).Pairwise (fun a b => lt a b = false)
  | [], _ => List.pairwise_singleton _ _
  | y :: r, h => by
    simp only [insRev]
    obtain ⟨h1, h2⟩ := List.pairwise_cons.1 h
    by_cases hxy : lt x y = true
    · rw [if_pos hxy]
      refine List.pairwise_cons.2 ⟨fun z hz => ?_, insRev_sorted lt asym ntr x r h2⟩
      rcases List.mem_cons.1 ((insRev_perm lt x r).mem_iff.1 hz) with rfl | hz
      · exact asym _ _ hxy
      · exact h1 z hz
    · rw [if_neg hxy]
      have hxy : lt x y = false := by simpa using hxy
      refine List.pairwise_cons.2 ⟨fun z hz => ?_, h⟩
      rcases List.mem_cons.1 hz with rfl | hz
      · exact hxy
      · exact ntr _ _ _ (h1 z hz) hxy
theorem insR_sorted {α : Type} (lt : α → α → Bool) (asym : ∀ x y, lt x y = true → lt y x = false) (ntr : ∀ x y z, lt y x = false → lt z y = false → lt z x = false) (x : α)
    (s : List α) (h : s.Pairwise (fun a b => lt b a = false)) : (insR lt x s).Pairwise (fun a b => lt b a = false) := by
  unfold insR
  rw [List.pairwise_reverse]
  exact insRev_sorted lt asym ntr x _ (by rw [List.pairwise_reverse]; exact h)
/-- sorting by putting one after the other -/
def insAll {α : Type} (lt : α → α → Bool) (l : List α) : List α := l.foldl (fun s x => insR lt x s) []
theorem insAll_from {α : Type} (lt : α → α → Bool) (asym : ∀ x y, lt x y = true → lt y x = false) (ntr : ∀ x y z, lt y x = false → lt z y = false → lt z x = false) :
    ∀ (l s : List α), s.Pairwise (fun a b => lt b a = false) → (l.foldl (fun s x => insR lt x s) s).Perm (s ++ l) ∧ (l.foldl (fun s x => insR lt x s) s).Pairwise (fun a b => lt b a = false)
  | [], s, h => ⟨by simp, h⟩
  | x :: l, s, h => by
    obtain ⟨p, q⟩ := insAll_from lt asym ntr l (insR lt x s) (insR_sorted lt asym ntr x s h)
    refine ⟨p.trans ?_, q⟩
    exact ((insR_perm lt x s).append_right l).trans (by rw [List.cons_append]; exact List.perm_middle.symm)

/-- the common members of two lists, side by side -/
def comm {α : Type} (lt : α → α → Bool) : List α → List α → Nat
  | [], _ => 0
  | _ :: _, [] => 0
  | a :: u, b :: v => if lt a b then comm lt u (b :: v) else if lt b a then comm lt (a :: u) v else comm lt u v + 1
termination_by l r => l.length + r.length
theorem comm_nil {α : Type} (lt : α → α → Bool) (l : List α) : comm lt l [] = 0 := by cases l <;> simp [comm]
theorem comm_self {α : Type} (lt : α → α → Bool) (irr : ∀ x, lt x x = false) : ∀ l : List α, comm lt l l = l.length
  | [] => by simp [comm]
  | a :: l => by simp [comm, irr, comm_self lt irr l]
end Go.Ab
namespace Go.Proofs.Ytbiklagfjeileaa
open Go Go.Ab

abbrev Str := List UInt8
def ltS (a b : Str) : Bool := decide (a < b)
theorem bless : ∀ (x y : Str), Op.bytesLess x y = ltS x y := fun x y => by
  show Op.bytesLess x y = decide (x < y)
  induction x generalizing y with
  | nil => cases y <;> simp [Op.bytesLess]
  | cons a x ih =>
    cases y with
    | nil => simp [Op.bytesLess]
    | cons b y =>
      simp only [Op.bytesLess, ih]
      by_cases h1 : a < b
      · simp [h1, List.cons_lt_cons_iff]
      · by_cases h2 : a = b
        · subst h2; simp [List.cons_lt_cons_iff]
        · simp [h1, h2, List.cons_lt_cons_iff]
theorem ltS_irr (x : Str) : ltS x x = false := by simp [ltS, List.lt_irrefl]
theorem ltS_asym (x y : Str) (h : ltS x y = true) : ltS y x = false := by
  simp only [ltS, decide_eq_true_eq, decide_eq_false_iff_not] at *
  exact List.lt_asymm h
theorem ltS_ntr (x y z : Str) (h1 : ltS y x = false) (h2 : ltS z y = false) : ltS z x = false := by
  simp only [ltS, decide_eq_false_iff_not, List.not_lt] at *
  exact List.le_trans h1 h2
theorem ltS_eq {x y : Str} (h1 : ltS x y = false) (h2 : ltS y x = false) : x = y := by
  simp only [ltS, decide_eq_false_iff_not, List.not_lt] at *
  exact List.le_antisymm h2 h1
end Go.Proofs.Ytbiklagfjeileaa
/- Blocking: q-grams of both kinds, common members of both kinds. -/
set_option linter.unusedVariables false
set_option linter.unusedSimpArgs false
namespace Go.Proofs.Ytbiklagfjeileaa
open Go Go.Ab

theorem repeat1 : ∀ n : Nat, Lib.repeatL [1] n = List.replicate n (1 : UInt8)
  | 0 => rfl
  | n + 1 => by simp only [Lib.repeatL, repeat1 n]; rfl
/-- a string between its edges -/
def wideB (s : Str) (q : Nat) : Str := List.replicate (q - 1) 1 ++ s ++ List.replicate (q - 1) 1
theorem wideB_len (s : Str) (q : Nat) : (wideB s q).length = s.length + 2 * (q - 1) := by simp [wideB]; omega
def gramAt (s : Str) (q i : Nat) : Str := ((wideB s q).drop i).take q
def rawGrams (s : Str) (q : Nat) : List Str := (List.range (s.length + q - 1)).map (gramAt s q)
/-- the q-grams, ascending -/
def gramsB (s : Str) (q : Nat) : List Str := insAll ltS (rawGrams s q)
theorem gramsB_perm (s : Str) (q : Nat) : (gramsB s q).Perm (rawGrams s q) := by
  have := (insAll_from ltS ltS_asym ltS_ntr (rawGrams s q) [] List.Pairwise.nil).1
  simpa [gramsB, insAll] using this
theorem gramsB_len (s : Str) (q : Nat) : (gramsB s q).length = s.length + q - 1 := by rw [(gramsB_perm s q).length_eq]; simp [rawGrams]
theorem srtS_ins (l : List Str) : srtS l = insAll ltS l := by
  obtain ⟨p, h⟩ := insAll_from ltS ltS_asym ltS_ntr l [] List.Pairwise.nil
  have p : (insAll ltS l).Perm l := by simpa [insAll] using p
  refine List.Perm.eq_of_pairwise (le := fun x y => ltS y x = false) (fun a b _ _ h1 h2 => ltS_eq h2 h1) ?_ h ((srtS_perm l).trans p.symm)
  have := List.pairwise_mergeSort (le := fun x y : Str => decide (x ≤ y)) (fun a b c h1 h2 => by simp only [decide_eq_true_eq] at *; exact List.le_trans h1 h2) (fun a b => by simp only [Bool.or_eq_true, decide_eq_true_eq]; exact List.le_total a b) l
  exact this.imp fun h => by simpa [ltS, List.not_lt] using h

theorem wrapN {x : Int} (h1 : -4611686018427387904 ≤ x) (h2 : x ≤ 4611686018427387904) : IntKind.i64.wrap x = x := wrap_i64 (by omega) (by omega)
theorem Grams_eq (s : Str) (q : Nat) (hs : s.length ≤ 200) (h1 : 1 ≤ q) (h4 : q ≤ 4) : similarity_Grams s (q : Int) = some (gramsB s q, 0) := by
  have hlong : similarity_long [s] = some false := by
    have : ¬ ((s.length : Int) > 200) := by omega
    simp only [similarity_long, slices_ContainsFunc_string, slices_IndexFunc_string]
    have e1 : slices_IndexFunc_string_l1 [s] (fun y => similarity_long_1 y) 0 = some (.next 1) := by
      have : idx [s] 0 = some s := rfl
      simp only [slices_IndexFunc_string_l1, this, Option.bind_some, similarity_long_1, List.length_singleton]
      have h0 : (0 : Int) < ((1 : Nat) : Int) := by omega
      have h2 : (0 : Int) + 1 = 1 := rfl
      rw [if_pos h0]
      simp only [show ¬ ((s.length : Int) > 200) by omega, decide_false, Bool.false_eq_true, if_false]
      rw [wrapN (by omega) (by omega)]; rfl
    have e2 : slices_IndexFunc_string_l1 [s] (fun y => similarity_long_1 y) 1 = some (.done (.inl ())) := by simp [slices_IndexFunc_string_l1]
    rw [Loop_next e1, Loop_done e2]
    rfl
  have hq1 : ¬ ((q : Int) < 1) := by omega
  have hq2 : ¬ ((q : Int) > 4) := by omega
  have hw1 : IntKind.i64.wrap ((q : Int) - 1) = ((q - 1 : Nat) : Int) := by rw [wrapN (by omega) (by omega)]; omega
  have hr : strings_Repeat [1] ((q - 1 : Nat) : Int) = some (List.replicate (q - 1) 1) := by
    simp only [strings_Repeat, repF]
    rw [if_pos ⟨by omega, by omega, by simp⟩, Int.toNat_natCast, repeat1]
  have hl1 : (List.replicate (q - 1) (1 : UInt8)).length + s.length ≤ 9223372036854775807 := by simp; omega
  have hl2 : (List.replicate (q - 1) (1 : UInt8) ++ s).length + (List.replicate (q - 1) (1 : UInt8)).length ≤ 9223372036854775807 := by simp; omega
  have hN : IntKind.i64.wrap (IntKind.i64.wrap ((s.length : Int) + (q : Int)) - 1) = ((s.length + q - 1 : Nat) : Int) := by
    rw [wrapN (x := (s.length : Int) + (q : Int)) (by omega) (by omega), wrapN (by omega) (by omega)]; omega
  have hL := LoopF_list (List.range (s.length + q - 1)) (fun (out : List Str) (k : Int) => (out, k)) (similarity_Grams_l1 s q (wideB s q)) (fun out i => (Sum.inl (out ++ [gramAt s q i]) : List Str ⊕ List Str)) id (fun k out => out.length = k) (b0 := []) (s0 := ([], 0)) rfl rfl
    (fun k b x hx hk hI => by
      obtain ⟨rfl, hk⟩ := range_get hx
      refine ⟨fun b' hb => ?_, fun t ht => by cases ht⟩
      cases hb
      have e1 : ((x : Nat) : Int) < ((s.length + q - 1 : Nat) : Int) := by omega
      have e2 : IntKind.i64.wrap ((x : Int) + (q : Int)) = ((x + q : Nat) : Int) := by rw [wrapN (by omega) (by omega)]; omega
      have e3 : (x : Int) ≤ ((x + q : Nat) : Int) := by omega
      have e4 : ((x + q : Nat) : Int) ≤ ((wideB s q).length : Int) := by rw [wideB_len]; omega
      refine ⟨?_, by simp [hI]⟩
      simp only [similarity_Grams_l1, hN, if_pos e1, e2, if_pos e3, if_pos e4, show (0 : Int) ≤ (x : Int) by omega, if_true, room16 (show b.length + 1 ≤ 8000000000 by omega), Int.toNat_natCast, wrap_nat (show x < 4611686018427387904 by omega)]
      rw [show x + q - x = q by omega]; rfl)
    (fun b hI => by simp only [List.length_range, similarity_Grams_l1, hN]; simp)
  have hf : foldR (fun out i => (Sum.inl (out ++ [gramAt s q i]) : List Str ⊕ List Str)) id (List.range (s.length + q - 1)) [] = rawGrams s q := by
    rw [foldl_of (fun out i => out ++ [gramAt s q i])]
    unfold rawGrams
    have : ∀ (l : List Nat) (out : List Str), l.foldl (fun out i => out ++ [gramAt s q i]) out = out ++ l.map (gramAt s q) := by
      intro l
      induction l with
      | nil => simp
      | cons x l ih => intro out; simp [ih]
    rw [this]; rfl
  rw [hf] at hL
  have hsz : (rawGrams s q).length < 4611686018427387904 := by simp [rawGrams]; omega
  have hwide : List.replicate (q - 1) (1 : UInt8) ++ s ++ List.replicate (q - 1) 1 = wideB s q := rfl
  simp only [similarity_Grams, hlong, Option.bind_some, Bool.false_eq_true, if_false, hq1, hq2, hw1, hr, if_pos hl1, if_pos hl2, hwide, hL, srtSF, if_pos hsz, srtS_ins]
  rfl
/-! ### common members -/
theorem cmp_string_eq (a b : Str) : cmp_Compare_string a b = some (if ltS a b then -1 else if ltS b a then 1 else 0) := by
  simp only [cmp_Compare_string, cmp_isNaN_string, Option.bind_some, beq_self_eq_true, Bool.not_true, Bool.false_eq_true, if_false, bless]
  by_cases h1 : ltS a b = true
  · simp [h1]
  · by_cases h2 : a = b
    · subst h2; simp [ltS_irr]
    · have h1' : ltS a b = false := by simpa using h1
      have h3 : ltS b a = true := by
        rcases Bool.eq_false_or_eq_true (ltS b a) with h | h
        · exact h
        · exact absurd (ltS_eq h1' h) h2
      simp [h1', h2, h3]
theorem drop_cons {α : Type} {l : List α} {k : Nat} {x : α} (h : l[k]? = some x) : l.drop k = x :: l.drop (k + 1) := by
  obtain ⟨h1, h2⟩ := List.getElem?_eq_some_iff.1 h
  rw [List.drop_eq_getElem_cons h1, h2]
theorem common_eq (a b : List Str) (ha : a.length ≤ 1000000) (hb : b.length ≤ 1000000) : blocking_common a b = some ((comm ltS a b : Nat) : Int) := by
  have key : ∀ (m i k n : Nat), (a.length - i) + (b.length - k) = m → i ≤ a.length → k ≤ b.length → n ≤ i → LoopF (blocking_common_l1 a b) ((n : Int), (i : Int), (k : Int)) = some ((n + comm ltS (a.drop i) (b.drop k) : Nat) : Int) := by
    intro m
    induction m using Nat.strongRecOn with
    | ind m ih =>
      intro i k n hm hi hk hn
      by_cases h1 : i < a.length
      · by_cases h2 : k < b.length
        · have g1 : a[i]? = some a[i] := List.getElem?_eq_getElem h1
          have g2 : b[k]? = some b[k] := List.getElem?_eq_getElem h2
          have e1 : (i : Int) < (a.length : Int) := by omega
          have e2 : (k : Int) < (b.length : Int) := by omega
          rw [drop_cons g1, drop_cons g2]
          have hB : ∀ x y, x = a[i] → y = b[k] → blocking_common_l1 a b ((n : Int), (i : Int), (k : Int)) = if ltS x y then some (.next ((n : Int), ((i + 1 : Nat) : Int), (k : Int))) else if ltS y x then some (.next ((n : Int), (i : Int), ((k + 1 : Nat) : Int))) else some (.next (((n + 1 : Nat) : Int), ((i + 1 : Nat) : Int), ((k + 1 : Nat) : Int))) := by
            intro x y hx hy
            subst hx hy
            simp only [blocking_common_l1, if_pos e1, if_pos e2, idx_get g1, idx_get g2, Option.bind_some, cmp_string_eq, wrap_nat (show i < 4611686018427387904 by omega), wrap_nat (show k < 4611686018427387904 by omega), wrap_nat (show n < 4611686018427387904 by omega)]
            by_cases l1 : ltS a[i] b[k] = true
            · simp [l1]
            · by_cases l2 : ltS b[k] a[i] = true <;> simp [l1, l2]
          have hB := hB _ _ rfl rfl
          by_cases l1 : ltS a[i] b[k] = true
          · rw [if_pos l1] at hB
            rw [Loop_next hB, ih _ (by omega) (i + 1) k n rfl (by omega) (by omega) (by omega)]
            simp only [comm, l1, if_true]
            rw [drop_cons g2]
          · rw [if_neg l1] at hB
            by_cases l2 : ltS b[k] a[i] = true
            · rw [if_pos l2] at hB
              rw [Loop_next hB, ih _ (by omega) i (k + 1) n rfl (by omega) (by omega) (by omega)]
              simp only [comm, l1, l2, if_true, if_false, Bool.false_eq_true]
              rw [drop_cons g1]
            · rw [if_neg l2] at hB
              rw [Loop_next hB, ih _ (by omega) (i + 1) (k + 1) (n + 1) rfl (by omega) (by omega) (by omega)]
              simp only [comm, l1, l2, if_false, Bool.false_eq_true]
              congr 2; omega
        · have e1 : (i : Int) < (a.length : Int) := by omega
          have e2 : ¬ (k : Int) < (b.length : Int) := by omega
          rw [Loop_done (t := (n : Int)) (by simp only [blocking_common_l1, if_pos e1, if_neg e2]), List.drop_of_length_le (l := b) (by omega), comm_nil]; rfl
      · have e1 : ¬ (i : Int) < (a.length : Int) := by omega
        rw [Loop_done (t := (n : Int)) (by simp only [blocking_common_l1, if_neg e1]), List.drop_of_length_le (l := a) (by omega)]
        simp [comm]
  have := key _ 0 0 0 rfl (Nat.zero_le _) (Nat.zero_le _) (Nat.le_refl _)
  simp only [Int.natCast_zero, List.drop_zero, Nat.zero_add] at this
  simp only [blocking_common, this, Option.bind_some]
end Go.Proofs.Ytbiklagfjeileaa
/- Blocking: Filter. -/
set_option linter.unusedVariables false
set_option linter.unusedSimpArgs false
namespace Go.Proofs.Ytbiklagfjeileaa
open Go Go.Ab

/-- the count filter of two strings -/
def passB (k q : Nat) (s u : Str) : Bool :=
  decide (max s.length u.length - min s.length u.length ≤ k) && decide (max s.length u.length + q ≤ comm ltS (gramsB s q) (gramsB u q) + 1 + k * q)
def filterC (t : Table) (a k q i j : Nat) : Bool := passB k q (val53 t a i).Str (val53 t a j).Str
/-- what Filter answers -/
def filterB (t : Table) (attr k q : Int) : List Arr2_int64 × Int :=
  if errB t attr ≠ 0 then ([], errB t attr) else if k < 0 ∨ k > 200 ∨ q < 1 ∨ q > 4 then ([], 7) else (pairs53 t.Rows.length (alikeP t attr.toNat (filterC t attr.toNat k.toNat q.toNat)) (pairAt t), 0)

def gOf (t : Table) (a q i : Nat) : List Str := if (val53 t a i).Kind = 2 then gramsB (val53 t a i).Str q else []
def sOf (t : Table) (a i : Nat) : Int := if (val53 t a i).Kind = 2 then ((val53 t a i).Str.length : Int) else 0
def upTo {α : Type} (n k : Nat) (f : Nat → α) (z : α) : List α := (List.range n).map fun j => if j < k then f j else z
theorem upTo_get {α : Type} {n k j : Nat} {f : Nat → α} {z : α} (h : j < n) : (upTo n k f z)[j]? = some (if j < k then f j else z) := by
  unfold upTo
  rw [List.getElem?_map, List.getElem?_range h]; rfl
theorem upTo_set {α : Type} {n k : Nat} {f : Nat → α} {z : α} (h : k < n) : (upTo n k f z).set k (f k) = upTo n (k + 1) f z := by
  apply List.ext_getElem?
  intro j
  by_cases hj : j < n
  · rw [List.getElem?_set, upTo_get hj, upTo_get hj]
    by_cases hk : k = j
    · subst hk; simp [upTo, hj]
    · rw [if_neg hk]
      congr 1
      by_cases h1 : j < k
      · rw [if_pos h1, if_pos (by omega)]
      · rw [if_neg h1, if_neg (by omega)]
  · rw [List.getElem?_eq_none (by simp [upTo]; omega), List.getElem?_eq_none (by simp [upTo]; omega)]
theorem upTo_same {α : Type} {n k : Nat} {f : Nat → α} {z : α} (hz : f k = z) : upTo n k f z = upTo n (k + 1) f z := by
  unfold upTo
  apply List.map_congr_left
  intro j _
  by_cases h1 : j < k
  · rw [if_pos h1, if_pos (by omega)]
  · by_cases h2 : j = k
    · subst h2; rw [if_neg h1, if_pos (by omega), hz]
    · rw [if_neg h1, if_neg (by omega)]
theorem upTo_zero {α : Type} {n : Nat} {f : Nat → α} {z : α} : upTo n 0 f z = List.replicate n z := by
  unfold upTo
  apply List.ext_getElem (by simp)
  intro i h1 h2; simp
theorem foldR_const {α τ : Type} (C : τ) : ∀ l : List α, foldR (fun (_ : Unit) (_ : α) => (Sum.inl () : Unit ⊕ τ)) (fun _ => C) l () = C
  | [] => rfl
  | x :: l => foldR_const C l
theorem Filter_loop (t : Table) (a q : Nat) (G : Good53 t a) (h1 : 1 ≤ q) (h4 : q ≤ 4) : LoopF (blocking_Filter_l1 t (a : Int) (q : Int)) (List.replicate t.Rows.length [], List.replicate t.Rows.length 0, 0) =
    some (.inl (upTo t.Rows.length t.Rows.length (gOf t a q) [], upTo t.Rows.length t.Rows.length (sOf t a) 0)) := by
  have hn := G.few
  have hL := LoopF_list t.Rows (fun (_ : Unit) (k : Int) => (upTo t.Rows.length k.toNat (gOf t a q) [], upTo t.Rows.length k.toNat (sOf t a) 0, k)) (blocking_Filter_l1 t (a : Int) (q : Int))
    (fun _ _ => (Sum.inl () : Unit ⊕ ((List (List Str) × List Int) ⊕ (List Arr2_int64 × Int)))) (fun _ => .inl (upTo t.Rows.length t.Rows.length (gOf t a q) [], upTo t.Rows.length t.Rows.length (sOf t a) 0)) (fun _ _ => True) (b0 := ()) (s0 := (List.replicate t.Rows.length [], List.replicate t.Rows.length 0, 0))
    (by simp only [Int.toNat_zero, upTo_zero]) trivial
    (fun k b x hx hk _ => by
      refine ⟨fun b' hb => ⟨?_, trivial⟩, fun t ht => by cases ht⟩
      obtain ⟨r1, v1, o1⟩ := G.has k hk
      have hki : (k : Int) < (t.Rows.length : Int) := by omega
      have hlen := short_ok o1
      simp only [blocking_Filter_l1, if_pos hki, idx_get r1, idx_get v1, Option.bind_some, Int.toNat_natCast, wrap_nat (show k < 4611686018427387904 by omega)]
      by_cases hkind : (val53 t a k).Kind = 2
      · have e1 := upTo_get (f := gOf t a q) (z := []) (k := k) hk
        have e2 := upTo_get (f := sOf t a) (z := 0) (k := k) hk
        have e3 := upTo_set (f := gOf t a q) (z := []) hk
        have e4 := upTo_set (f := sOf t a) (z := 0) hk
        unfold gOf at e3
        unfold sOf at e4
        rw [if_pos hkind] at e3 e4
        simp only [hkind, beq_self_eq_true, if_true, Grams_eq _ q hlen h1 h4, Option.bind_some, bne_self_eq_false, Bool.false_eq_true, if_false, idx_get e1, idx_get e2]
        unfold gOf sOf
        rw [e3, e4]
      · have hb : ((val53 t a k).Kind == 2) = false := by simpa using hkind
        simp only [hb, Bool.false_eq_true, if_false]
        rw [upTo_same (f := gOf t a q) (by simp [gOf, hkind]), upTo_same (f := sOf t a) (by simp [sOf, hkind])])
    (fun b _ => by simp [blocking_Filter_l1])
  rw [hL, foldR_const]
theorem pass_num (s u : Str) (k q c : Nat) (hs : s.length ≤ 200) (hu : u.length ≤ 200) (hk : k ≤ 200) (h1 : 1 ≤ q) (h4 : q ≤ 4) :
    ((if IntKind.i64.wrap ((u.length : Int) - (s.length : Int)) > IntKind.i64.wrap ((s.length : Int) - (u.length : Int)) then IntKind.i64.wrap ((u.length : Int) - (s.length : Int)) else IntKind.i64.wrap ((s.length : Int) - (u.length : Int))) ≤ (k : Int) ↔ max s.length u.length - min s.length u.length ≤ k) ∧
    ((c : Int) ≥ IntKind.i64.wrap (IntKind.i64.wrap (IntKind.i64.wrap ((if (u.length : Int) > (s.length : Int) then (u.length : Int) else (s.length : Int)) + (q : Int)) - 1) - IntKind.i64.wrap ((k : Int) * (q : Int))) ↔ max s.length u.length + q ≤ c + 1 + k * q) := by
  have hkq : k * q ≤ 200 * 4 := Nat.mul_le_mul hk h4
  have hcast : (k : Int) * (q : Int) = ((k * q : Nat) : Int) := by simp
  generalize k * q = kq at hkq hcast
  rw [hcast]
  have w1 : IntKind.i64.wrap ((u.length : Int) - (s.length : Int)) = (u.length : Int) - (s.length : Int) := wrapN (by omega) (by omega)
  have w2 : IntKind.i64.wrap ((s.length : Int) - (u.length : Int)) = (s.length : Int) - (u.length : Int) := wrapN (by omega) (by omega)
  have w3 : IntKind.i64.wrap (kq : Int) = (kq : Int) := wrapN (by omega) (by omega)
  rw [w1, w2, w3]
  constructor
  · split <;> omega
  · by_cases h : (u.length : Int) > (s.length : Int)
    · rw [if_pos h, wrapN (x := (u.length : Int) + (q : Int)) (by omega) (by omega), wrapN (x := (u.length : Int) + (q : Int) - 1) (by omega) (by omega), wrapN (by omega) (by omega)]
      omega
    · rw [if_neg h, wrapN (x := (s.length : Int) + (q : Int)) (by omega) (by omega), wrapN (x := (s.length : Int) + (q : Int) - 1) (by omega) (by omega), wrapN (by omega) (by omega)]
      omega
theorem Filter_eq (t : Table) (attr k q : Int) (H : TabOk t) : blocking_Filter t attr k q = some (filterB t attr k q) := by
  have hc : (show Option (Int) from if k ≥ 0 then if k ≤ 200 then if q ≥ 1 then (blocking_check t attr (decide (q ≤ 4))).bind fun (r : Int) => some r else (blocking_check t attr false).bind fun (r : Int) => some r else (blocking_check t attr false).bind fun (r : Int) => some r else (blocking_check t attr false).bind fun (r : Int) => some r) =
      some (if errB t attr ≠ 0 then errB t attr else if k < 0 ∨ k > 200 ∨ q < 1 ∨ q > 4 then 7 else 0) := by
    simp only [check53_eq t attr _ H, Option.bind_some]
    by_cases h : errB t attr = 0
    · by_cases h1 : k ≥ 0
      · by_cases h2 : k ≤ 200
        · by_cases h3 : q ≥ 1
          · by_cases h4 : q ≤ 4
            · have : ¬ (k < 0 ∨ k > 200 ∨ q < 1 ∨ q > 4) := by omega
              simp [h, h1, h2, h3, h4, this]
            · have : k < 0 ∨ k > 200 ∨ q < 1 ∨ q > 4 := by omega
              simp [h, h1, h2, h3, h4, this]
          · have : k < 0 ∨ k > 200 ∨ q < 1 ∨ q > 4 := by omega
            simp [h, h1, h2, h3, this]
        · have : k < 0 ∨ k > 200 ∨ q < 1 ∨ q > 4 := by omega
          simp [h, h1, h2, this]
      · have : k < 0 ∨ k > 200 ∨ q < 1 ∨ q > 4 := by omega
        simp [h, h1, this]
    · simp [h]
  simp only [blocking_Filter, hc, Option.bind_some, filterB]
  by_cases h : errB t attr = 0
  · by_cases h2 : k < 0 ∨ k > 200 ∨ q < 1 ∨ q > 4
    · simp [h, h2]
    · obtain ⟨a, rfl, G⟩ := good_of H h
      obtain ⟨m, rfl⟩ := Int.eq_ofNat_of_zero_le (show 0 ≤ k by omega)
      obtain ⟨p, rfl⟩ := Int.eq_ofNat_of_zero_le (show 0 ≤ q by omega)
      have hn := G.few
      have r1 : roomB t.Rows.length 24 = true := room_le (by omega) (by omega)
      have r2 : roomB t.Rows.length 8 = true := room_le (by omega) (by omega)
      simp only [h, ne_eq, not_true_eq_false, if_false, if_neg h2, Int.toNat_natCast, blocking_alike, Option.bind_some, bne_self_eq_false, Bool.false_eq_true, r1, r2, if_true, show (0 : Int) ≤ (t.Rows.length : Int) by omega,
        Filter_loop t a p G (by omega) (by omega)]
      rw [pairs_eq t _ (alikeP t a (filterC t a m p)) G.few (fun i j hij hj => alike_eq t a G _ _ i j hij hj fun k1 k2 => by
        obtain ⟨_, _, o1⟩ := G.has i (by omega)
        obtain ⟨_, _, o2⟩ := G.has j hj
        have l1 := short_ok o1
        have l2 := short_ok o2
        have g1 := upTo_get (n := t.Rows.length) (k := t.Rows.length) (f := gOf t a p) (z := []) (j := i) (by omega)
        have g2 := upTo_get (n := t.Rows.length) (k := t.Rows.length) (f := gOf t a p) (z := []) (j := j) hj
        have g3 := upTo_get (n := t.Rows.length) (k := t.Rows.length) (f := sOf t a) (z := 0) (j := i) (by omega)
        have g4 := upTo_get (n := t.Rows.length) (k := t.Rows.length) (f := sOf t a) (z := 0) (j := j) hj
        rw [if_pos (by omega)] at g1 g2 g3 g4
        unfold gOf at g1 g2
        unfold sOf at g3 g4
        rw [if_pos k1] at g1 g3
        rw [if_pos k2] at g2 g4
        have hgl1 := gramsB_len (val53 t a i).Str p
        have hgl2 := gramsB_len (val53 t a j).Str p
        obtain ⟨n1, n2⟩ := pass_num (val53 t a i).Str (val53 t a j).Str m p (comm ltS (gramsB (val53 t a i).Str p) (gramsB (val53 t a j).Str p)) l1 l2 (by omega) (by omega) (by omega)
        unfold gOf sOf
        simp only [blocking_Filter_1, idx_get g1, idx_get g2, idx_get g3, idx_get g4, Option.bind_some, common_eq _ _ (show (gramsB (val53 t a i).Str p).length ≤ 1000000 by omega) (show (gramsB (val53 t a j).Str p).length ≤ 1000000 by omega), filterC, passB]
        by_cases c1 : max (val53 t a i).Str.length (val53 t a j).Str.length - min (val53 t a i).Str.length (val53 t a j).Str.length ≤ m
        · rw [if_pos (n1.2 c1)]
          simp only [c1, decide_true, Bool.true_and, Option.some.injEq]
          rw [Bool.eq_iff_iff, decide_eq_true_eq, decide_eq_true_eq]
          exact n2
        · rw [if_neg (fun h => c1 (n1.1 h))]
          simp [c1])]
      rfl
  · simp [h]
theorem passB_self (k q : Nat) (s : Str) (h1 : 1 ≤ q) : passB k q s s = true := by
  unfold passB
  rw [comm_self ltS ltS_irr, gramsB_len]
  simp; omega
end Go.Proofs.Ytbiklagfjeileaa
/- Blocking: Window. -/
set_option linter.unusedVariables false
set_option linter.unusedSimpArgs false
namespace Go.Proofs.Ytbiklagfjeileaa
open Go Go.Ab

/-- the order of two rows: by the value, then by the place -/
def ordC (t : Table) (a i k : Nat) : Int := if vcmp (val53 t a i) (val53 t a k) ≠ 0 then vcmp (val53 t a i) (val53 t a k) else sgn (i : Int) (k : Int)
theorem ordC_lt {t : Table} {a i k : Nat} : ordC t a i k < 0 ↔ vcmp (val53 t a i) (val53 t a k) < 0 ∨ (val53 t a i = val53 t a k ∧ i < k) := by
  unfold ordC
  by_cases h : vcmp (val53 t a i) (val53 t a k) = 0
  · rw [if_neg (by simpa using h), sgn_lt]
    have := (vcmp_eq _ _).1 h
    have hz := vcmp_self (val53 t a k)
    simp [this, hz]
  · rw [if_pos h]
    have : ¬ (val53 t a i = val53 t a k) := fun e => h ((vcmp_eq _ _).2 e)
    simp [this]
theorem ordC_trans {t : Table} {a i j k : Nat} (h1 : ordC t a i j < 0) (h2 : ordC t a j k < 0) : ordC t a i k < 0 := by
  rw [ordC_lt] at *
  rcases h1 with h1 | ⟨e1, h1⟩
  · rcases h2 with h2 | ⟨e2, h2⟩
    · exact .inl (vcmp_trans _ _ _ h1 h2)
    · rw [← e2]; exact .inl h1
  · rcases h2 with h2 | ⟨e2, h2⟩
    · rw [e1]; exact .inl h2
    · exact .inr ⟨e1.trans e2, by omega⟩
theorem ordC_asym {t : Table} {a i j : Nat} (h1 : ordC t a i j < 0) : ¬ ordC t a j i < 0 := by
  rw [ordC_lt] at *
  have := vcmp_neg (val53 t a i) (val53 t a j)
  rintro (h2 | ⟨e2, h2⟩)
  · rcases h1 with h1 | ⟨e1, h1⟩
    · omega
    · have := (vcmp_eq _ _).2 e1; omega
  · rcases h1 with h1 | ⟨e1, h1⟩
    · have := (vcmp_eq _ _).2 e2; omega
    · omega
theorem ordC_total {t : Table} {a i j : Nat} (h1 : ¬ ordC t a i j < 0) (h2 : ¬ ordC t a j i < 0) : i = j := by
  rw [ordC_lt] at *
  have := vcmp_neg (val53 t a i) (val53 t a j)
  by_cases e : val53 t a i = val53 t a j
  · by_cases h : i = j
    · exact h
    · rcases Nat.lt_or_gt_of_ne h with h | h
      · exact absurd (.inr ⟨e, h⟩) h1
      · exact absurd (.inr ⟨e.symm, h⟩) h2
  · have : vcmp (val53 t a i) (val53 t a j) ≠ 0 := fun h => e ((vcmp_eq _ _).1 h)
    exfalso
    rcases Int.lt_or_gt_of_ne this with h | h
    · exact h1 (.inl h)
    · exact h2 (.inl (by omega))
/-- how many rows come before one -/
def posN (t : Table) (a i : Nat) : Nat := (List.range t.Rows.length).countP fun k => decide (ordC t a k i < 0)
theorem posN_le (t : Table) (a i : Nat) : posN t a i ≤ t.Rows.length := by
  unfold posN
  have := List.countP_le_length (p := fun k => decide (ordC t a k i < 0)) (l := List.range t.Rows.length)
  simpa using this
def windowP (t : Table) (a w i k : Nat) : Bool := decide (max (posN t a i) (posN t a k) - min (posN t a i) (posN t a k) < w)
/-- what Window answers -/
def windowB (t : Table) (attr w : Int) : List Arr2_int64 × Int :=
  if errB t attr ≠ 0 then ([], errB t attr) else if w < 2 ∨ w > 200 then ([], 7) else (pairs53 t.Rows.length (windowP t attr.toNat w.toNat) (pairAt t), 0)
theorem cmp_Or2 (a b : Int) : cmp_Or_int [a, b] = some (if a ≠ 0 then a else b) := by
  have e1 : cmp_Or_int_l1 [a, b] 0 = if a ≠ 0 then some (.done (.inr a)) else some (.next 1) := by
    have h0 : idx [a, b] 0 = some a := rfl
    have h1 : (0 : Int) < (([a, b] : List Int).length : Int) := by simp
    have h2 : IntKind.i64.wrap (0 + 1) = 1 := by decide
    simp only [cmp_Or_int_l1, if_pos h1, h0, Option.bind_some, h2]
    by_cases h : a = 0
    · rw [if_neg (by simpa using h), if_neg (by simpa using h)]
    · rw [if_pos (by simpa using h), if_pos h]
  have e2 : cmp_Or_int_l1 [a, b] 1 = if b ≠ 0 then some (.done (.inr b)) else some (.next 2) := by
    have h0 : idx [a, b] 1 = some b := rfl
    have h1 : (1 : Int) < (([a, b] : List Int).length : Int) := by simp
    have h2 : IntKind.i64.wrap (1 + 1) = 2 := by decide
    simp only [cmp_Or_int_l1, if_pos h1, h0, Option.bind_some, h2]
    by_cases h : b = 0
    · rw [if_neg (by simpa using h), if_neg (by simpa using h)]
    · rw [if_pos (by simpa using h), if_pos h]
  have e3 : cmp_Or_int_l1 [a, b] 2 = some (.done (.inl ())) := by simp [cmp_Or_int_l1]
  simp only [cmp_Or_int]
  by_cases h : a = 0
  · rw [if_neg (by simpa using h)] at e1
    rw [Loop_next e1]
    by_cases hb : b = 0
    · rw [if_neg (by simpa using hb)] at e2
      rw [Loop_next e2, Loop_done e3]; simp [h, hb]
    · rw [if_pos hb] at e2
      rw [Loop_done e2]; simp [h]
  · rw [if_pos h] at e1
    rw [Loop_done e1]; simp [h]
theorem window1_eq (t : Table) (a i k : Nat) (G : Good53 t a) (hi : i < t.Rows.length) (hk : k < t.Rows.length) : blocking_Window_1 (i : Int) (k : Int) t (a : Int) = some (ordC t a i k) := by
  obtain ⟨r1, v1, _⟩ := G.has i hi
  obtain ⟨r2, v2, _⟩ := G.has k hk
  simp only [blocking_Window_1, idx_get r1, idx_get r2, idx_get v1, idx_get v2, Option.bind_some, value_Compare_eq, cmp_int_eq, cmp_Or2, ordC]
/-- the numbers below n -/
def ordN (n : Nat) : List Int := (List.range n).map (fun i : Nat => (i : Int))
theorem upTo_all {α : Type} {n : Nat} {f : Nat → α} {z : α} : upTo n n f z = (List.range n).map f := by
  unfold upTo
  apply List.map_congr_left
  intro j hj
  rw [if_pos (List.mem_range.1 hj)]
theorem order_loop (t : Table) (hn : t.Rows.length ≤ 200) : LoopF (blocking_Window_l1 t) (List.replicate t.Rows.length 0, 0) = some (ordN t.Rows.length) := by
  have hL := LoopF_list t.Rows (fun (_ : Unit) (k : Int) => (upTo t.Rows.length k.toNat (fun i => (i : Int)) 0, k)) (blocking_Window_l1 t) (fun _ _ => (Sum.inl () : Unit ⊕ List Int)) (fun _ => ordN t.Rows.length) (fun _ _ => True)
    (b0 := ()) (s0 := (List.replicate t.Rows.length 0, 0)) (by simp only [Int.toNat_zero, upTo_zero]) trivial
    (fun k b x hx hk _ => by
      refine ⟨fun b' hb => ⟨?_, trivial⟩, fun t ht => by cases ht⟩
      have hki : (k : Int) < (t.Rows.length : Int) := by omega
      have e1 := upTo_get (f := fun i : Nat => (i : Int)) (z := 0) (k := k) hk
      have e3 := upTo_set (f := fun i : Nat => (i : Int)) (z := 0) hk
      simp only [blocking_Window_l1, if_pos hki, Int.toNat_natCast, idx_get e1, Option.bind_some, wrap_nat (show k < 4611686018427387904 by omega)]
      rw [e3])
    (fun b _ => by
      simp only [blocking_Window_l1, Int.toNat_natCast, upTo_all]
      simp [ordN])
  rw [hL, foldR_const]
/-- the sorted order of the rows -/
theorem sorted_order (t : Table) (a : Nat) (G : Good53 t a) : ∃ l : List Nat, srtF (fun (x : Int) (y : Int) => blocking_Window_1 x y t (a : Int)) (ordN t.Rows.length) = some (l.map (fun i : Nat => (i : Int))) ∧ l.Perm (List.range t.Rows.length) ∧ l.Pairwise fun x y => ordC t a x y < 0 := by
  have hn := G.few
  have hm : ∀ x ∈ ordN t.Rows.length, ∃ i : Nat, x = (i : Int) ∧ i < t.Rows.length := by
    intro x hx
    obtain ⟨i, hi, rfl⟩ := List.mem_map.1 hx
    exact ⟨i, rfl, List.mem_range.1 hi⟩
  have hd : ∀ x ∈ ordN t.Rows.length, ∀ y ∈ ordN t.Rows.length, (blocking_Window_1 x y t (a : Int)) = some (ordC t a x.toNat y.toNat) := by
    intro x hx y hy
    obtain ⟨i, rfl, hi⟩ := hm x hx
    obtain ⟨k, rfl, hk⟩ := hm y hy
    simp only [Int.toNat_natCast]
    exact window1_eq t a i k G hi hk
  have hok : SrtOk (fun x y => (blocking_Window_1 x y t (a : Int)).getD 0) (ordN t.Rows.length) := by
    refine ⟨fun x hx => ?_, fun x hx y hy z hz => ?_, fun x hx y hy z hz => ?_⟩
    · simp only [hd x hx x hx, Option.getD_some]
      intro h; exact ordC_asym h h
    · simp only [hd x hx y hy, hd y hy z hz, hd x hx z hz, Option.getD_some]
      exact ordC_trans
    · simp only [hd x hx y hy, hd y hy z hz, hd x hx z hz, Option.getD_some]
      intro h1 h2 h3
      by_cases h4 : ordC t a y.toNat x.toNat < 0
      · exact h2 (ordC_trans h4 h3)
      · have e := ordC_total h1 h4
        rw [e] at h3
        exact h2 h3
  have hp := srt_perm hok
  have hs := srt_sorted hok
  refine ⟨(srt (fun x y => (blocking_Window_1 x y t (a : Int)).getD 0) (ordN t.Rows.length)).map Int.toNat, ?_, ?_, ?_⟩
  · unfold srtF
    rw [if_pos ⟨fun x hx y hy => by show (blocking_Window_1 x y t (a : Int)).isSome = true; rw [hd x hx y hy]; rfl, hok, by simp [ordN]; omega⟩]
    congr 1
    rw [List.map_map]
    symm
    have : ∀ x ∈ srt (fun x y => (blocking_Window_1 x y t (a : Int)).getD 0) (ordN t.Rows.length), ((fun i : Nat => (i : Int)) ∘ Int.toNat) x = x := by
      intro x hx
      obtain ⟨i, rfl, _⟩ := hm x (hp.mem_iff.1 hx)
      simp
    rw [List.map_congr_left this, List.map_id']
  · have := hp.map Int.toNat
    refine this.trans ?_
    unfold ordN
    rw [List.map_map]
    have : (Int.toNat ∘ fun i : Nat => (i : Int)) = id := by funext i; simp
    rw [this, List.map_id]
  · rw [List.pairwise_map]
    have hnd : (srt (fun x y => (blocking_Window_1 x y t (a : Int)).getD 0) (ordN t.Rows.length)).Nodup := by
      rw [hp.nodup_iff]
      unfold ordN
      exact List.pairwise_map.2 (List.nodup_range.imp fun h e => h (by omega))
    have hs2 := hs.and hnd
    refine List.Pairwise.imp_of_mem ?_ hs2
    rintro x y hx hy ⟨h1, h2⟩
    have hx := hp.mem_iff.1 hx
    have hy := hp.mem_iff.1 hy
    rw [hd y hy x hx] at h1
    simp only [Option.getD_some] at h1
    by_cases h3 : ordC t a x.toNat y.toNat < 0
    · exact h3
    · have e := ordC_total h3 h1
      obtain ⟨i, rfl, _⟩ := hm x hx
      obtain ⟨k, rfl, _⟩ := hm y hy
      simp only [Int.toNat_natCast] at e
      exact absurd (by rw [e]) h2
/-- the place of a row in the sorted order is the number of the rows before it -/
theorem place_pos (t : Table) (a : Nat) {l : List Nat} (hp : l.Perm (List.range t.Rows.length)) (hs : l.Pairwise fun x y => ordC t a x y < 0) {p i : Nat} (h : l[p]? = some i) : posN t a i = p := by
  unfold posN
  rw [← hp.countP_eq]
  obtain ⟨hlt, he⟩ := List.getElem?_eq_some_iff.1 h
  have hsplit : l = l.take p ++ (i :: l.drop (p + 1)) := by rw [← drop_cons h, List.take_append_drop]
  have hcount : ∀ l1 l2 : List Nat, (l1 ++ (i :: l2)).Pairwise (fun x y => ordC t a x y < 0) → (l1 ++ (i :: l2)).countP (fun k => decide (ordC t a k i < 0)) = l1.length := by
    intro l1 l2 hpw
    obtain ⟨_, h2, h3⟩ := List.pairwise_append.1 hpw
    obtain ⟨h4, _⟩ := List.pairwise_cons.1 h2
    rw [List.countP_append, List.countP_cons]
    have e1 : l1.countP (fun k => decide (ordC t a k i < 0)) = l1.length := by
      rw [List.countP_eq_length]
      intro x hx
      exact decide_eq_true (h3 x hx i (by simp))
    have e2 : l2.countP (fun k => decide (ordC t a k i < 0)) = 0 := by
      rw [List.countP_eq_zero]
      intro x hx
      simp only [decide_eq_true_eq]
      exact ordC_asym (h4 x hx)
    have e3 : ¬ ordC t a i i < 0 := fun h => ordC_asym h h
    rw [e1, e2]; simp [e3]
  rw [hsplit] at hs ⊢
  rw [hcount _ _ hs, List.length_take]
  omega
theorem place_loop (t : Table) (a : Nat) {l : List Nat} (hn : t.Rows.length ≤ 200) (hp : l.Perm (List.range t.Rows.length)) (hs : l.Pairwise fun x y => ordC t a x y < 0) :
    LoopF (blocking_Window_l2 (l.map (fun i : Nat => (i : Int)))) (List.replicate t.Rows.length 0, 0) = some ((List.range t.Rows.length).map (fun i : Nat => (posN t a i : Int))) := by
  have hlen : l.length = t.Rows.length := by rw [hp.length_eq]; simp
  have hL := LoopF_list l (fun (_ : Unit) (k : Int) => ((List.range t.Rows.length).map (fun i => if posN t a i < k.toNat then (posN t a i : Int) else 0), k)) (blocking_Window_l2 (l.map (fun i : Nat => (i : Int)))) (fun _ _ => (Sum.inl () : Unit ⊕ List Int))
    (fun _ => (List.range t.Rows.length).map (fun i : Nat => (posN t a i : Int))) (fun _ _ => True)
    (b0 := ()) (s0 := (List.replicate t.Rows.length 0, 0)) (by
      simp only [Int.toNat_zero, Nat.not_lt_zero, if_false]
      congr 1
      apply List.ext_getElem (by simp)
      intro i h1 h2; simp) trivial
    (fun k b x hx hk _ => by
      refine ⟨fun b' hb => ⟨?_, trivial⟩, fun t ht => by cases ht⟩
      have hki : (k : Int) < (((l.map fun i : Nat => (i : Int)).length : Nat) : Int) := by simp; omega
      have hxm : (l.map fun i : Nat => (i : Int))[k]? = some (x : Int) := by rw [List.getElem?_map, hx]; rfl
      have hxn : x < t.Rows.length := List.mem_range.1 (hp.mem_iff.1 (List.mem_of_getElem? hx))
      have hpx := place_pos t a hp hs hx
      have hg : ((List.range t.Rows.length).map (fun i => if posN t a i < (k : Int).toNat then (posN t a i : Int) else 0))[x]? = some (if posN t a x < (k : Int).toNat then (posN t a x : Int) else 0) := by
        rw [List.getElem?_map, List.getElem?_range hxn]; rfl
      simp only [Int.toNat_natCast] at hg ⊢
      simp only [blocking_Window_l2, if_pos hki, idx_get hxm, idx_get hg, Option.bind_some, Int.toNat_natCast, wrap_nat (show k < 4611686018427387904 by omega)]
      congr 3
      apply List.ext_getElem?
      intro j
      by_cases hj : j < t.Rows.length
      · rw [List.getElem?_set, List.getElem?_map, List.getElem?_map, List.getElem?_range hj]
        simp only [Option.map_some]
        by_cases hxj : x = j
        · subst hxj
          rw [if_pos rfl, if_pos (by simp; omega), hpx, if_pos (by omega)]
        · rw [if_neg hxj]
          congr 1
          have hne : posN t a j ≠ k := by
            intro he
            have hjm : j ∈ l := hp.mem_iff.2 (List.mem_range.2 hj)
            obtain ⟨p, hpj⟩ := List.mem_iff_getElem?.1 hjm
            have := place_pos t a hp hs hpj
            have : p = k := by omega
            subst this
            rw [hx] at hpj
            exact hxj (Option.some.inj hpj)
          by_cases h1 : posN t a j < k
          · rw [if_pos h1, if_pos (by omega)]
          · rw [if_neg h1, if_neg (by omega)]
      · rw [List.getElem?_eq_none (by simp; omega), List.getElem?_eq_none (by simp; omega)])
    (fun b _ => by
      simp only [blocking_Window_l2, List.length_map, Int.toNat_natCast]
      rw [if_neg (by omega)]
      congr 2
      apply List.map_congr_left
      intro i hi
      have hjm : i ∈ l := hp.mem_iff.2 hi
      obtain ⟨p, hpj⟩ := List.mem_iff_getElem?.1 hjm
      rw [place_pos t a hp hs hpj, if_pos (lt_of_get hpj)])
  rw [hL, foldR_const]
theorem window_num (p q w : Nat) (hp : p ≤ 200) (hq : q ≤ 200) : decide ((if IntKind.i64.wrap ((q : Int) - (p : Int)) > IntKind.i64.wrap ((p : Int) - (q : Int)) then IntKind.i64.wrap ((q : Int) - (p : Int)) else IntKind.i64.wrap ((p : Int) - (q : Int))) < (w : Int)) = decide (max p q - min p q < w) := by
  rw [wrapN (x := (q : Int) - (p : Int)) (by omega) (by omega), wrapN (x := (p : Int) - (q : Int)) (by omega) (by omega)]
  rw [Bool.eq_iff_iff, decide_eq_true_eq, decide_eq_true_eq]
  split <;> omega
theorem Window_eq (t : Table) (attr w : Int) (H : TabOk t) : blocking_Window t attr w = some (windowB t attr w) := by
  have hc : (show Option (Int) from if w ≥ 2 then (blocking_check t attr (decide (w ≤ 200))).bind fun (r : Int) => some r else (blocking_check t attr false).bind fun (r : Int) => some r) =
      some (if errB t attr ≠ 0 then errB t attr else if w < 2 ∨ w > 200 then 7 else 0) := by
    simp only [check53_eq t attr _ H, Option.bind_some]
    by_cases h : errB t attr = 0
    · by_cases h1 : w ≥ 2
      · by_cases h2 : w ≤ 200
        · have : ¬ (w < 2 ∨ w > 200) := by omega
          simp [h, h1, h2, this]
        · have : w < 2 ∨ w > 200 := by omega
          simp [h, h1, h2, this]
      · have : w < 2 ∨ w > 200 := by omega
        simp [h, h1, this]
    · simp [h]
  simp only [blocking_Window, hc, Option.bind_some, windowB]
  by_cases h : errB t attr = 0
  · by_cases h2 : w < 2 ∨ w > 200
    · simp [h, h2]
    · obtain ⟨a, rfl, G⟩ := good_of H h
      obtain ⟨n, rfl⟩ := Int.eq_ofNat_of_zero_le (show 0 ≤ w by omega)
      have hn := G.few
      obtain ⟨l, hl, hp, hs⟩ := sorted_order t a G
      have hlen : l.length = t.Rows.length := by rw [hp.length_eq]; simp
      have r2 : roomB t.Rows.length 8 = true := room_le (by omega) (by omega)
      simp only [h, ne_eq, not_true_eq_false, if_false, if_neg h2, Int.toNat_natCast, Option.bind_some, bne_self_eq_false, Bool.false_eq_true, r2, if_true, show (0 : Int) ≤ (t.Rows.length : Int) by omega, order_loop t hn, hl, List.length_map, hlen, place_loop t a hn hp hs]
      rw [pairs_eq t _ (windowP t a n) G.few (fun i k hik hk => by
        have g1 : ((List.range t.Rows.length).map (fun i : Nat => (posN t a i : Int)))[i]? = some (posN t a i : Int) := by rw [List.getElem?_map, List.getElem?_range (by omega)]; rfl
        have g2 : ((List.range t.Rows.length).map (fun i : Nat => (posN t a i : Int)))[k]? = some (posN t a k : Int) := by rw [List.getElem?_map, List.getElem?_range hk]; rfl
        have p1 := posN_le t a i
        have p2 := posN_le t a k
        simp only [blocking_Window_2, idx_get g1, idx_get g2, Option.bind_some, window_num _ _ n (show posN t a i ≤ 200 by omega) (show posN t a k ≤ 200 by omega), windowP])]
      rfl
  · simp [h]
end Go.Proofs.Ytbiklagfjeileaa
/- Blocking: the table of some strings, the examples. -/
set_option linter.unusedVariables false
set_option linter.unusedSimpArgs false
namespace Go.Ab
/-- the common members, by fuel -/
def commF {α : Type} (lt : α → α → Bool) : Nat → List α → List α → Nat
  | 0, _, _ => 0
  | n + 1, a :: u, b :: v => if lt a b then commF lt n u (b :: v) else if lt b a then commF lt n (a :: u) v else commF lt n u v + 1
  | _ + 1, _, _ => 0
theorem comm_F {α : Type} (lt : α → α → Bool) : ∀ (n : Nat) (l r : List α), l.length + r.length ≤ n → comm lt l r = commF lt n l r
  | 0, l, r, h => by
    have : l = [] := List.eq_nil_of_length_eq_zero (by omega)
    subst this; simp [comm, commF]
  | n + 1, [], r, h => by cases r <;> simp [comm, commF]
  | n + 1, a :: u, [], h => by simp [comm, commF]
  | n + 1, a :: u, b :: v, h => by
    simp only [List.length_cons] at h
    simp only [comm, commF]
    rw [comm_F lt n u (b :: v) (by simp; omega), comm_F lt n (a :: u) v (by simp; omega), comm_F lt n u v (by omega)]
end Go.Ab
namespace Go.Proofs.Ytbiklagfjeileaa
open Go Go.Ab

/-- the value that a string stands for -/
def valOf (x : Str) : Value := if x = [63] then ⟨0, 0, []⟩ else match x with
  | [c] => if 48 ≤ c.toNat ∧ c.toNat ≤ 57 then ⟨1, (c.toNat : Int) - 48, []⟩ else ⟨2, 0, x⟩
  | _ => ⟨2, 0, x⟩
def rowOf (k : Nat) (x : Str) : Row := ⟨1 + 2 * (k : Int), [valOf x]⟩
def rowsFrom : Nat → List Str → List Row
  | _, [] => []
  | k, x :: l => rowOf k x :: rowsFrom (k + 1) l
def tb (l : List Str) : Table := ⟨[114], [[97]], rowsFrom 0 l⟩
theorem rowsFrom_len : ∀ (l : List Str) (k : Nat), (rowsFrom k l).length = l.length
  | [], _ => rfl
  | x :: l, k => by simp [rowsFrom, rowsFrom_len l]
theorem room32 {n : Nat} (h : n ≤ 1073741824) : roomB n 32 = true := room_le h (by omega)
theorem Table_step (l : List Str) (hl : l.length ≤ 1048576) (k : Nat) (b : List Row) (x : Str) (hx : l[k]? = some x) (hI : b.length = k) :
    drossref53_Table_l1 l (b, (k : Int)) = if x.length > 12 then some (.done (.inr ((Table.mk [] [] []), false))) else some (.next (b ++ [rowOf k x], ((k + 1 : Nat) : Int))) := by
  have hk := lt_of_get hx
  have hki := lt_true hx
  have hroom := room32 (show b.length + 1 ≤ 1073741824 by omega)
  have w1 : IntKind.i64.wrap (2 * (k : Int)) = 2 * (k : Int) := wrapN (by omega) (by omega)
  have w2 : IntKind.i64.wrap (1 + 2 * (k : Int)) = 1 + 2 * (k : Int) := wrapN (by omega) (by omega)
  simp only [drossref53_Table_l1, if_pos hki, idx_get hx, Option.bind_some, w1, w2, hroom, if_true, wrap_nat (show k < 4611686018427387904 by omega)]
  by_cases h1 : x.length > 12
  · have : (x.length : Int) > 12 := by omega
    rw [if_pos this, if_pos h1]
  · have : ¬ (x.length : Int) > 12 := by omega
    rw [if_neg this, if_neg h1]
    by_cases h2 : x = [63]
    · subst h2
      rfl
    · have hb : (x == [63]) = false := by simpa using h2
      simp only [hb, Bool.false_eq_true, if_false]
      have hv : rowOf k x = ⟨1 + 2 * (k : Int), [valOf x]⟩ := rfl
      rw [hv]
      unfold valOf
      rw [if_neg h2]
      rcases x with _ | ⟨c, _ | ⟨d, r⟩⟩
      · rfl
      · have h3 : ((([c] : Str).length : Int) == 1) = true := by simp
        have h4 : ([c] : Str)[0]? = some c := rfl
        have hc := c.toNat_lt
        simp only [h3, if_true, h4, Option.bind_some]
        by_cases h5 : ((c.toNat : Nat) : Int) ≥ 48
        · rw [if_pos h5]
          by_cases h6 : ((c.toNat : Nat) : Int) ≤ 57
          · have w3 : IntKind.i64.wrap (IntKind.u8.wrap (((c.toNat : Nat) : Int) - 48)) = (c.toNat : Int) - 48 := by
              have : IntKind.u8.wrap (((c.toNat : Nat) : Int) - 48) = (c.toNat : Int) - 48 := by
                have e : ((c.toNat : Nat) : Int) - 48 = ((c.toNat - 48 : Nat) : Int) := by omega
                rw [e]; exact wrap_u8s (by omega)
              rw [this]; exact wrapN (by omega) (by omega)
            have h7 : 48 ≤ c.toNat ∧ c.toNat ≤ 57 := by omega
            simp [h6, h7, w3]
          · have h7 : ¬ (48 ≤ c.toNat ∧ c.toNat ≤ 57) := by omega
            simp [h6, h7]
        · have h7 : ¬ (48 ≤ c.toNat ∧ c.toNat ≤ 57) := by omega
          rw [if_neg h5]; simp [h7]
      · have h3 : (((c :: d :: r : Str).length : Int) == 1) = false := by
          simp only [List.length_cons, beq_eq_false_iff_ne, ne_eq]; omega
        simp only [h3, Bool.false_eq_true, if_false, Option.bind_some]
theorem Table_fold : ∀ (l : List Str) (b : List Row), foldR (fun (b : List Row) (x : Str) => if x.length > 12 then (Sum.inr (.inr ((Table.mk [] [] []), false)) : List Row ⊕ (List Row ⊕ (Table × Bool))) else Sum.inl (b ++ [rowOf b.length x])) (fun b => .inl b) l b =
    if l.all (fun x => decide (x.length ≤ 12)) then .inl (b ++ rowsFrom b.length l) else .inr ((Table.mk [] [] []), false)
  | [], b => by simp [foldR, rowsFrom]
  | x :: l, b => by
    simp only [foldR]
    by_cases h : x.length > 12
    · have : ¬ x.length ≤ 12 := by omega
      simp [h, this]
    · have h' : x.length ≤ 12 := by omega
      rw [if_neg h]
      simp only [Table_fold l, List.all_cons, h', decide_true, Bool.true_and, List.length_append, List.length_singleton, rowsFrom, List.append_assoc, List.singleton_append]
theorem RTable_eq (l : List Str) (hl : l.length ≤ 1048576) : drossref53_Table l = some (if l.all (fun x => decide (x.length ≤ 12)) then (tb l, decide (l.length ≤ 8)) else (Table.mk [] [] [], false)) := by
  have hL := LoopF_list l (fun (b : List Row) (k : Int) => (b, k)) (drossref53_Table_l1 l) (fun (b : List Row) (x : Str) => if x.length > 12 then (Sum.inr (.inr ((Table.mk [] [] []), false)) : List Row ⊕ (List Row ⊕ (Table × Bool))) else Sum.inl (b ++ [rowOf b.length x]))
    (fun b => .inl b) (fun k b => b.length = k) (b0 := []) (s0 := ([], 0)) rfl rfl
    (fun k b x hx hk hI => by
      have h := Table_step l hl k b x hx hI
      by_cases h1 : x.length > 12
      · rw [if_pos h1] at h
        refine ⟨fun b' hb => by simp [h1] at hb, fun t ht => ?_⟩
        simp only [h1, if_true, Sum.inr.injEq] at ht
        subst ht; exact h
      · rw [if_neg h1] at h
        refine ⟨fun b' hb => ?_, fun t ht => by simp [h1] at ht⟩
        simp only [h1, if_false, Sum.inl.injEq] at hb
        subst hb
        refine ⟨by rw [hI]; exact h, by simp [hI]⟩)
    (fun b hI => by simp [drossref53_Table_l1])
  rw [Table_fold] at hL
  simp only [drossref53_Table, hL, Option.bind_some]
  by_cases h : l.all (fun x => decide (x.length ≤ 12)) = true
  · simp only [h, if_true, List.length_nil, List.nil_append, Option.some.injEq, Prod.mk.injEq, tb, true_and]
    rw [Bool.eq_iff_iff, decide_eq_true_eq, decide_eq_true_eq]; omega
  · simp [h]
theorem valid_valOf {x : Str} (h : x.length ≤ 12) : valid (valOf x) = true := by
  unfold valOf
  split
  · rfl
  · split
    · split
      · simp [valid]
      · simp [valid]
    · simp only [valid, decide_eq_true_eq]; exact .inr (.inr (.inl ⟨trivial, trivial, by omega⟩))
theorem rowsFrom_code : ∀ (l : List Str) (k : Nat) (b : Int), b < 1 + 2 * (k : Int) → (l.all (fun x => decide (x.length ≤ 12))) = true → rowsCode 1 b (rowsFrom k l) = 0
  | [], _, _, _, _ => rfl
  | x :: l, k, b, hb, h => by
    simp only [List.all_cons, Bool.and_eq_true, decide_eq_true_eq] at h
    have h1 : ¬ (rowOf k x).ID ≤ b := by simp only [rowOf]; omega
    have h2 : ¬ (rowOf k x).Values.length ≠ 1 := by simp [rowOf]
    have h3 : (rowOf k x).Values.all valid = true := by simp [rowOf, valid_valOf h.1]
    simp only [rowsFrom, rowsCode, if_neg h1, if_neg h2, h3, if_true]
    exact rowsFrom_code l (k + 1) _ (by simp only [rowOf]; omega) h.2
theorem tb_err {l : List Str} (h : l.all (fun x => decide (x.length ≤ 12)) = true) (hl : l.length ≤ 200) : tableErr (tb l) = 0 := by
  have h1 : ¬ nameB (tb l).Name = false := by
    have : nameB [114] = true := by decide
    simp [tb, this]
  have h2 : ¬ (tb l).Attrs.length > 16 := by simp [tb]
  have h3 : ¬ (tb l).Rows.length > 1000 := by simp [tb, rowsFrom_len]; omega
  have h4 : ¬ namesB (tb l).Attrs = false := by
    have : namesB [[97]] = true := by decide
    simp [tb, this]
  unfold tableErr
  rw [if_neg h1, if_neg h2, if_neg h3, if_neg h4]
  exact rowsFrom_code l 0 0 (by simp) h
theorem mem_rowsFrom : ∀ (l : List Str) (k : Nat) (r : Row), r ∈ rowsFrom k l → ∃ i x, x ∈ l ∧ r = rowOf i x
  | [], _, _, h => by simp [rowsFrom] at h
  | x :: l, k, r, h => by
    simp only [rowsFrom, List.mem_cons] at h
    rcases h with rfl | h
    · exact ⟨k, x, by simp, rfl⟩
    · obtain ⟨i, y, hy, hr⟩ := mem_rowsFrom l _ r h
      exact ⟨i, y, by simp [hy], hr⟩
theorem tb_ok {l : List Str} (h : l.all (fun x => decide (x.length ≤ 12)) = true) (hl : l.length ≤ 200) : TabOk (tb l) := by
  refine ⟨by simp [tb], by simp [tb, rowsFrom_len]; omega, fun r hr => ?_, fun r hr v hv => ?_⟩
  · obtain ⟨i, x, hx, rfl⟩ := mem_rowsFrom l 0 r hr
    simp [rowOf]
  · obtain ⟨i, x, hx, rfl⟩ := mem_rowsFrom l 0 r hr
    simp only [rowOf, List.mem_singleton] at hv
    subst hv
    have := List.all_eq_true.1 h x hx
    have := short_ok (valid_valOf (by simpa using this))
    omega
theorem tb_errB {l : List Str} (h : l.all (fun x => decide (x.length ≤ 12)) = true) (hl : l.length ≤ 200) : errB (tb l) 0 = 0 := by
  unfold errB
  have h2 : ¬ (tb l).Rows.length > 200 := by simp [tb, rowsFrom_len]; omega
  have h3 : ¬ ((0 : Int) < 0 ∨ (0 : Int) ≥ ((tb l).Attrs.length : Int)) := by simp [tb]
  rw [tb_err h hl, if_neg (by simp), if_neg h2, if_neg h3]
/-- the rows of the examples -/
def exL : List Str := [[115, 109, 105, 116, 104], [115, 109, 121, 116, 104], [115, 109, 105, 116, 104, 115, 111, 110], [106, 111, 110, 101, 115]]
def passF (k q : Nat) (s u : Str) : Bool :=
  decide (max s.length u.length - min s.length u.length ≤ k) && decide (max s.length u.length + q ≤ commF ltS 100 (gramsB s q) (gramsB u q) + 1 + k * q)
theorem passF_eq (k q : Nat) (s u : Str) (h : s.length + q - 1 + (u.length + q - 1) ≤ 100) : passB k q s u = passF k q s u := by
  unfold passB passF
  rw [comm_F ltS 100 _ _ (by rw [gramsB_len, gramsB_len]; exact h)]
theorem ex_prefix : prefixB (tb exL) 0 3 = ([⟨1, 5⟩], 0) := by
  unfold prefixB
  rw [tb_errB (by decide) (by decide)]
  decide +kernel
theorem ex_filter : filterB (tb exL) 0 1 2 = ([⟨1, 3⟩], 0) := by
  unfold filterB
  rw [tb_errB (by decide) (by decide)]
  have hc : pairs53 (tb exL).Rows.length (alikeP (tb exL) (0 : Int).toNat (filterC (tb exL) (0 : Int).toNat (1 : Int).toNat (2 : Int).toNat)) (pairAt (tb exL)) = pairs53 4 (alikeP (tb exL) 0 fun i k => passF 1 2 (val53 (tb exL) 0 i).Str (val53 (tb exL) 0 k).Str) (pairAt (tb exL)) := by
    refine pairs53_congr (n := 4) fun i k hik hk => ?_
    have hl : ∀ i, i < 4 → (val53 (tb exL) 0 i).Str.length ≤ 8 := by decide +kernel
    have h1 := hl i (by omega)
    have h2 := hl k hk
    have h3 := passF_eq 1 2 (val53 (tb exL) 0 i).Str (val53 (tb exL) 0 k).Str (by omega)
    show (if _ then passB 1 2 (val53 (tb exL) 0 i).Str (val53 (tb exL) 0 k).Str else _) = _
    rw [h3]
    rfl
  rw [hc]
  decide +kernel
theorem ex_window : windowB (tb exL) 0 2 = ([⟨1, 5⟩, ⟨1, 7⟩, ⟨3, 5⟩], 0) := by
  unfold windowB
  rw [tb_errB (by decide) (by decide)]
  decide +kernel
theorem awakeK_true : drosslaw53_awake = some true := by
  have hT : drossref53_Table exL = some (tb exL, true) := by
    rw [RTable_eq exL (by decide)]; rfl
  have H := tb_ok (l := exL) (by decide) (by decide)
  have hT' : drossref53_Table [[115, 109, 105, 116, 104], [115, 109, 121, 116, 104], [115, 109, 105, 116, 104, 115, 111, 110], [106, 111, 110, 101, 115]] = some (tb exL, true) := hT
  simp only [drosslaw53_awake, hT', Option.bind_some, Prefix_eq _ _ _ H, Filter_eq _ _ _ _ H, Window_eq _ _ _ H, ex_prefix, ex_filter, ex_window, if_true, beq_self_eq_true]
  rw [Same53_eq _ _ (by simp), Same53_eq _ _ (by simp), Same53_eq _ _ (by simp)]
  rfl
end Go.Proofs.Ytbiklagfjeileaa
/- Sorting by insertion, for any order. -/
set_option linter.unusedVariables false
set_option linter.unusedSimpArgs false
namespace Go.Ab
open Go
end Go.Ab
/- Blocking: ascending lists of pairs; Union of both kinds. -/
set_option linter.unusedVariables false
set_option linter.unusedSimpArgs false
namespace Go.Ab
open Go
end Go.Ab
namespace Go.Proofs.Ytbiklagfjeileaa
open Go Go.Ab
instance : DecidableEq Arr2_int64 := fun a b => match a, b with
  | ⟨x, y⟩, ⟨u, v⟩ => if h : x = u ∧ y = v then isTrue (by rw [h.1, h.2]) else isFalse fun e => h ⟨congrArg (·.x0) e, congrArg (·.x1) e⟩
theorem arr2_eq (a b : Arr2_int64) : ((a.x0 == b.x0) && (a.x1 == b.x1)) = decide (a = b) := by
  rw [Bool.eq_iff_iff, Bool.and_eq_true, beq_iff_eq, beq_iff_eq, decide_eq_true_eq]
  cases a; cases b; simp
/-! ### Compact -/
/-! ### the reference -/
theorem HasA_eq (l : List Arr2_int64) (p : Arr2_int64) (hl : l.length ≤ 1048576) : drossref53_Has l p = some (decide (p ∈ l)) := by
  have h := LoopF_all l (drossref53_Has_l1 l p) (fun x => !decide (x = p)) true
    (fun k x hx hk hp => by
      simp only [Bool.not_eq_true', decide_eq_false_iff_not] at hp
      simp only [drossref53_Has_l1, if_pos (lt_true hx), idx_get hx, Option.bind_some, arr2_eq, hp, decide_false, Bool.false_eq_true, if_false, wrap_nat (show k < 4611686018427387904 by omega)])
    (fun k x hx hp => by
      simp only [Bool.not_eq_false', decide_eq_true_eq] at hp
      simp only [drossref53_Has_l1, if_pos (lt_true hx), idx_get hx, Option.bind_some, arr2_eq, hp, decide_true, if_true])
    (by simp [drossref53_Has_l1])
  simp only [drossref53_Has, h, Option.bind_some]
  by_cases hm : p ∈ l
  · have : l.all (fun x => !decide (x = p)) = false := by
      rw [List.all_eq_false]
      exact ⟨p, hm, by simp⟩
    simp [this, hm]
  · have : l.all (fun x => !decide (x = p)) = true := by
      rw [List.all_eq_true]
      intro x hx
      have : x ≠ p := fun e => hm (e ▸ hx)
      simp [this]
    simp [this, hm]
end Go.Proofs.Ytbiklagfjeileaa
/- Blocking: few edits leave many common grams (the count filter). -/
set_option linter.unusedVariables false
set_option linter.unusedSimpArgs false
namespace Go.Ab
/-- the second list comes of the first one by n edits -/
inductive EdN {α : Type} : Nat → List α → List α → Prop
  | nil : EdN 0 [] []
  | keep {n : Nat} {a b : List α} {x : α} : EdN n a b → EdN n (a ++ [x]) (b ++ [x])
  | sub {n : Nat} {a b : List α} {x y : α} : EdN n a b → EdN (n + 1) (a ++ [x]) (b ++ [y])
  | del {n : Nat} {a b : List α} {x : α} : EdN n a b → EdN (n + 1) (a ++ [x]) b
  | ins {n : Nat} {a b : List α} {y : α} : EdN n a b → EdN (n + 1) a (b ++ [y])
theorem EdN.len {α : Type} {n : Nat} {a b : List α} (h : EdN n a b) : a.length ≤ b.length + n ∧ b.length ≤ a.length + n := by
  induction h <;> simp only [List.length_append, List.length_singleton, List.length_nil] at * <;> omega
/-- the windows of a list -/
def wins {α : Type} (q : Nat) (w : List α) : List (List α) := (List.range (w.length + 1 - q)).map fun i => (w.drop i).take q
theorem wins_snoc {α : Type} (q : Nat) (w : List α) (x : α) (h : q ≤ w.length + 1) : wins q (w ++ [x]) = wins q w ++ [(w ++ [x]).drop (w.length + 1 - q)] := by
  unfold wins
  rw [List.length_append, List.length_singleton, show w.length + 1 + 1 - q = (w.length + 1 - q) + 1 by omega, List.range_succ, List.map_append, List.map_singleton]
  congr 1
  · apply List.map_congr_left
    intro i hi
    rw [List.mem_range] at hi
    rw [List.drop_append_of_le_length (by omega), List.take_append_of_le_length (by rw [List.length_drop]; omega)]
  · congr 1
    apply List.take_of_length_le
    rw [List.length_drop, List.length_append, List.length_singleton]; omega
/-- what is left of the windows of two lists after n edits -/
def EdI {α : Type} (q n : Nat) (a b : List α) : Prop :=
  q ≤ a.length + 1 ∧ q ≤ b.length + 1 ∧ ∃ (u v t : List α) (C X Y : List (List α)), a = u ++ t ∧ b = v ++ t ∧ t.length ≤ q - 1 ∧
    (wins q a).Perm (C ++ X) ∧ (wins q b).Perm (C ++ Y) ∧ X.length + (q - 1) ≤ n * q + t.length ∧ Y.length + (q - 1) ≤ n * q + t.length
theorem perm_snoc {α : Type} {l C X : List α} (g : α) (h : l.Perm (C ++ X)) : (l ++ [g]).Perm (C ++ (X ++ [g])) := by
  rw [← List.append_assoc]; exact h.append_right _
theorem perm_snoc' {α : Type} {l C X : List α} (g : α) (h : l.Perm (C ++ X)) : (l ++ [g]).Perm ((C ++ [g]) ++ X) := by
  refine (h.append_right _).trans ?_
  rw [List.append_assoc, List.append_assoc]
  exact (List.perm_append_comm).append_left C
theorem EdI.keep {α : Type} {q n : Nat} {a b : List α} (hq : 1 ≤ q) (x : α) (h : EdI q n a b) : EdI q n (a ++ [x]) (b ++ [x]) := by
  obtain ⟨ha, hb, u, v, t, C, X, Y, ea, eb, ht, hX, hY, lX, lY⟩ := h
  refine ⟨by rw [List.length_append]; omega, by rw [List.length_append]; omega, ?_⟩
  rw [wins_snoc q a x ha, wins_snoc q b x hb]
  by_cases hs : t.length = q - 1
  · have e1 : (a ++ [x]).drop (a.length + 1 - q) = t ++ [x] := by
      rw [ea, List.append_assoc]
      rw [show (u ++ t).length + 1 - q = u.length by rw [List.length_append]; omega, List.drop_left]
    have e2 : (b ++ [x]).drop (b.length + 1 - q) = t ++ [x] := by
      rw [eb, List.append_assoc]
      rw [show (v ++ t).length + 1 - q = v.length by rw [List.length_append]; omega, List.drop_left]
    rw [e1, e2]
    refine ⟨u ++ (t ++ [x]).take 1, v ++ (t ++ [x]).take 1, (t ++ [x]).drop 1, C ++ [t ++ [x]], X, Y, ?_, ?_, ?_, perm_snoc' _ hX, perm_snoc' _ hY, ?_, ?_⟩
    · rw [List.append_assoc, List.take_append_drop, ea, List.append_assoc]
    · rw [List.append_assoc, List.take_append_drop, eb, List.append_assoc]
    all_goals (rw [List.length_drop, List.length_append, List.length_singleton]; omega)
  · refine ⟨u, v, t ++ [x], C, X ++ [_], Y ++ [_], by rw [ea, List.append_assoc], by rw [eb, List.append_assoc], ?_, perm_snoc _ hX, perm_snoc _ hY, ?_, ?_⟩
    all_goals (simp only [List.length_append, List.length_singleton]; omega)
theorem EdI.keeps {α : Type} {q n : Nat} (hq : 1 ≤ q) : ∀ (p : List α) {a b : List α}, EdI q n a b → EdI q n (a ++ p) (b ++ p)
  | [], a, b, h => by simpa using h
  | x :: p, a, b, h => by
    have := EdI.keeps hq p (h.keep hq x)
    simpa [List.append_assoc] using this
theorem EdI.sub {α : Type} {q n : Nat} {a b : List α} (hq : 1 ≤ q) (x y : α) (h : EdI q n a b) : EdI q (n + 1) (a ++ [x]) (b ++ [y]) := by
  obtain ⟨ha, hb, u, v, t, C, X, Y, ea, eb, ht, hX, hY, lX, lY⟩ := h
  refine ⟨by rw [List.length_append]; omega, by rw [List.length_append]; omega, ?_⟩
  rw [wins_snoc q a x ha, wins_snoc q b y hb]
  refine ⟨a ++ [x], b ++ [y], [], C, X ++ [_], Y ++ [_], by simp, by simp, by simp, perm_snoc _ hX, perm_snoc _ hY, ?_, ?_⟩
  all_goals (simp only [List.length_append, List.length_singleton, List.length_nil, Nat.add_mul, Nat.one_mul]; omega)
theorem EdI.del {α : Type} {q n : Nat} {a b : List α} (hq : 1 ≤ q) (x : α) (h : EdI q n a b) : EdI q (n + 1) (a ++ [x]) b := by
  obtain ⟨ha, hb, u, v, t, C, X, Y, ea, eb, ht, hX, hY, lX, lY⟩ := h
  refine ⟨by rw [List.length_append]; omega, hb, ?_⟩
  rw [wins_snoc q a x ha]
  refine ⟨a ++ [x], b, [], C, X ++ [_], Y, by simp, by simp, by simp, perm_snoc _ hX, hY, ?_, ?_⟩
  all_goals (simp only [List.length_append, List.length_singleton, List.length_nil, Nat.add_mul, Nat.one_mul]; omega)
theorem EdI.ins {α : Type} {q n : Nat} {a b : List α} (hq : 1 ≤ q) (y : α) (h : EdI q n a b) : EdI q (n + 1) a (b ++ [y]) := by
  obtain ⟨ha, hb, u, v, t, C, X, Y, ea, eb, ht, hX, hY, lX, lY⟩ := h
  refine ⟨ha, by rw [List.length_append]; omega, ?_⟩
  rw [wins_snoc q b y hb]
  refine ⟨a, b ++ [y], [], C, X, Y ++ [_], by simp, by simp, by simp, hX, perm_snoc _ hY, ?_, ?_⟩
  all_goals (simp only [List.length_append, List.length_singleton, List.length_nil, Nat.add_mul, Nat.one_mul]; omega)
theorem EdN.inv {α : Type} {q n : Nat} (hq : 1 ≤ q) {pad : List α} (hp : pad.length = q - 1) {a b : List α} (h : EdN n a b) : EdI q n (pad ++ a) (pad ++ b) := by
  induction h with
  | nil =>
    have hw : wins q pad = [] := by unfold wins; rw [show pad.length + 1 - q = 0 by omega]; rfl
    refine ⟨by simp; omega, by simp; omega, [], [], pad, [], [], [], by simp, by simp, by omega, ?_, ?_, ?_, ?_⟩
    · simp [hw]
    · simp [hw]
    · simp; omega
    · simp; omega
  | keep _ ih => rw [← List.append_assoc, ← List.append_assoc]; exact ih.keep hq _
  | sub _ ih => rw [← List.append_assoc, ← List.append_assoc]; exact ih.sub hq _ _
  | del _ ih => rw [← List.append_assoc]; exact ih.del hq _
  | ins _ ih => rw [← List.append_assoc]; exact ih.ins hq _
end Go.Ab
namespace Go.Proofs.Ytbiklagfjeileaa
open Go Go.Ab
theorem passB_mono {k m q : Nat} {s u : Str} (hk : k ≤ m) (h : passB k q s u = true) : passB m q s u = true := by
  have : k * q ≤ m * q := Nat.mul_le_mul_right q hk
  unfold passB at *
  simp only [Bool.and_eq_true, decide_eq_true_eq] at *
  omega
end Go.Proofs.Ytbiklagfjeileaa
/- BlockingValues answers true. -/
set_option linter.unusedVariables false
set_option linter.unusedSimpArgs false
namespace Go.Proofs.Ytbiklagfjeileaa
open Go Go.Ab
end Go.Proofs.Ytbiklagfjeileaa
/- Well-formed merged tables. -/
set_option linter.unusedVariables false
set_option linter.unusedSimpArgs false
namespace Go.Proofs.Ytbiklagfjeileaa
open Go Go.Ab

/-! ### no ID in two clusters -/
/-- a map holds exactly some IDs -/
def Holds (m : List (Int × Bool)) (all : List Int) : Prop := ∀ x, mget m x = if x ∈ all then some true else none

/-! ### well-formed -/
end Go.Proofs.Ytbiklagfjeileaa
/- SurvivorChoose answers true. -/
set_option linter.unusedVariables false
namespace Go.Proofs.Ytbiklagfjeileaa
open Go Go.Ab
end Go.Proofs.Ytbiklagfjeileaa
/- SurvivorSource answers true. -/
set_option linter.unusedVariables false
set_option linter.unusedSimpArgs false
namespace Go.Proofs.Ytbiklagfjeileaa
open Go Go.Ab
end Go.Proofs.Ytbiklagfjeileaa
/- Which merged tables merge a table: both ways of telling agree. -/
set_option linter.unusedVariables false
set_option linter.unusedSimpArgs false
namespace Go.Proofs.Ytbiklagfjeileaa
open Go Go.Ab
/-! ### the two ways of dividing agree for a table whose IDs ascend -/
end Go.Proofs.Ytbiklagfjeileaa
/- SurvivorMerge answers true. -/
set_option linter.unusedVariables false
namespace Go.Proofs.Ytbiklagfjeileaa
open Go Go.Ab
end Go.Proofs.Ytbiklagfjeileaa
/- The merged table: sorting, keeping. -/
set_option linter.unusedVariables false
set_option linter.unusedSimpArgs false
namespace Go.Proofs.Ytbiklagfjeileaa
open Go Go.Ab
/-! ### both sort by insertion -/
/-! ### the rows of some IDs -/
end Go.Proofs.Ytbiklagfjeileaa
/- The merged table: its rows. -/
set_option linter.unusedVariables false
set_option linter.unusedSimpArgs false
namespace Go.Proofs.Ytbiklagfjeileaa
open Go Go.Ab
end Go.Proofs.Ytbiklagfjeileaa
/- Two merged tables that are the same. -/
set_option linter.unusedVariables false
set_option linter.unusedSimpArgs false
namespace Go.Proofs.Ytbiklagfjeileaa
open Go Go.Ab
end Go.Proofs.Ytbiklagfjeileaa
/- Equality of merged tables as the program tells it. -/
set_option linter.unusedVariables false
set_option linter.unusedSimpArgs false
namespace Go.Proofs.Ytbiklagfjeileaa
open Go Go.Ab
end Go.Proofs.Ytbiklagfjeileaa
/- Insertion sorts: the heads ascend. -/
set_option linter.unusedVariables false
set_option linter.unusedSimpArgs false
namespace Go.Proofs.Ytbiklagfjeileaa
open Go Go.Ab
def hd (l : List (List Int)) (i : Nat) : Int := (l.getD i []).headD 0
end Go.Proofs.Ytbiklagfjeileaa
/- The merged table is well-formed. -/
set_option linter.unusedVariables false
set_option linter.unusedSimpArgs false
namespace Go.Proofs.Ytbiklagfjeileaa
open Go Go.Ab
/-! ### the values and origins -/
end Go.Proofs.Ytbiklagfjeileaa
/- Merging: both ways agree; what it gives. -/
set_option linter.unusedVariables false
set_option linter.unusedSimpArgs false
namespace Go.Proofs.Ytbiklagfjeileaa
open Go Go.Ab
end Go.Proofs.Ytbiklagfjeileaa
/- The merged table is a merging of the table. -/
set_option linter.unusedVariables false
set_option linter.unusedSimpArgs false
namespace Go.Proofs.Ytbiklagfjeileaa
open Go Go.Ab
end Go.Proofs.Ytbiklagfjeileaa
/- Tables from recipes. -/
set_option linter.unusedVariables false
set_option linter.unusedSimpArgs false
namespace Go.Proofs.Ytbiklagfjeileaa
open Go Go.Ab
end Go.Proofs.Ytbiklagfjeileaa
/- Tables from recipes are valid; rules and clusters of plans. -/
set_option linter.unusedVariables false
set_option linter.unusedSimpArgs false
namespace Go.Proofs.Ytbiklagfjeileaa
open Go Go.Ab
theorem okI_u8 {n : Int} (h : okI .u8 n) : 0 ≤ n ∧ n ≤ 255 := by
  have h' : (decide (IntKind.min .u8 ≤ n) && decide (n ≤ IntKind.max .u8)) = true := h
  simp only [Bool.and_eq_true, decide_eq_true_eq] at h'
  have e1 : IntKind.min .u8 = 0 := by decide
  have e2 : IntKind.max .u8 = 255 := by decide
  rw [e1, e2] at h'
  exact h'
end Go.Proofs.Ytbiklagfjeileaa
/- BlockingNested answers true. -/
set_option linter.unusedVariables false
set_option linter.unusedSimpArgs false
namespace Go.Proofs.Ytbiklagfjeileaa
open Go Go.Ab
theorem Within_eq (a b : List Arr2_int64) (ha : a.length ≤ 1048576) (hb : b.length ≤ 1048576) : drossref53_Within a b = some (a.all fun x => decide (x ∈ b)) := by
  have h := LoopF_all a (drossref53_Within_l1 a b) (fun x => decide (x ∈ b)) false
    (fun k x hx hk hp => by
      simp only [drossref53_Within_l1, if_pos (lt_true hx), idx_get hx, Option.bind_some, HasA_eq b x hb, hp, if_true, wrap_nat (show k < 4611686018427387904 by omega)])
    (fun k x hx hp => by
      simp only [drossref53_Within_l1, if_pos (lt_true hx), idx_get hx, Option.bind_some, HasA_eq b x hb, hp, Bool.false_eq_true, if_false])
    (by simp [drossref53_Within_l1])
  simp only [drossref53_Within, h, Option.bind_some]
  cases a.all fun x => decide (x ∈ b) <;> rfl
theorem pairs_within {n : Nat} {p q : Nat → Nat → Bool} {mk : Nat → Nat → Arr2_int64} (h : ∀ i k, i < k → k < n → p i k = true → q i k = true) : (pairs53 n p mk).all (fun x => decide (x ∈ pairs53 n q mk)) = true := by
  rw [List.all_eq_true]
  intro x hx
  obtain ⟨i, k, h1, h2, h3, rfl⟩ := mem_pairs53.1 hx
  exact decide_eq_true (mem_pairs53.2 ⟨i, k, h1, h2, h i k h1 h2 h3, rfl⟩)
theorem take_mono {s u : Str} {m n : Nat} (h : m ≤ n) (e : s.take n = u.take n) : s.take m = u.take m := by
  have := congrArg (List.take m) e
  rwa [List.take_take, List.take_take, Nat.min_eq_left h] at this
theorem alike_mono {t : Table} {a : Nat} {c d : Nat → Nat → Bool} {i k : Nat} (h : c i k = true → d i k = true) (hc : alikeP t a c i k = true) : alikeP t a d i k = true := by
  unfold alikeP at *
  split at hc
  · rename_i h1; rw [if_pos h1]; exact h hc
  · rename_i h1; rw [if_neg h1]; exact hc
theorem alike_exact {t : Table} {a : Nat} {d : Nat → Nat → Bool} {i k : Nat} (h : val53 t a i = val53 t a k → d i k = true) (hc : exactP t a i k = true) : alikeP t a d i k = true := by
  unfold exactP at hc
  unfold alikeP
  split
  · exact h (of_decide_eq_true hc)
  · exact hc
theorem num100 {x : Int} (h1 : 0 ≤ x) (h2 : x ≤ 255) : ∃ m : Nat, IntKind.i64.wrap (2 + (IntKind.i64.wrap (Int.tmod x 100))) = (m : Int) ∧ 2 ≤ m ∧ m ≤ 101 := by
  obtain ⟨n, rfl⟩ := Int.eq_ofNat_of_zero_le h1
  have e : Int.tmod (n : Int) 100 = ((n % 100 : Nat) : Int) := Int.ofNat_tmod n 100
  refine ⟨2 + n % 100, ?_, by omega, by omega⟩
  rw [e, wrap_i64 (n := ((n % 100 : Nat) : Int)) (by omega) (by omega), wrap_i64 (by omega) (by omega)]; omega
theorem num4 {q : Int} (h1 : 0 ≤ q) (h2 : q ≤ 255) : ∃ m : Nat, IntKind.i64.wrap (1 + (IntKind.i64.wrap (Int.tmod q 4))) = (m : Int) ∧ 1 ≤ m ∧ m ≤ 4 := by
  obtain ⟨n, rfl⟩ := Int.eq_ofNat_of_zero_le h1
  have e : Int.tmod (n : Int) 4 = ((n % 4 : Nat) : Int) := Int.ofNat_tmod n 4
  refine ⟨1 + n % 4, ?_, by omega, by omega⟩
  rw [e, wrap_i64 (n := ((n % 4 : Nat) : Int)) (by omega) (by omega), wrap_i64 (by omega) (by omega)]; omega
theorem BlockingNested_holds (l : List Str) (n : Arr2_uint8) (q : Int) (hl : okL okS l) (h1 : okArr2_uint8 n) (h2 : okI .u8 q) : drosslaw53_BlockingNested l n q = some true := by
  simp only [drosslaw53_BlockingNested, RTable_eq l (by have := hl.1; omega), Option.bind_some, awakeK_true, if_true]
  by_cases ha : l.all (fun x => decide (x.length ≤ 12)) = true
  · by_cases h8 : l.length ≤ 8
    · have H := tb_ok ha (by omega)
      have hn : (tb l).Rows.length ≤ 8 := by simp [tb, rowsFrom_len]; omega
      obtain ⟨n0, n0'⟩ := okI_u8 h1.1
      obtain ⟨n1, n1'⟩ := okI_u8 h1.2
      obtain ⟨q0, q0'⟩ := okI_u8 h2
      obtain ⟨x, ex, x1, x2⟩ := num100 (x := if n.x1 < n.x0 then n.x1 else n.x0) (by split <;> omega) (by split <;> omega)
      obtain ⟨y, ey, y1, y2⟩ := num100 (x := if n.x1 > n.x0 then n.x1 else n.x0) (by split <;> omega) (by split <;> omega)
      obtain ⟨z, ez, z1, z2⟩ := num4 q0 q0'
      simp only [ha, if_true, h8, decide_true, Bool.not_true, Bool.false_eq_true, if_false, ex, ey, ez]
      obtain ⟨lo, elo, lo1, lo2⟩ : ∃ lo : Nat, (if (y : Int) < (x : Int) then (y : Int) else (x : Int)) = (lo : Int) ∧ lo = min x y ∧ 2 ≤ lo := ⟨min x y, by split <;> omega, rfl, by omega⟩
      obtain ⟨hi, ehi, hi1, hi2⟩ : ∃ hi : Nat, (if (y : Int) > (x : Int) then (y : Int) else (x : Int)) = (hi : Int) ∧ hi = max x y ∧ lo ≤ hi := ⟨max x y, by split <;> omega, rfl, by omega⟩
      have w1 : IntKind.i64.wrap ((lo : Int) - 2) = ((lo - 2 : Nat) : Int) := by rw [wrap_i64 (by omega) (by omega)]; omega
      have w2 : IntKind.i64.wrap ((hi : Int) - 2) = ((hi - 2 : Nat) : Int) := by rw [wrap_i64 (by omega) (by omega)]; omega
      simp only [elo, ehi, w1, w2, Exact_eq _ _ H, Prefix_eq _ _ _ H, Window_eq _ _ _ H, Filter_eq _ _ _ _ H, Option.bind_some]
      have hs : ∀ p, (pairs53 (tb l).Rows.length p (pairAt (tb l))).length ≤ 1048576 := fun p => by
        have := pairs53_len (n := (tb l).Rows.length) (p := p) (mk := pairAt (tb l))
        have : (tb l).Rows.length * (tb l).Rows.length ≤ 8 * 8 := Nat.mul_le_mul hn hn
        omega
      have e0 := tb_errB (l := l) ha (by omega)
      unfold windowB prefixB filterB
      rw [e0]
      rw [if_neg (show ¬ ((lo : Int) < 2 ∨ (lo : Int) > 200) by omega), if_neg (show ¬ ((hi : Int) < 2 ∨ (hi : Int) > 200) by omega), if_neg (show ¬ ((lo : Int) < 1 ∨ (lo : Int) > 200) by omega), if_neg (show ¬ ((hi : Int) < 1 ∨ (hi : Int) > 200) by omega),
        if_neg (show ¬ (((lo - 2 : Nat) : Int) < 0 ∨ ((lo - 2 : Nat) : Int) > 200 ∨ (z : Int) < 1 ∨ (z : Int) > 4) by omega), if_neg (show ¬ (((hi - 2 : Nat) : Int) < 0 ∨ ((hi - 2 : Nat) : Int) > 200 ∨ (z : Int) < 1 ∨ (z : Int) > 4) by omega)]
      simp only [ne_eq, not_true_eq_false, if_false, bne_self_eq_false, Bool.false_eq_true, Int.toNat_natCast, Within_eq _ _ (hs _) (hs _), Option.bind_some]
      rw [pairs_within (fun i k _ _ h => by unfold windowP at *; simp only [decide_eq_true_eq] at *; omega)]
      simp only [if_true, Option.bind_some]
      rw [pairs_within (fun i k _ _ h => alike_mono (fun h => by
        unfold prefixC at *
        rw [beq_iff_eq] at *
        exact take_mono hi2 h) h)]
      simp only [if_true, Option.bind_some]
      rw [pairs_within (fun i k _ _ h => alike_mono (fun h => passB_mono (by omega) h) h)]
      simp only [if_true, Option.bind_some]
      rw [pairs_within (fun i k _ _ h => alike_exact (fun h => by
        unfold prefixC
        rw [h, beq_iff_eq]) h)]
      simp only [if_true, Option.bind_some]
      rw [pairs_within (fun i k _ _ h => alike_exact (fun h => by
        unfold filterC
        rw [h]; exact passB_self _ _ _ (by omega)) h)]
    · simp [ha, h8]
  · simp [ha]
end Go.Proofs.Ytbiklagfjeileaa

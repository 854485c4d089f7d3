/- The Lean functions that the program's functions are lifted to, and the plain laws about them. -/
import Derived.Lib.TrailingZeros
import Derived.Test.YthgnkhchpjcboaaA2
set_option linter.unusedVariables false
set_option linter.unusedSimpArgs false
namespace Go.Proofs.Ythgnkhchpjcboaa
open Go Go.Ab
structure Value where
  Kind : Int
  Num : Int
  Str : List UInt8
  deriving DecidableEq
structure Row where
  ID : Int
  Values : List Value
  deriving DecidableEq
structure Table where
  Name : List UInt8
  Attrs : List (List UInt8)
  Rows : List Row
  deriving DecidableEq
structure OD where
  Lhs : List Int
  Rhs : List Int
  deriving DecidableEq
structure Canonical where
  Context : Int
  A : Int
  B : Int
  deriving DecidableEq
structure Odmine_miner where
  t : Table
  known : List (Canonical × Bool)
  deriving DecidableEq
structure Drossref03_Recipe where
  Attrs : Int
  Gap : Int
  Rows : List (List Int)
  deriving DecidableEq
noncomputable def table_isName_l1 (s_1 : List UInt8) : Int → Option (LS (Int) ((Unit) ⊕ (Bool))) := fun t19_28 =>
  if t19_28 < (s_1.length : Int) then
  (idx s_1 t19_28).bind fun (c_59 : UInt8) =>
  (show Option (Bool) from
  if ((c_59.toNat : Nat) : Int) ≥ 97 then
  if ((c_59.toNat : Nat) : Int) ≤ 122 then
  some true
  else
  if ((c_59.toNat : Nat) : Int) ≥ 65 then
  if ((c_59.toNat : Nat) : Int) ≤ 90 then
  some true
  else
  some (((c_59.toNat : Nat) : Int) == 95)
  else
  some (((c_59.toNat : Nat) : Int) == 95)
  else
  if ((c_59.toNat : Nat) : Int) ≥ 65 then
  if ((c_59.toNat : Nat) : Int) ≤ 90 then
  some true
  else
  some (((c_59.toNat : Nat) : Int) == 95)
  else
  some (((c_59.toNat : Nat) : Int) == 95)).bind (fun letter_67 =>
  if letter_67 = true then
  some (.next (IntKind.i64.wrap (t19_28 + 1)))
  else
  if (t19_28 == 0) = true then
  some (.done (.inr false))
  else
  if ((c_59.toNat : Nat) : Int) < 48 then
  some (.done (.inr false))
  else
  if ((c_59.toNat : Nat) : Int) > 57 then
  some (.done (.inr false))
  else
  some (.next (IntKind.i64.wrap (t19_28 + 1))))
  else
  some (.done (.inl ()))
noncomputable def table_isName (s_1 : List UInt8) : Option (Bool) :=
  if (s_1 == []) = true then
  some false
  else
  if (s_1.length : Int) > 24 then
  some false
  else
  if (s_1 == [110, 117, 108, 108]) = true then
  some false
  else
  (LoopF (table_isName_l1 s_1) 0).bind (fun o => match o with
  | .inl () =>
  some true
  | .inr r_83 =>
  some r_83)
noncomputable def slices_Index_string_l1 (s_87 : List (List UInt8)) (v_88 : List UInt8) : Int → Option (LS (Int) ((Unit) ⊕ (Int))) := fun t8_94 =>
  if t8_94 < (s_87.length : Int) then
  (idx s_87 t8_94).bind fun (x_102 : List UInt8) =>
  if (v_88 == x_102) = true then
  some (.done (.inr t8_94))
  else
  some (.next (IntKind.i64.wrap (t8_94 + 1)))
  else
  some (.done (.inl ()))
noncomputable def slices_Index_string (s_87 : List (List UInt8)) (v_88 : List UInt8) : Option (Int) :=
  (LoopF (slices_Index_string_l1 s_87 v_88) 0).bind (fun o => match o with
  | .inl () =>
  some (-1)
  | .inr r_107 =>
  some r_107)
noncomputable def slices_Contains_string (s_111 : List (List UInt8)) (v_112 : List UInt8) : Option (Bool) :=
  (slices_Index_string s_111 v_112).bind fun (r_113 : Int) =>
  some (decide (r_113 ≥ 0))
noncomputable def slices_IndexFunc_Value_l1 (s_116 : List Value) (f_117 : Value → Option (Bool)) : Int → Option (LS (Int) ((Unit) ⊕ (Int))) := fun t8_127 =>
  if t8_127 < (s_116.length : Int) then
  (idx s_116 t8_127).bind fun (x_137 : Value) =>
  (f_117 x_137).bind fun (r_139 : Bool) =>
  if r_139 = true then
  some (.done (.inr t8_127))
  else
  some (.next (IntKind.i64.wrap (t8_127 + 1)))
  else
  some (.done (.inl ()))
noncomputable def slices_IndexFunc_Value (s_116 : List Value) (f_117 : Value → Option (Bool)) : Option (Int) :=
  (LoopF (slices_IndexFunc_Value_l1 s_116 f_117) 0).bind (fun o => match o with
  | .inl () =>
  some (-1)
  | .inr r_144 =>
  some r_144)
noncomputable def slices_ContainsFunc_Value (s_148 : List Value) (f_149 : Value → Option (Bool)) : Option (Bool) :=
  (slices_IndexFunc_Value s_148 f_149).bind fun (r_152 : Int) =>
  some (decide (r_152 ≥ 0))
noncomputable def value_Valid (v_155 : Value) : Option (Bool) :=
  if (v_155.Kind == 0) = true then
  if (v_155.Num == 0) = true then
  some (v_155.Str == [])
  else
  some false
  else
  if (v_155.Kind == 1) = true then
  some (v_155.Str == [])
  else
  if (v_155.Kind == 2) = true then
  if (v_155.Num == 0) = true then
  some (decide ((v_155.Str.length : Int) ≤ 200))
  else
  some false
  else
  if (v_155.Kind == 3) = true then
  if v_155.Num ≥ 1 then
  some (v_155.Str == [])
  else
  some false
  else
  some false
noncomputable def table_validValues_1 (v_164 : Value) : Option (Bool) :=
  (value_Valid v_164).bind fun (r_165 : Bool) =>
  some (!r_165)
noncomputable def table_validValues (l_168 : List Value) : Option (Bool) :=
  (slices_ContainsFunc_Value l_168 (fun (y_169 : Value) => table_validValues_1 y_169)).bind fun (r_170 : Bool) =>
  some (!r_170)
noncomputable def table_Valid_l1 (t_173 : Table) : Int → Option (LS (Int) ((Unit) ⊕ (Int))) := fun t25_193 =>
  if t25_193 < (t_173.Attrs.length : Int) then
  (idx t_173.Attrs t25_193).bind fun (x_214 : List UInt8) =>
  (table_isName x_214).bind fun (r_216 : Bool) =>
  if r_216 = true then
  if (0 : Int) ≤ t25_193 then
  if t25_193 ≤ (t_173.Attrs.length : Int) then
  (slices_Contains_string (t_173.Attrs.take (t25_193.toNat)) x_214).bind fun (r_223 : Bool) =>
  if r_223 = true then
  some (.done (.inr 1))
  else
  some (.next (IntKind.i64.wrap (t25_193 + 1)))
  else none
  else none
  else
  some (.done (.inr 1))
  else
  some (.done (.inl ()))
noncomputable def table_Valid_l2 (t_173 : Table) : (Int × Int) → Option (LS (Int × Int) ((Unit) ⊕ (Int))) := fun (last_239, t45_240) =>
  if t45_240 < (t_173.Rows.length : Int) then
  (idx t_173.Rows t45_240).bind fun (x_256 : Row) =>
  if x_256.ID ≤ last_239 then
  some (.done (.inr 1))
  else
  if ((x_256.Values.length : Int) != (t_173.Attrs.length : Int)) = true then
  some (.done (.inr 6))
  else
  (table_validValues x_256.Values).bind fun (r_260 : Bool) =>
  if r_260 = true then
  some (.next (x_256.ID, (IntKind.i64.wrap (t45_240 + 1))))
  else
  some (.done (.inr 1))
  else
  some (.done (.inl ()))
noncomputable def table_Valid (t_173 : Table) : Option (Int) :=
  (table_isName t_173.Name).bind fun (r_174 : Bool) =>
  if r_174 = true then
  if (t_173.Attrs.length : Int) > 16 then
  some 3
  else
  if (t_173.Rows.length : Int) > 1000 then
  some 3
  else
  (LoopF (table_Valid_l1 t_173) 0).bind (fun o => match o with
  | .inl () =>
  (LoopF (table_Valid_l2 t_173) (0, 0)).bind (fun o => match o with
  | .inl () =>
  some 0
  | .inr r_265 =>
  some r_265)
  | .inr r_268 =>
  some r_268)
  else
  some 1
noncomputable def odmine_check (t_272 : Table) : Option (Int) :=
  (table_Valid t_272).bind fun (r_273 : Int) =>
  if (r_273 != 0) = true then
  some r_273
  else
  if (t_272.Attrs.length : Int) > 6 then
  some 3
  else
  if (t_272.Rows.length : Int) > 200 then
  some 3
  else
  some 0
noncomputable def ordering_check (t_279 : Table) (ok_280 : Int → Option (Bool)) : Option (Int) :=
  (table_Valid t_279).bind fun (r_283 : Int) =>
  if (r_283 != 0) = true then
  some r_283
  else
  (ok_280 (t_279.Attrs.length : Int)).bind fun (r_286 : Bool) =>
  if r_286 = true then
  some 0
  else
  some 1
noncomputable def slices_IndexFunc_int_l1 (s_290 : List Int) (f_291 : Int → Option (Bool)) : Int → Option (LS (Int) ((Unit) ⊕ (Int))) := fun t8_301 =>
  if t8_301 < (s_290.length : Int) then
  (idx s_290 t8_301).bind fun (x_311 : Int) =>
  (f_291 x_311).bind fun (r_313 : Bool) =>
  if r_313 = true then
  some (.done (.inr t8_301))
  else
  some (.next (IntKind.i64.wrap (t8_301 + 1)))
  else
  some (.done (.inl ()))
noncomputable def slices_IndexFunc_int (s_290 : List Int) (f_291 : Int → Option (Bool)) : Option (Int) :=
  (LoopF (slices_IndexFunc_int_l1 s_290 f_291) 0).bind (fun o => match o with
  | .inl () =>
  some (-1)
  | .inr r_318 =>
  some r_318)
noncomputable def slices_ContainsFunc_int (s_322 : List Int) (f_323 : Int → Option (Bool)) : Option (Bool) :=
  (slices_IndexFunc_int s_322 f_323).bind fun (r_326 : Int) =>
  some (decide (r_326 ≥ 0))
noncomputable def ordering_list_1 (a_329 : Int) (c_330 : Int) : Option (Bool) :=
  if a_329 < 0 then
  some true
  else
  some (decide (a_329 ≥ c_330))
noncomputable def ordering_list (n_333 : Int) (l_334 : List Int) : Option (Bool) :=
  if (l_334.length : Int) ≤ 8 then
  (slices_ContainsFunc_int l_334 (fun (y_336 : Int) => ordering_list_1 y_336 n_333)).bind fun (r_337 : Bool) =>
  some (!r_337)
  else
  some false
noncomputable def ordering_Valid (n_340 : Int) (d_341 : OD) : Option (Bool) :=
  (ordering_list n_340 d_341.Lhs).bind fun (r_342 : Bool) =>
  if r_342 = true then
  (ordering_list n_340 d_341.Rhs).bind fun (r_345 : Bool) =>
  some r_345
  else
  some false
noncomputable def ordering_Holds_1 (n_348 : Int) (c_349 : OD) : Option (Bool) :=
  (ordering_Valid n_348 c_349).bind fun (r_350 : Bool) =>
  some r_350
noncomputable def ordering_Violation_1 (n_353 : Int) (c_354 : OD) : Option (Bool) :=
  (ordering_Valid n_353 c_354).bind fun (r_355 : Bool) =>
  some r_355
noncomputable def cmp_Or_int_l1 (vals_358 : List Int) : Int → Option (LS (Int) ((Unit) ⊕ (Int))) := fun t8_366 =>
  if t8_366 < (vals_358.length : Int) then
  (idx vals_358 t8_366).bind fun (x_378 : Int) =>
  if (x_378 != 0) = true then
  some (.done (.inr x_378))
  else
  some (.next (IntKind.i64.wrap (t8_366 + 1)))
  else
  some (.done (.inl ()))
noncomputable def cmp_Or_int (vals_358 : List Int) : Option (Int) :=
  (LoopF (cmp_Or_int_l1 vals_358) 0).bind (fun o => match o with
  | .inl () =>
  some 0
  | .inr r_383 =>
  some r_383)
noncomputable def cmp_isNaN_int (x_387 : Int) : Option (Bool) :=
  some (x_387 != x_387)
noncomputable def cmp_Compare_int (x_389 : Int) (y_390 : Int) : Option (Int) :=
  (cmp_isNaN_int x_389).bind fun (r_393 : Bool) =>
  (cmp_isNaN_int y_390).bind fun (r_397 : Bool) =>
  if r_393 = true then
  if r_397 = true then
  some 0
  else
  some (-1)
  else
  if r_397 = true then
  some 1
  else
  if x_389 < y_390 then
  some (-1)
  else
  if x_389 > y_390 then
  some 1
  else
  some 0
noncomputable def cmp_isNaN_int64 (x_405 : Int) : Option (Bool) :=
  some (x_405 != x_405)
noncomputable def cmp_Compare_int64 (x_407 : Int) (y_408 : Int) : Option (Int) :=
  (cmp_isNaN_int64 x_407).bind fun (r_411 : Bool) =>
  (cmp_isNaN_int64 y_408).bind fun (r_415 : Bool) =>
  if r_411 = true then
  if r_415 = true then
  some 0
  else
  some (-1)
  else
  if r_415 = true then
  some 1
  else
  if x_407 < y_408 then
  some (-1)
  else
  if x_407 > y_408 then
  some 1
  else
  some 0
noncomputable def bytealg_CompareString (a_423 : List UInt8) (b_424 : List UInt8) : Option (Int) :=
  some (Lib.compareBytes a_423 b_424)
noncomputable def strings_Compare (a_428 : List UInt8) (b_429 : List UInt8) : Option (Int) :=
  (bytealg_CompareString a_428 b_429).bind fun (r_430 : Int) =>
  some r_430
noncomputable def value_Compare (a_433 : Value) (b_434 : Value) : Option (Int) :=
  (cmp_Compare_int a_433.Kind b_434.Kind).bind fun (r_435 : Int) =>
  (cmp_Compare_int64 a_433.Num b_434.Num).bind fun (r_437 : Int) =>
  (strings_Compare a_433.Str b_434.Str).bind fun (r_439 : Int) =>
  (cmp_Or_int [r_435, r_437, r_439]).bind fun (r_441 : Int) =>
  some r_441
noncomputable def ordering_compare_l1 (a_444 : Row) (b_445 : Row) (l_446 : List Int) : Int → Option (LS (Int) ((Unit) ⊕ (Int))) := fun t12_460 =>
  if t12_460 < (l_446.length : Int) then
  (idx l_446 t12_460).bind fun (x_478 : Int) =>
  (idx a_444.Values x_478).bind fun (x_480 : Value) =>
  (idx b_445.Values x_478).bind fun (x_482 : Value) =>
  (value_Compare x_480 x_482).bind fun (r_484 : Int) =>
  if (r_484 != 0) = true then
  some (.done (.inr r_484))
  else
  some (.next (IntKind.i64.wrap (t12_460 + 1)))
  else
  some (.done (.inl ()))
noncomputable def ordering_compare (a_444 : Row) (b_445 : Row) (l_446 : List Int) : Option (Int) :=
  (LoopF (ordering_compare_l1 a_444 b_445 l_446) 0).bind (fun o => match o with
  | .inl () =>
  some 0
  | .inr r_489 =>
  some r_489)
noncomputable def ordering_kind (a_493 : Row) (b_494 : Row) (d_495 : OD) : Option (Int) :=
  (ordering_compare a_493 b_494 d_495.Lhs).bind fun (r_500 : Int) =>
  (ordering_compare a_493 b_494 d_495.Rhs).bind fun (r_502 : Int) =>
  (show Option (Bool) from
  if (r_500 == 0) = true then
  some (r_502 != 0)
  else
  some false).bind (fun t19_505 =>
  if t19_505 = true then
  some 1
  else
  if (IntKind.i64.wrap (r_500 * r_502)) < 0 then
  some 2
  else
  some 0)
noncomputable def ordering_Violation_l3 (t_513 : Table) (d_514 : OD) (t20_568 : Int) (x_622 : Row) : Int → Option (LS (Int) ((Unit) ⊕ (Int × Int × Int × Bool))) := fun t31_639 =>
  if t31_639 < (((t_513.Rows.drop (IntKind.i64.wrap (t20_568 + 1)).toNat).take (t_513.Rows.length - (IntKind.i64.wrap (t20_568 + 1)).toNat)).length : Int) then
  (idx ((t_513.Rows.drop (IntKind.i64.wrap (t20_568 + 1)).toNat).take (t_513.Rows.length - (IntKind.i64.wrap (t20_568 + 1)).toNat)) t31_639).bind fun (x_655 : Row) =>
  (ordering_kind x_622 x_655 d_514).bind fun (r_659 : Int) =>
  if (r_659 != 0) = true then
  some (.done (.inr (x_622.ID, x_655.ID, r_659, true)))
  else
  some (.next (IntKind.i64.wrap (t31_639 + 1)))
  else
  some (.done (.inl ()))
noncomputable def ordering_Violation_l4 (t_513 : Table) (d_514 : OD) : Int → Option (LS (Int) ((Unit) ⊕ (Int × Int × Int × Bool))) := fun t20_568 =>
  if t20_568 < (t_513.Rows.length : Int) then
  (idx t_513.Rows t20_568).bind fun (x_622 : Row) =>
  if 0 ≤ (IntKind.i64.wrap (t20_568 + 1)) then
  if (IntKind.i64.wrap (t20_568 + 1)) ≤ (t_513.Rows.length : Int) then
  (LoopF (ordering_Violation_l3 t_513 d_514 t20_568 x_622) 0).bind (fun o => match o with
  | .inl () =>
  some (.next (IntKind.i64.wrap (t20_568 + 1)))
  | .inr r_664 =>
  some (.done (.inr r_664)))
  else none
  else none
  else
  some (.done (.inl ()))
noncomputable def ordering_Violation (t_513 : Table) (d_514 : OD) : Option (Int × Int × Int × Bool) :=
  (ordering_check t_513 (fun (y_515 : Int) => ordering_Violation_1 y_515 d_514)).bind fun (r_516 : Int) =>
  if (r_516 != 0) = true then
  some (0, 0, 0, false)
  else
  (LoopF (ordering_Violation_l4 t_513 d_514) 0).bind (fun o => match o with
  | .inl () =>
  some (0, 0, 0, false)
  | .inr r_669 =>
  some r_669)
noncomputable def ordering_Holds (t_673 : Table) (d_674 : OD) : Option (Bool × Int) :=
  (ordering_check t_673 (fun (y_678 : Int) => ordering_Holds_1 y_678 d_674)).bind fun (r_679 : Int) =>
  if (r_679 != 0) = true then
  some (false, r_679)
  else
  (ordering_Violation t_673 d_674).bind fun (r_682 : Int × Int × Int × Bool) =>
  some ((!r_682.2.2.2), 0)
noncomputable def odmine_Keys_l3 (t_685 : Table) (t19_722 : Int) : (Bool × Int) → Option (LS (Bool × Int) (Bool)) := fun (all_762, t25_763) =>
  if t25_763 < (t_685.Attrs.length : Int) then
  (ordering_Holds t_685 (OD.mk [t19_722] [t25_763])).bind fun (r_776 : Bool × Int) =>
  if all_762 = true then
  some (.next (r_776.1, (IntKind.i64.wrap (t25_763 + 1))))
  else
  some (.next (false, (IntKind.i64.wrap (t25_763 + 1))))
  else
  some (.done all_762)
noncomputable def odmine_Keys_l4 (t_685 : Table) : (List Int × Int) → Option (LS (List Int × Int) (List Int)) := fun (out_721, t19_722) =>
  if t19_722 < (t_685.Attrs.length : Int) then
  (LoopF (odmine_Keys_l3 t_685 t19_722) (true, 0)).bind (fun all_771 =>
  if all_771 = true then
  if roomB (out_721.length + 1) 8 = true then
  some (.next ((out_721 ++ [t19_722]), (IntKind.i64.wrap (t19_722 + 1))))
  else none
  else
  some (.next (out_721, (IntKind.i64.wrap (t19_722 + 1)))))
  else
  some (.done out_721)
noncomputable def odmine_Keys (t_685 : Table) : Option (List Int × Int) :=
  (odmine_check t_685).bind fun (r_688 : Int) =>
  if (r_688 != 0) = true then
  some ([], r_688)
  else
  (LoopF (odmine_Keys_l4 t_685) ([], 0)).bind (fun out_753 =>
  some (out_753, 0))
noncomputable def bits_OnesCount32 (x : Int) : Option Int := if 0 ≤ x ∧ x < 4294967296 then some ((ones32 x.toNat : Nat) : Int) else none
noncomputable def attrset_Size (s_788 : Int) : Option (Int) :=
  (bits_OnesCount32 s_788).bind fun (r_789 : Int) =>
  some r_789
noncomputable def cmp_isNaN_Set (x_902 : Int) : Option (Bool) :=
  some (x_902 != x_902)
noncomputable def cmp_Compare_Set (x_904 : Int) (y_905 : Int) : Option (Int) :=
  (cmp_isNaN_Set x_904).bind fun (r_908 : Bool) =>
  (cmp_isNaN_Set y_905).bind fun (r_912 : Bool) =>
  if r_908 = true then
  if r_912 = true then
  some 0
  else
  some (-1)
  else
  if r_912 = true then
  some 1
  else
  if x_904 < y_905 then
  some (-1)
  else
  if x_904 > y_905 then
  some 1
  else
  some 0
noncomputable def attrset_compare (a_920 : Int) (b_921 : Int) : Option (Int) :=
  (attrset_Size a_920).bind fun (r_922 : Int) =>
  (attrset_Size b_921).bind fun (r_924 : Int) =>
  (cmp_Compare_int r_922 r_924).bind fun (r_926 : Int) =>
  (cmp_Compare_Set a_920 b_921).bind fun (r_928 : Int) =>
  (cmp_Or_int [r_926, r_928]).bind fun (r_930 : Int) =>
  some r_930
noncomputable def attrset_Order_l4 (l_978 : List Int) : Int → Option (LS (Int) (Unit)) := fun k_1058 =>
  if k_1058 < ((l_978.length : Nat) : Int) then
  (idx l_978 k_1058).bind fun (x_1138 : Int) =>
  (idx l_978 (IntKind.i64.wrap (k_1058 - 1))).bind fun (x_1140 : Int) =>
  if (x_1138 == x_1140) = true then
  none
  else
  some (.next (IntKind.i64.wrap (k_1058 + 1)))
  else
  some (.done ())
noncomputable def attrset_Order (l_964 : List Int) : Option (List Int) :=
  if roomB l_964.length 4 = true then
  (srtF (fun (y_980 : Int) (y_981 : Int) => attrset_compare y_980 y_981) l_964).bind fun (l_978 : List Int) =>
  if ((l_978.length : Nat) : Int) < 2 then
  some l_978
  else
  (LoopF (attrset_Order_l4 l_978) 1).bind (fun () =>
  some l_978)
  else none
noncomputable def attrset_Subsets_l1 (s_1211 : Int) : (List Int × Int) → Option (LS (List Int × Int) (List Int)) := fun (out_1217, x_1218) =>
  if (x_1218 != 0) = true then
  if roomB (out_1217.length + 1) 4 = true then
  some (.next ((out_1217 ++ [(IntKind.u32.wrap ((BitVec.ofInt 32 (IntKind.u32.wrap (x_1218 - 1)) &&& (BitVec.ofInt 32 s_1211)).toNat : Int))]), (IntKind.u32.wrap ((BitVec.ofInt 32 (IntKind.u32.wrap (x_1218 - 1)) &&& (BitVec.ofInt 32 s_1211)).toNat : Int))))
  else none
  else
  some (.done out_1217)
noncomputable def attrset_Subsets (s_1211 : Int) : Option (List Int) :=
  (attrset_Size s_1211).bind fun (r_1212 : Int) =>
  if r_1212 > 12 then
  some []
  else
  (LoopF (attrset_Subsets_l1 s_1211) ([s_1211], s_1211)).bind (fun out_1221 =>
  (attrset_Order out_1221).bind fun (r_1226 : List Int) =>
  some r_1226)
noncomputable def ordering_Satisfies_1 (n_1230 : Int) (c_1231 : Canonical) : Option (Bool) :=
  if c_1231.A ≥ 0 then
  if c_1231.A < n_1230 then
  if c_1231.B ≥ (-1) then
  if c_1231.B < n_1230 then
  if n_1230 < 0 then none else
  some ((Int.fdiv c_1231.Context (2 ^ (min (n_1230).toNat 32))) == 0)
  else
  some false
  else
  some false
  else
  some false
  else
  some false
noncomputable def ordering_Satisfies_l1 (t_1239 : Table) (c_1240 : Canonical) : (List Int × Int) → Option (LS (List Int × Int) (List Int)) := fun (context_1252, t25_1253) =>
  if t25_1253 < (t_1239.Attrs.length : Int) then
  if t25_1253 < 0 then none else
  if ((IntKind.u32.wrap ((BitVec.ofInt 32 (Int.fdiv c_1240.Context (2 ^ (min (t25_1253).toNat 32))) &&& (1#32)).toNat : Int)) == 1) = true then
  if roomB (context_1252.length + 1) 8 = true then
  some (.next ((context_1252 ++ [t25_1253]), (IntKind.i64.wrap (t25_1253 + 1))))
  else none
  else
  some (.next (context_1252, (IntKind.i64.wrap (t25_1253 + 1))))
  else
  some (.done context_1252)
noncomputable def ordering_Satisfies_l4 (t_1239 : Table) (c_1240 : Canonical) (context_1260 : List Int) (t42_1426 : Int) (x_1588 : Row) : Int → Option (LS (Int) ((Unit) ⊕ (Bool × Int))) := fun t53_1641 =>
  if t53_1641 < (((t_1239.Rows.drop (IntKind.i64.wrap (t42_1426 + 1)).toNat).take (t_1239.Rows.length - (IntKind.i64.wrap (t42_1426 + 1)).toNat)).length : Int) then
  (idx ((t_1239.Rows.drop (IntKind.i64.wrap (t42_1426 + 1)).toNat).take (t_1239.Rows.length - (IntKind.i64.wrap (t42_1426 + 1)).toNat)) t53_1641).bind fun (x_1693 : Row) =>
  (ordering_compare x_1588 x_1693 context_1260).bind fun (r_1695 : Int) =>
  if (r_1695 != 0) = true then
  some (.next (IntKind.i64.wrap (t53_1641 + 1)))
  else
  (idx x_1588.Values c_1240.A).bind fun (x_1704 : Value) =>
  (idx x_1693.Values c_1240.A).bind fun (x_1706 : Value) =>
  (value_Compare x_1704 x_1706).bind fun (r_1708 : Int) =>
  if c_1240.B < 0 then
  if (r_1708 != 0) = true then
  some (.done (.inr (false, 0)))
  else
  if c_1240.B ≥ 0 then
  (idx x_1588.Values c_1240.B).bind fun (x_1715 : Value) =>
  (idx x_1693.Values c_1240.B).bind fun (x_1719 : Value) =>
  (value_Compare x_1715 x_1719).bind fun (r_1721 : Int) =>
  if (IntKind.i64.wrap (r_1708 * r_1721)) < 0 then
  some (.done (.inr (false, 0)))
  else
  some (.next (IntKind.i64.wrap (t53_1641 + 1)))
  else
  some (.next (IntKind.i64.wrap (t53_1641 + 1)))
  else
  if c_1240.B ≥ 0 then
  (idx x_1588.Values c_1240.B).bind fun (x_1727 : Value) =>
  (idx x_1693.Values c_1240.B).bind fun (x_1731 : Value) =>
  (value_Compare x_1727 x_1731).bind fun (r_1733 : Int) =>
  if (IntKind.i64.wrap (r_1708 * r_1733)) < 0 then
  some (.done (.inr (false, 0)))
  else
  some (.next (IntKind.i64.wrap (t53_1641 + 1)))
  else
  some (.next (IntKind.i64.wrap (t53_1641 + 1)))
  else
  some (.done (.inl ()))
noncomputable def ordering_Satisfies_l5 (t_1239 : Table) (c_1240 : Canonical) (context_1260 : List Int) : Int → Option (LS (Int) ((Unit) ⊕ (Bool × Int))) := fun t42_1426 =>
  if t42_1426 < (t_1239.Rows.length : Int) then
  (idx t_1239.Rows t42_1426).bind fun (x_1588 : Row) =>
  if 0 ≤ (IntKind.i64.wrap (t42_1426 + 1)) then
  if (IntKind.i64.wrap (t42_1426 + 1)) ≤ (t_1239.Rows.length : Int) then
  (LoopF (ordering_Satisfies_l4 t_1239 c_1240 context_1260 t42_1426 x_1588) 0).bind (fun o => match o with
  | .inl () =>
  some (.next (IntKind.i64.wrap (t42_1426 + 1)))
  | .inr r_1738 =>
  some (.done (.inr r_1738)))
  else none
  else none
  else
  some (.done (.inl ()))
noncomputable def ordering_Satisfies (t_1239 : Table) (c_1240 : Canonical) : Option (Bool × Int) :=
  (ordering_check t_1239 (fun (y_1244 : Int) => ordering_Satisfies_1 y_1244 c_1240)).bind fun (r_1245 : Int) =>
  if (r_1245 != 0) = true then
  some (false, r_1245)
  else
  (LoopF (ordering_Satisfies_l1 t_1239 c_1240) ([], 0)).bind (fun context_1260 =>
  (LoopF (ordering_Satisfies_l5 t_1239 c_1240 context_1260) 0).bind (fun o => match o with
  | .inl () =>
  some (true, 0)
  | .inr r_1743 =>
  some r_1743))
noncomputable def odmine_All_l158 (t_1802 : Table) (x_13220 : Int) (t12_14701 : Int) : ((List (Canonical × Bool)) × Int) → Option (LS ((List (Canonical × Bool)) × Int) (((List (Canonical × Bool))) ⊕ ((List (Canonical × Bool))))) := fun (m_15289, rest_15290) =>
  if (rest_15290 != 0) = true then
  (show Option (((List (Canonical × Bool))) ⊕ ((List (Canonical × Bool)))) from
  if (mget m_15289 (Canonical.mk (IntKind.u32.wrap ((BitVec.ofInt 32 x_13220 &&& ~~~ (BitVec.ofInt 32 (IntKind.u32.wrap ((BitVec.ofInt 32 rest_15290 &&& (BitVec.ofInt 32 (IntKind.u32.wrap (0 - rest_15290)))).toNat : Int)))).toNat : Int)) t12_14701 (-1))).isSome = true then
  if ((mget m_15289 (Canonical.mk (IntKind.u32.wrap ((BitVec.ofInt 32 x_13220 &&& ~~~ (BitVec.ofInt 32 (IntKind.u32.wrap ((BitVec.ofInt 32 rest_15290 &&& (BitVec.ofInt 32 (IntKind.u32.wrap (0 - rest_15290)))).toNat : Int)))).toNat : Int)) t12_14701 (-1))).getD false) = true then
  some (.inr m_15289)
  else
  some (.inl m_15289)
  else
  (ordering_Satisfies t_1802 (Canonical.mk (IntKind.u32.wrap ((BitVec.ofInt 32 x_13220 &&& ~~~ (BitVec.ofInt 32 (IntKind.u32.wrap ((BitVec.ofInt 32 rest_15290 &&& (BitVec.ofInt 32 (IntKind.u32.wrap (0 - rest_15290)))).toNat : Int)))).toNat : Int)) t12_14701 (-1))).bind fun (r_15338 : Bool × Int) =>
  if r_15338.1 = true then
  some (.inr (mset m_15289 (Canonical.mk (IntKind.u32.wrap ((BitVec.ofInt 32 x_13220 &&& ~~~ (BitVec.ofInt 32 (IntKind.u32.wrap ((BitVec.ofInt 32 rest_15290 &&& (BitVec.ofInt 32 (IntKind.u32.wrap (0 - rest_15290)))).toNat : Int)))).toNat : Int)) t12_14701 (-1)) r_15338.1))
  else
  some (.inl (mset m_15289 (Canonical.mk (IntKind.u32.wrap ((BitVec.ofInt 32 x_13220 &&& ~~~ (BitVec.ofInt 32 (IntKind.u32.wrap ((BitVec.ofInt 32 rest_15290 &&& (BitVec.ofInt 32 (IntKind.u32.wrap (0 - rest_15290)))).toNat : Int)))).toNat : Int)) t12_14701 (-1)) r_15338.1))).bind (fun o => match o with
  | .inl m_15328 =>
  some (.next (m_15328, (IntKind.u32.wrap ((BitVec.ofInt 32 rest_15290 &&& (BitVec.ofInt 32 (IntKind.u32.wrap (rest_15290 - 1)))).toNat : Int))))
  | .inr rest_15329 =>
  some (.done (.inr rest_15329)))
  else
  some (.done (.inl m_15289))
noncomputable def odmine_All_l159 (t_1802 : Table) (x_13220 : Int) (t12_14701 : Int) : ((List (Canonical × Bool)) × Int) → Option (LS ((List (Canonical × Bool)) × Int) (((List (Canonical × Bool))) ⊕ ((List (Canonical × Bool))))) := fun (m_15377, rest_15378) =>
  if (rest_15378 != 0) = true then
  (show Option (((List (Canonical × Bool))) ⊕ ((List (Canonical × Bool)))) from
  if (mget m_15377 (Canonical.mk (IntKind.u32.wrap ((BitVec.ofInt 32 x_13220 &&& ~~~ (BitVec.ofInt 32 (IntKind.u32.wrap ((BitVec.ofInt 32 rest_15378 &&& (BitVec.ofInt 32 (IntKind.u32.wrap (0 - rest_15378)))).toNat : Int)))).toNat : Int)) t12_14701 (-1))).isSome = true then
  if ((mget m_15377 (Canonical.mk (IntKind.u32.wrap ((BitVec.ofInt 32 x_13220 &&& ~~~ (BitVec.ofInt 32 (IntKind.u32.wrap ((BitVec.ofInt 32 rest_15378 &&& (BitVec.ofInt 32 (IntKind.u32.wrap (0 - rest_15378)))).toNat : Int)))).toNat : Int)) t12_14701 (-1))).getD false) = true then
  some (.inr m_15377)
  else
  some (.inl m_15377)
  else
  (ordering_Satisfies t_1802 (Canonical.mk (IntKind.u32.wrap ((BitVec.ofInt 32 x_13220 &&& ~~~ (BitVec.ofInt 32 (IntKind.u32.wrap ((BitVec.ofInt 32 rest_15378 &&& (BitVec.ofInt 32 (IntKind.u32.wrap (0 - rest_15378)))).toNat : Int)))).toNat : Int)) t12_14701 (-1))).bind fun (r_15426 : Bool × Int) =>
  if r_15426.1 = true then
  some (.inr (mset m_15377 (Canonical.mk (IntKind.u32.wrap ((BitVec.ofInt 32 x_13220 &&& ~~~ (BitVec.ofInt 32 (IntKind.u32.wrap ((BitVec.ofInt 32 rest_15378 &&& (BitVec.ofInt 32 (IntKind.u32.wrap (0 - rest_15378)))).toNat : Int)))).toNat : Int)) t12_14701 (-1)) r_15426.1))
  else
  some (.inl (mset m_15377 (Canonical.mk (IntKind.u32.wrap ((BitVec.ofInt 32 x_13220 &&& ~~~ (BitVec.ofInt 32 (IntKind.u32.wrap ((BitVec.ofInt 32 rest_15378 &&& (BitVec.ofInt 32 (IntKind.u32.wrap (0 - rest_15378)))).toNat : Int)))).toNat : Int)) t12_14701 (-1)) r_15426.1))).bind (fun o => match o with
  | .inl m_15416 =>
  some (.next (m_15416, (IntKind.u32.wrap ((BitVec.ofInt 32 rest_15378 &&& (BitVec.ofInt 32 (IntKind.u32.wrap (rest_15378 - 1)))).toNat : Int))))
  | .inr rest_15417 =>
  some (.done (.inr rest_15417)))
  else
  some (.done (.inl m_15377))
noncomputable def odmine_All_l160 (t_1802 : Table) (x_13220 : Int) : ((List (Canonical × Bool)) × List Canonical × Int) → Option (LS ((List (Canonical × Bool)) × List Canonical × Int) (List Canonical × (List (Canonical × Bool)))) := fun (m_14699, out_14700, t12_14701) =>
  if t12_14701 < (t_1802.Attrs.length : Int) then
  (show Option ((List (Canonical × Bool)) × Bool) from
  if t12_14701 < 0 then none else
  if ((IntKind.u32.wrap ((BitVec.ofInt 32 (Int.fdiv x_13220 (2 ^ (min (t12_14701).toNat 32))) &&& (1#32)).toNat : Int)) == 0) = true then
  if (mget m_14699 (Canonical.mk x_13220 t12_14701 (-1))).isSome = true then
  if ((mget m_14699 (Canonical.mk x_13220 t12_14701 (-1))).getD false) = true then
  (LoopF (odmine_All_l158 t_1802 x_13220 t12_14701) (m_14699, x_13220)).bind (fun o => match o with
  | .inl rest_15316 =>
  some (rest_15316, true)
  | .inr rest_15317 =>
  some (rest_15317, false))
  else
  some (m_14699, false)
  else
  (ordering_Satisfies t_1802 (Canonical.mk x_13220 t12_14701 (-1))).bind fun (r_15349 : Bool × Int) =>
  if r_15349.1 = true then
  (LoopF (odmine_All_l159 t_1802 x_13220 t12_14701) ((mset m_14699 (Canonical.mk x_13220 t12_14701 (-1)) r_15349.1), x_13220)).bind (fun o => match o with
  | .inl rest_15404 =>
  some (rest_15404, true)
  | .inr rest_15405 =>
  some (rest_15405, false))
  else
  some ((mset m_14699 (Canonical.mk x_13220 t12_14701 (-1)) r_15349.1), false)
  else
  some (m_14699, false)).bind (fun (m_15252, t27_15253) =>
  if t27_15253 = true then
  if roomB (out_14700.length + 1) 24 = true then
  some (.next (m_15252, (out_14700 ++ [(Canonical.mk x_13220 t12_14701 (-1))]), (IntKind.i64.wrap (t12_14701 + 1))))
  else none
  else
  some (.next (m_15252, out_14700, (IntKind.i64.wrap (t12_14701 + 1)))))
  else
  some (.done (out_14700, m_14699))
noncomputable def odmine_All_l161 (t_1802 : Table) (x_13220 : Int) : ((List (Canonical × Bool)) × List Int × Int) → Option (LS ((List (Canonical × Bool)) × List Int × Int) ((List (Canonical × Bool)) × List Int)) := fun (m_15468, free_15469, t17_15470) =>
  if t17_15470 < (t_1802.Attrs.length : Int) then
  (show Option ((List (Canonical × Bool)) × Bool) from
  if t17_15470 < 0 then none else
  if ((IntKind.u32.wrap ((BitVec.ofInt 32 (Int.fdiv x_13220 (2 ^ (min (t17_15470).toNat 32))) &&& (1#32)).toNat : Int)) == 0) = true then
  if (mget m_15468 (Canonical.mk x_13220 t17_15470 (-1))).isSome = true then
  some (m_15468, (!((mget m_15468 (Canonical.mk x_13220 t17_15470 (-1))).getD false)))
  else
  (ordering_Satisfies t_1802 (Canonical.mk x_13220 t17_15470 (-1))).bind fun (r_15522 : Bool × Int) =>
  some ((mset m_15468 (Canonical.mk x_13220 t17_15470 (-1)) r_15522.1), (!r_15522.1))
  else
  some (m_15468, false)).bind (fun (m_15511, t32_15512) =>
  if t32_15512 = true then
  if roomB (free_15469.length + 1) 8 = true then
  some (.next (m_15511, (free_15469 ++ [t17_15470]), (IntKind.i64.wrap (t17_15470 + 1))))
  else none
  else
  some (.next (m_15511, free_15469, (IntKind.i64.wrap (t17_15470 + 1)))))
  else
  some (.done (m_15468, free_15469))
noncomputable def odmine_All_l198 (t_1802 : Table) (x_13220 : Int) (x_17788 : Int) (x_18542 : Int) : ((List (Canonical × Bool)) × Int) → Option (LS ((List (Canonical × Bool)) × Int) (((List (Canonical × Bool))) ⊕ ((List (Canonical × Bool))))) := fun (m_18757, rest_18758) =>
  if (rest_18758 != 0) = true then
  (show Option (((List (Canonical × Bool))) ⊕ ((List (Canonical × Bool)))) from
  if (mget m_18757 (Canonical.mk (IntKind.u32.wrap ((BitVec.ofInt 32 x_13220 &&& ~~~ (BitVec.ofInt 32 (IntKind.u32.wrap ((BitVec.ofInt 32 rest_18758 &&& (BitVec.ofInt 32 (IntKind.u32.wrap (0 - rest_18758)))).toNat : Int)))).toNat : Int)) x_17788 x_18542)).isSome = true then
  if ((mget m_18757 (Canonical.mk (IntKind.u32.wrap ((BitVec.ofInt 32 x_13220 &&& ~~~ (BitVec.ofInt 32 (IntKind.u32.wrap ((BitVec.ofInt 32 rest_18758 &&& (BitVec.ofInt 32 (IntKind.u32.wrap (0 - rest_18758)))).toNat : Int)))).toNat : Int)) x_17788 x_18542)).getD false) = true then
  some (.inr m_18757)
  else
  some (.inl m_18757)
  else
  (ordering_Satisfies t_1802 (Canonical.mk (IntKind.u32.wrap ((BitVec.ofInt 32 x_13220 &&& ~~~ (BitVec.ofInt 32 (IntKind.u32.wrap ((BitVec.ofInt 32 rest_18758 &&& (BitVec.ofInt 32 (IntKind.u32.wrap (0 - rest_18758)))).toNat : Int)))).toNat : Int)) x_17788 x_18542)).bind fun (r_18806 : Bool × Int) =>
  if r_18806.1 = true then
  some (.inr (mset m_18757 (Canonical.mk (IntKind.u32.wrap ((BitVec.ofInt 32 x_13220 &&& ~~~ (BitVec.ofInt 32 (IntKind.u32.wrap ((BitVec.ofInt 32 rest_18758 &&& (BitVec.ofInt 32 (IntKind.u32.wrap (0 - rest_18758)))).toNat : Int)))).toNat : Int)) x_17788 x_18542) r_18806.1))
  else
  some (.inl (mset m_18757 (Canonical.mk (IntKind.u32.wrap ((BitVec.ofInt 32 x_13220 &&& ~~~ (BitVec.ofInt 32 (IntKind.u32.wrap ((BitVec.ofInt 32 rest_18758 &&& (BitVec.ofInt 32 (IntKind.u32.wrap (0 - rest_18758)))).toNat : Int)))).toNat : Int)) x_17788 x_18542) r_18806.1))).bind (fun o => match o with
  | .inl m_18796 =>
  some (.next (m_18796, (IntKind.u32.wrap ((BitVec.ofInt 32 rest_18758 &&& (BitVec.ofInt 32 (IntKind.u32.wrap (rest_18758 - 1)))).toNat : Int))))
  | .inr rest_18797 =>
  some (.done (.inr rest_18797)))
  else
  some (.done (.inl m_18757))
noncomputable def odmine_All_l199 (t_1802 : Table) (x_13220 : Int) (x_17788 : Int) (x_18542 : Int) : ((List (Canonical × Bool)) × Int) → Option (LS ((List (Canonical × Bool)) × Int) (((List (Canonical × Bool))) ⊕ ((List (Canonical × Bool))))) := fun (m_18845, rest_18846) =>
  if (rest_18846 != 0) = true then
  (show Option (((List (Canonical × Bool))) ⊕ ((List (Canonical × Bool)))) from
  if (mget m_18845 (Canonical.mk (IntKind.u32.wrap ((BitVec.ofInt 32 x_13220 &&& ~~~ (BitVec.ofInt 32 (IntKind.u32.wrap ((BitVec.ofInt 32 rest_18846 &&& (BitVec.ofInt 32 (IntKind.u32.wrap (0 - rest_18846)))).toNat : Int)))).toNat : Int)) x_17788 x_18542)).isSome = true then
  if ((mget m_18845 (Canonical.mk (IntKind.u32.wrap ((BitVec.ofInt 32 x_13220 &&& ~~~ (BitVec.ofInt 32 (IntKind.u32.wrap ((BitVec.ofInt 32 rest_18846 &&& (BitVec.ofInt 32 (IntKind.u32.wrap (0 - rest_18846)))).toNat : Int)))).toNat : Int)) x_17788 x_18542)).getD false) = true then
  some (.inr m_18845)
  else
  some (.inl m_18845)
  else
  (ordering_Satisfies t_1802 (Canonical.mk (IntKind.u32.wrap ((BitVec.ofInt 32 x_13220 &&& ~~~ (BitVec.ofInt 32 (IntKind.u32.wrap ((BitVec.ofInt 32 rest_18846 &&& (BitVec.ofInt 32 (IntKind.u32.wrap (0 - rest_18846)))).toNat : Int)))).toNat : Int)) x_17788 x_18542)).bind fun (r_18894 : Bool × Int) =>
  if r_18894.1 = true then
  some (.inr (mset m_18845 (Canonical.mk (IntKind.u32.wrap ((BitVec.ofInt 32 x_13220 &&& ~~~ (BitVec.ofInt 32 (IntKind.u32.wrap ((BitVec.ofInt 32 rest_18846 &&& (BitVec.ofInt 32 (IntKind.u32.wrap (0 - rest_18846)))).toNat : Int)))).toNat : Int)) x_17788 x_18542) r_18894.1))
  else
  some (.inl (mset m_18845 (Canonical.mk (IntKind.u32.wrap ((BitVec.ofInt 32 x_13220 &&& ~~~ (BitVec.ofInt 32 (IntKind.u32.wrap ((BitVec.ofInt 32 rest_18846 &&& (BitVec.ofInt 32 (IntKind.u32.wrap (0 - rest_18846)))).toNat : Int)))).toNat : Int)) x_17788 x_18542) r_18894.1))).bind (fun o => match o with
  | .inl m_18884 =>
  some (.next (m_18884, (IntKind.u32.wrap ((BitVec.ofInt 32 rest_18846 &&& (BitVec.ofInt 32 (IntKind.u32.wrap (rest_18846 - 1)))).toNat : Int))))
  | .inr rest_18885 =>
  some (.done (.inr rest_18885)))
  else
  some (.done (.inl m_18845))
noncomputable def odmine_All_l200 (t_1802 : Table) (x_13220 : Int) (free_15499 : List Int) (t40_16656 : Int) (x_17788 : Int) : ((List (Canonical × Bool)) × List Canonical × Int) → Option (LS ((List (Canonical × Bool)) × List Canonical × Int) ((List (Canonical × Bool)) × List Canonical)) := fun (m_18163, out_18164, t50_18165) =>
  if t50_18165 < (((free_15499.length - (IntKind.i64.wrap (t40_16656 + 1)).toNat) : Nat) : Int) then
  (idx ((free_15499.drop ((IntKind.i64.wrap (t40_16656 + 1)).toNat)).take (free_15499.length - (IntKind.i64.wrap (t40_16656 + 1)).toNat)) t50_18165).bind fun (x_18542 : Int) =>
  (show Option ((List (Canonical × Bool)) × Bool) from
  if (mget m_18163 (Canonical.mk x_13220 x_17788 x_18542)).isSome = true then
  if ((mget m_18163 (Canonical.mk x_13220 x_17788 x_18542)).getD false) = true then
  (LoopF (odmine_All_l198 t_1802 x_13220 x_17788 x_18542) (m_18163, x_13220)).bind (fun o => match o with
  | .inl rest_18784 =>
  some (rest_18784, true)
  | .inr rest_18785 =>
  some (rest_18785, false))
  else
  some (m_18163, false)
  else
  (ordering_Satisfies t_1802 (Canonical.mk x_13220 x_17788 x_18542)).bind fun (r_18817 : Bool × Int) =>
  if r_18817.1 = true then
  (LoopF (odmine_All_l199 t_1802 x_13220 x_17788 x_18542) ((mset m_18163 (Canonical.mk x_13220 x_17788 x_18542) r_18817.1), x_13220)).bind (fun o => match o with
  | .inl rest_18872 =>
  some (rest_18872, true)
  | .inr rest_18873 =>
  some (rest_18873, false))
  else
  some ((mset m_18163 (Canonical.mk x_13220 x_17788 x_18542) r_18817.1), false)).bind (fun (m_18722, t60_18723) =>
  if t60_18723 = true then
  if roomB (out_18164.length + 1) 24 = true then
  some (.next (m_18722, (out_18164 ++ [(Canonical.mk x_13220 x_17788 x_18542)]), (IntKind.i64.wrap (t50_18165 + 1))))
  else none
  else
  some (.next (m_18722, out_18164, (IntKind.i64.wrap (t50_18165 + 1)))))
  else
  some (.done (m_18163, out_18164))
noncomputable def odmine_All_l201 (t_1802 : Table) (x_13220 : Int) (free_15499 : List Int) : ((List (Canonical × Bool)) × List Canonical × Int) → Option (LS ((List (Canonical × Bool)) × List Canonical × Int) (List Canonical × (List (Canonical × Bool)))) := fun (m_16654, out_16655, t40_16656) =>
  if t40_16656 < ((free_15499.length : Nat) : Int) then
  (idx free_15499 t40_16656).bind fun (x_17788 : Int) =>
  if 0 ≤ (IntKind.i64.wrap (t40_16656 + 1)) then
  if (IntKind.i64.wrap (t40_16656 + 1)) ≤ ((free_15499.length : Nat) : Int) then
  (LoopF (odmine_All_l200 t_1802 x_13220 free_15499 t40_16656 x_17788) (m_16654, out_16655, 0)).bind (fun (m_18535, out_18536) =>
  some (.next (m_18535, out_18536, (IntKind.i64.wrap (t40_16656 + 1)))))
  else none
  else none
  else
  some (.done (out_16655, m_16654))
noncomputable def odmine_All_l202 (t_1802 : Table) (r_1812 : List Int) : ((List (Canonical × Bool)) × List Canonical × Int) → Option (LS ((List (Canonical × Bool)) × List Canonical × Int) (List Canonical)) := fun (m_7513, out_7514, t24_7515) =>
  if t24_7515 < (r_1812.length : Int) then
  (idx r_1812 t24_7515).bind fun (x_13220 : Int) =>
  (LoopF (odmine_All_l160 t_1802 x_13220) (m_7513, [], 0)).bind (fun (out_15069, out_15070) =>
  if roomB (out_7514.length + out_15069.length) 24 = true then
  (LoopF (odmine_All_l161 t_1802 x_13220) (out_15070, [], 0)).bind (fun (m_15498, free_15499) =>
  (LoopF (odmine_All_l201 t_1802 x_13220 free_15499) (m_15498, [], 0)).bind (fun (out_17782, free_17783) =>
  if roomB ((out_7514.length + out_15069.length) + out_17782.length) 24 = true then
  some (.next (free_17783, ((out_7514 ++ out_15069) ++ out_17782), (IntKind.i64.wrap (t24_7515 + 1))))
  else none))
  else none)
  else
  some (.done out_7514)
noncomputable def odmine_All (t_1802 : Table) : Option (List Canonical × Int) :=
  (odmine_check t_1802).bind fun (r_1805 : Int) =>
  if (r_1805 != 0) = true then
  some ([], r_1805)
  else
  if (t_1802.Attrs.length : Int) < 0 then none else
  (attrset_Subsets (IntKind.u32.wrap ((IntKind.u32.wrap (1 * 2 ^ (min ((t_1802.Attrs.length : Int)).toNat 32))) - 1))).bind fun (r_1812 : List Int) =>
  (LoopF (odmine_All_l202 t_1802 r_1812) ([], [], 0)).bind (fun out_13215 =>
  some (out_13215, 0))
noncomputable def drosslaw31_example_1_l1 (l_18920 : List Int) : (List Value × Int) → Option (LS (List Value × Int) (List Value)) := fun (r_18928, t12_18929) =>
  if t12_18929 < (l_18920.length : Int) then
  (idx l_18920 t12_18929).bind fun (x_18942 : Int) =>
  if roomB (r_18928.length + 1) 32 = true then
  some (.next ((r_18928 ++ [(Value.mk 1 x_18942 [])]), (IntKind.i64.wrap (t12_18929 + 1))))
  else none
  else
  some (.done r_18928)
noncomputable def drosslaw31_example_1 (id_18919 : Int) (l_18920 : List Int) : Option (Row) :=
  (LoopF (drosslaw31_example_1_l1 l_18920) ([], 0)).bind (fun r_18937 =>
  some (Row.mk id_18919 r_18937))
noncomputable def drosslaw31_example : Option (Table) :=
  (drosslaw31_example_1 1 [1, 1, 5]).bind fun (r_18949 : Row) =>
  (drosslaw31_example_1 2 [2, 1, 4]).bind fun (r_18951 : Row) =>
  (drosslaw31_example_1 3 [3, 2, 5]).bind fun (r_18953 : Row) =>
  some (Table.mk [114] [[97], [98], [99]] [r_18949, r_18951, r_18953])
noncomputable def drossref17_Same_l1 (a_18956 : List Canonical) (b_18957 : List Canonical) : Int → Option (LS (Int) ((Unit) ⊕ (Bool))) := fun i_18965 =>
  if i_18965 < (a_18956.length : Int) then
  (idx a_18956 i_18965).bind fun (x_18973 : Canonical) =>
  (idx b_18957 i_18965).bind fun (x_18975 : Canonical) =>
  if ((x_18973.Context == x_18975.Context) && ((x_18973.A == x_18975.A) && (x_18973.B == x_18975.B))) = true then
  some (.next (IntKind.i64.wrap (i_18965 + 1)))
  else
  some (.done (.inr false))
  else
  some (.done (.inl ()))
noncomputable def drossref17_Same (a_18956 : List Canonical) (b_18957 : List Canonical) : Option (Bool) :=
  if ((a_18956.length : Int) != (b_18957.length : Int)) = true then
  some false
  else
  (LoopF (drossref17_Same_l1 a_18956 b_18957) 0).bind (fun o => match o with
  | .inl () =>
  some true
  | .inr r_18980 =>
  some r_18980)
noncomputable def drosslaw31_awake : Option (Bool) :=
  (drosslaw31_example ).bind fun (r_18988 : Table) =>
  (odmine_All r_18988).bind fun (r_18990 : List Canonical × Int) =>
  (drosslaw31_example ).bind fun (r_18996 : Table) =>
  (odmine_Keys r_18996).bind fun (r_18998 : List Int × Int) =>
  if (r_18990.2 == 0) = true then
  if (r_18998.2 == 0) = true then
  (drossref17_Same r_18990.1 [(Canonical.mk 0 0 1), (Canonical.mk 0 1 2), (Canonical.mk 1 1 (-1)), (Canonical.mk 1 2 (-1)), (Canonical.mk 6 0 (-1))]).bind fun (r_19002 : Bool) =>
  if r_19002 = true then
  some ((r_18998.1.length : Int) == 0)
  else
  some false
  else
  some false
  else
  some false
noncomputable def drossref03_letter (c_19010 : Int) : Option (Bool) :=
  if c_19010 ≥ 97 then
  if c_19010 ≤ 122 then
  some true
  else
  if c_19010 ≥ 65 then
  if c_19010 ≤ 90 then
  some true
  else
  some (c_19010 == 95)
  else
  some (c_19010 == 95)
  else
  if c_19010 ≥ 65 then
  if c_19010 ≤ 90 then
  some true
  else
  some (c_19010 == 95)
  else
  some (c_19010 == 95)
noncomputable def drossref01_Of (code_19582 : Int) : Option (Value) :=
  if ((Int.tmod code_19582 12) == 0) = true then
  some (Value.mk 1 0 [])
  else
  if ((Int.tmod code_19582 12) == 1) = true then
  some (Value.mk 1 1 [])
  else
  if ((Int.tmod code_19582 12) == 2) = true then
  some (Value.mk 1 2 [])
  else
  if ((Int.tmod code_19582 12) == 3) = true then
  some (Value.mk 0 0 [])
  else
  if ((Int.tmod code_19582 12) == 4) = true then
  some (Value.mk 2 0 [97])
  else
  if ((Int.tmod code_19582 12) == 5) = true then
  some (Value.mk 2 0 [98])
  else
  if ((Int.tmod code_19582 12) == 6) = true then
  some (Value.mk 2 0 [])
  else
  if ((Int.tmod code_19582 12) == 7) = true then
  some (Value.mk 3 1 [])
  else
  if ((Int.tmod code_19582 12) == 8) = true then
  some (Value.mk 1 (-1) [])
  else
  if ((Int.tmod code_19582 12) == 9) = true then
  some (Value.mk 2 0 [97, 98])
  else
  if ((Int.tmod code_19582 12) == 10) = true then
  some (Value.mk 3 2 [])
  else
  some (Value.mk 1 7 [])
noncomputable def drossref02_Has (s_19828 : Int) (i_19829 : Int) : Option (Bool) :=
  if i_19829 ≥ 0 then
  if i_19829 < 32 then
  if i_19829 < 0 then none else
  some ((IntKind.u32.wrap ((BitVec.ofInt 32 (Int.fdiv s_19828 (2 ^ (min (i_19829).toNat 32))) &&& (1#32)).toNat : Int)) == 1)
  else
  some false
  else
  some false
noncomputable def slices_IndexFunc_Canonical_l1 (s_20081 : List Canonical) (f_20082 : Canonical → Option (Bool)) : Int → Option (LS (Int) ((Unit) ⊕ (Int))) := fun t8_20092 =>
  if t8_20092 < (s_20081.length : Int) then
  (idx s_20081 t8_20092).bind fun (x_20102 : Canonical) =>
  (f_20082 x_20102).bind fun (r_20104 : Bool) =>
  if r_20104 = true then
  some (.done (.inr t8_20092))
  else
  some (.next (IntKind.i64.wrap (t8_20092 + 1)))
  else
  some (.done (.inl ()))
noncomputable def slices_IndexFunc_Canonical (s_20081 : List Canonical) (f_20082 : Canonical → Option (Bool)) : Option (Int) :=
  (LoopF (slices_IndexFunc_Canonical_l1 s_20081 f_20082) 0).bind (fun o => match o with
  | .inl () =>
  some (-1)
  | .inr r_20109 =>
  some r_20109)
noncomputable def odmine_in (s_54570 : Int) (a_54571 : Int) : Option (Bool) :=
  if a_54571 ≥ 0 then
  if a_54571 < 32 then
  if a_54571 < 0 then none else
  some ((IntKind.u32.wrap ((BitVec.ofInt 32 (Int.fdiv s_54570 (2 ^ (min (a_54571).toNat 32))) &&& (1#32)).toNat : Int)) == 1)
  else
  some false
  else
  some false
noncomputable def odmine_trivial (c_54577 : Canonical) : Option (Bool) :=
  (odmine_in c_54577.Context c_54577.A).bind fun (r_54578 : Bool) =>
  if r_54578 = true then
  some true
  else
  if (c_54577.B != (-1)) = true then
  if (c_54577.A == c_54577.B) = true then
  some true
  else
  (odmine_in c_54577.Context c_54577.B).bind fun (r_54583 : Bool) =>
  some r_54583
  else
  some false
noncomputable def slices_ContainsFunc_Canonical (s_54586 : List Canonical) (f_54587 : Canonical → Option (Bool)) : Option (Bool) :=
  (slices_IndexFunc_Canonical s_54586 f_54587).bind fun (r_54590 : Int) =>
  some (decide (r_54590 ≥ 0))
noncomputable def odmine_Implied_1 (d_54593 : Canonical) (c_54594 : Canonical) : Option (Bool) :=
  if ((IntKind.u32.wrap ((BitVec.ofInt 32 d_54593.Context &&& ~~~ (BitVec.ofInt 32 c_54594.Context)).toNat : Int)) != 0) = true then
  some false
  else
  if (c_54594.B == (-1)) = true then
  if (d_54593.B == (-1)) = true then
  some (d_54593.A == c_54594.A)
  else
  some false
  else
  if (d_54593.B == (-1)) = true then
  if (d_54593.A == c_54594.A) = true then
  some true
  else
  some (d_54593.A == c_54594.B)
  else
  if (d_54593.A == c_54594.A) = true then
  if (d_54593.B == c_54594.B) = true then
  some true
  else
  if (d_54593.A == c_54594.B) = true then
  some (d_54593.B == c_54594.A)
  else
  some false
  else
  if (d_54593.A == c_54594.B) = true then
  some (d_54593.B == c_54594.A)
  else
  some false
noncomputable def odmine_Implied (l_54610 : List Canonical) (c_54611 : Canonical) : Option (Bool) :=
  (odmine_trivial c_54611).bind fun (r_54612 : Bool) =>
  if r_54612 = true then
  some true
  else
  (slices_ContainsFunc_Canonical l_54610 (fun (y_54615 : Canonical) => odmine_Implied_1 y_54615 c_54611)).bind fun (r_54616 : Bool) =>
  some r_54616
noncomputable def slices_Clone_Canonical (l : List Canonical) : Option (List Canonical) := if roomB l.length 24 = true then some l else none
noncomputable def drossref31_Trivial (c_54619 : Canonical) : Option (Bool) :=
  (drossref02_Has c_54619.Context c_54619.A).bind fun (r_54620 : Bool) =>
  if r_54620 = true then
  some true
  else
  if (c_54619.B != (-1)) = true then
  if (c_54619.A == c_54619.B) = true then
  some true
  else
  (drossref02_Has c_54619.Context c_54619.B).bind fun (r_54625 : Bool) =>
  some r_54625
  else
  some false
noncomputable def drossref02_Sub (a_54628 : Int) (b_54629 : Int) : Option (Bool) :=
  some ((IntKind.u32.wrap ((BitVec.ofInt 32 a_54628 &&& (BitVec.ofInt 32 b_54629)).toNat : Int)) == a_54628)
noncomputable def drossref31_Implied_l1 (l_54631 : List Canonical) (c_54632 : Canonical) : Int → Option (LS (Int) ((Unit) ⊕ (Bool))) := fun i_54656 =>
  if i_54656 < (l_54631.length : Int) then
  (idx l_54631 i_54656).bind fun (x_54678 : Canonical) =>
  (drossref02_Sub x_54678.Context c_54632.Context).bind fun (r_54680 : Bool) =>
  if r_54680 = true then
  if (x_54678.B == (-1)) = true then
  if (x_54678.A == c_54632.A) = true then
  some (.done (.inr true))
  else
  if (c_54632.B != (-1)) = true then
  if (x_54678.A == c_54632.B) = true then
  some (.done (.inr true))
  else
  if (x_54678.B != (-1)) = true then
  some (.next (IntKind.i64.wrap (i_54656 + 1)))
  else
  some (.next (IntKind.i64.wrap (i_54656 + 1)))
  else
  if (x_54678.B != (-1)) = true then
  some (.next (IntKind.i64.wrap (i_54656 + 1)))
  else
  some (.next (IntKind.i64.wrap (i_54656 + 1)))
  else
  if (x_54678.B != (-1)) = true then
  if (c_54632.B != (-1)) = true then
  if (x_54678.A == c_54632.A) = true then
  if (x_54678.B == c_54632.B) = true then
  some (.done (.inr true))
  else
  if (x_54678.A == c_54632.B) = true then
  if (x_54678.B == c_54632.A) = true then
  some (.done (.inr true))
  else
  some (.next (IntKind.i64.wrap (i_54656 + 1)))
  else
  some (.next (IntKind.i64.wrap (i_54656 + 1)))
  else
  if (x_54678.A == c_54632.B) = true then
  if (x_54678.B == c_54632.A) = true then
  some (.done (.inr true))
  else
  some (.next (IntKind.i64.wrap (i_54656 + 1)))
  else
  some (.next (IntKind.i64.wrap (i_54656 + 1)))
  else
  some (.next (IntKind.i64.wrap (i_54656 + 1)))
  else
  some (.next (IntKind.i64.wrap (i_54656 + 1)))
  else
  some (.next (IntKind.i64.wrap (i_54656 + 1)))
  else
  some (.done (.inl ()))
noncomputable def drossref31_Implied (l_54631 : List Canonical) (c_54632 : Canonical) : Option (Bool) :=
  (drossref31_Trivial c_54632).bind fun (r_54633 : Bool) =>
  if r_54633 = true then
  some true
  else
  (LoopF (drossref31_Implied_l1 l_54631 c_54632) 0).bind (fun o => match o with
  | .inl () =>
  some false
  | .inr r_54699 =>
  some r_54699)
noncomputable def drosslaw31_OdmineImplied (l_54703 : List Canonical) (c_54704 : Canonical) : Option (Bool) :=
  (show Option (Bool) from
  (drosslaw31_awake ).bind fun (r_54711 : Bool) =>
  if r_54711 = true then
  some (decide ((l_54703.length : Int) > 12))
  else
  some true).bind (fun t11_54708 =>
  if t11_54708 = true then
  (drosslaw31_awake ).bind fun (r_54715 : Bool) =>
  some r_54715
  else
  (slices_Clone_Canonical l_54703).bind fun (r_54717 : List Canonical) =>
  (odmine_Implied r_54717 c_54704).bind fun (r_54719 : Bool) =>
  (drossref31_Implied l_54703 c_54704).bind fun (r_54721 : Bool) =>
  some (r_54719 == r_54721))
end Go.Proofs.Ythgnkhchpjcboaa
/- Loops over lists, in plain Lean. -/
set_option linter.unusedVariables false
set_option linter.unusedSimpArgs false
namespace Go.Ab
open Go

/-- a loop over a list: f says how to go on or how it ends -/
def foldR {α β τ : Type} (f : β → α → β ⊕ τ) (fin : β → τ) : List α → β → τ
  | [], b => fin b
  | x :: r, b => match f b x with
    | .inl b' => foldR f fin r b'
    | .inr t => t

theorem LoopF_foldR {α β σ τ : Type} (l : List α) (S : β → Int → σ) (B : σ → Option (LS σ τ)) (f : β → α → β ⊕ τ) (fin : β → τ) (I : Nat → β → Prop)
    (hs : ∀ (k : Nat) b x, l[k]? = some x → I k b → (∀ b', f b x = .inl b' → B (S b k) = some (.next (S b' (k + 1 : Nat))) ∧ I (k + 1) b') ∧ (∀ t, f b x = .inr t → B (S b k) = some (.done t)))
    (he : ∀ b, I l.length b → B (S b l.length) = some (.done (fin b))) :
    ∀ (r : List α) (k : Nat) (b : β), l.drop k = r → k ≤ l.length → I k b → LoopF B (S b k) = some (foldR f fin r b) := by
  intro r
  induction r with
  | nil =>
    intro k b hd hk hI
    have : k = l.length := by
      have := congrArg List.length hd
      simp at this; omega
    subst this
    exact Loop_done (he b hI)
  | cons x r ih =>
    intro k b hd hk hI
    have hx : l[k]? = some x := by
      have := congrArg (·[0]?) hd
      simpa [List.getElem?_drop] using this
    have hlt : k < l.length := (List.getElem?_eq_some_iff.1 hx).1
    have hd' : l.drop (k + 1) = r := by
      rw [← List.drop_drop, hd]; rfl
    obtain ⟨h1, h2⟩ := hs k b x hx hI
    cases hf : f b x with
    | inl b' =>
      obtain ⟨h3, h4⟩ := h1 b' hf
      rw [Loop_next h3, ih (k + 1) b' hd' hlt h4]
      simp [foldR, hf]
    | inr t =>
      rw [Loop_done (h2 t hf)]
      simp [foldR, hf]

theorem LoopF_list {α β σ τ : Type} (l : List α) (S : β → Int → σ) (B : σ → Option (LS σ τ)) (f : β → α → β ⊕ τ) (fin : β → τ) (I : Nat → β → Prop) {b0 : β} {s0 : σ} (h0 : s0 = S b0 0) (hI : I 0 b0)
    (hs : ∀ (k : Nat) b x, l[k]? = some x → k < l.length → I k b → (∀ b', f b x = .inl b' → B (S b k) = some (.next (S b' (k + 1 : Nat))) ∧ I (k + 1) b') ∧ (∀ t, f b x = .inr t → B (S b k) = some (.done t)))
    (he : ∀ b, I l.length b → B (S b l.length) = some (.done (fin b))) : LoopF B s0 = some (foldR f fin l b0) := by
  subst h0
  exact LoopF_foldR l S B f fin I (fun k b x hx => hs k b x hx (lt_of_get hx)) he l 0 b0 rfl (Nat.zero_le _) hI

theorem wrap_succ {k n : Nat} (h : k < n) (hn : n ≤ 4611686018427387904) : IntKind.i64.wrap ((k : Int) + 1) = ((k + 1 : Nat) : Int) := by
  rw [wrap_i64 (by omega) (by omega)]; omega
theorem wrap_nat {k : Nat} (h : k < 4611686018427387904) : IntKind.i64.wrap ((k : Int) + 1) = ((k + 1 : Nat) : Int) := by
  rw [wrap_i64 (by omega) (by omega)]; omega
theorem room_le {n b : Nat} (h : n ≤ 1073741824) (hb : b ≤ 65536) : roomB n b = true := by
  unfold roomB
  have : n * b ≤ 1073741824 * 65536 := Nat.mul_le_mul h hb
  simp only [decide_eq_true_eq]
  omega
theorem idx_get {α : Type} {l : List α} {k : Nat} {x : α} (h : l[k]? = some x) : idx l (k : Int) = some x := by rw [idx_nat, h]
theorem lt_true {α : Type} {l : List α} {k : Nat} {x : α} (h : l[k]? = some x) : ((k : Int) < (l.length : Int)) := by have := lt_of_get h; omega

/-! ### kinds of loops -/
theorem foldl_of' {α β τ : Type} (g : β → α → β) (fin : β → τ) : ∀ (l : List α) (b : β), foldR (fun b x => (Sum.inl (g b x) : β ⊕ τ)) fin l b = fin (l.foldl g b)
  | [], _ => rfl
  | x :: r, b => by simp only [foldR, List.foldl_cons]; exact foldl_of' g fin r _
end Go.Ab
namespace Go.Ab
open Go
theorem LoopF_all {α ρ : Type} (l : List α) (B : Int → Option (LS Int (Unit ⊕ ρ))) (p : α → Bool) (bad : ρ)
    (h1 : ∀ (k : Nat) x, l[k]? = some x → k < l.length → p x = true → B k = some (.next (k + 1 : Nat))) (h2 : ∀ (k : Nat) x, l[k]? = some x → p x = false → B k = some (.done (.inr bad))) (h3 : B l.length = some (.done (.inl ()))) :
    LoopF B 0 = some (if l.all p then .inl () else .inr bad) := by
  have h := LoopF_list l (fun (_ : Unit) i => i) B (fun (_ : Unit) x => if p x then Sum.inl () else Sum.inr (Sum.inr bad)) (fun _ => Sum.inl ()) (fun _ _ => True) (b0 := ()) (s0 := 0) rfl trivial
    (fun k b x hx hk _ => by
      constructor
      · intro b' hf
        refine ⟨?_, trivial⟩
        rcases Bool.eq_false_or_eq_true (p x) with hp | hp
        · exact h1 k x hx hk hp
        · simp [hp] at hf
      · intro t hf
        rcases Bool.eq_false_or_eq_true (p x) with hp | hp
        · simp [hp] at hf
        · simp [hp] at hf; subst hf; exact h2 k x hx hp)
    (fun b _ => h3)
  rw [h]
  congr 1
  clear h h1 h2 h3
  induction l with
  | nil => rfl
  | cons x r ih => rcases Bool.eq_false_or_eq_true (p x) with hp | hp <;> simp [foldR, hp, ih]
theorem LoopF_find {α : Type} (l : List α) (B : Int → Option (LS Int (Unit ⊕ Int))) (p : α → Bool)
    (h1 : ∀ (k : Nat) x, l[k]? = some x → k < l.length → p x = false → B k = some (.next (k + 1 : Nat))) (h2 : ∀ (k : Nat) x, l[k]? = some x → p x = true → B k = some (.done (.inr k))) (h3 : B l.length = some (.done (.inl ()))) :
    LoopF B 0 = some (match l.findIdx? p with | some i => .inr (i : Int) | none => .inl ()) := by
  have key : ∀ (r : List α) (k : Nat), l.drop k = r → k ≤ l.length → LoopF B (k : Int) = some (match r.findIdx? p with | some i => .inr ((k + i : Nat) : Int) | none => .inl ()) := by
    intro r
    induction r with
    | nil =>
      intro k hd hk
      have : k = l.length := by
        have := congrArg List.length hd
        simp at this; omega
      subst this
      exact Loop_done h3
    | cons x r ih =>
      intro k hd hk
      have hx : l[k]? = some x := by
        have := congrArg (·[0]?) hd
        simpa [List.getElem?_drop] using this
      have hd' : l.drop (k + 1) = r := by rw [← List.drop_drop, hd]; rfl
      rcases Bool.eq_false_or_eq_true (p x) with hp | hp
      · rw [Loop_done (h2 k x hx hp)]
        simp [List.findIdx?_cons, hp]
      · rw [Loop_next (h1 k x hx (lt_of_get hx) hp), ih (k + 1) hd' (lt_of_get hx)]
        simp only [List.findIdx?_cons, hp]
        cases r.findIdx? p with
        | none => rfl
        | some i => simp; omega
  have := key l 0 (by simp) (Nat.zero_le _)
  simpa using this
/-- a loop that goes to the end of a list -/
theorem LoopF_foldl {α β σ τ : Type} (l : List α) (S : β → Int → σ) (B : σ → Option (LS σ τ)) (g : β → α → β) (fin : β → τ) (I : Nat → β → Prop) {b0 : β} {s0 : σ} (h0 : s0 = S b0 0) (hI : I 0 b0)
    (hs : ∀ (k : Nat) b x, l[k]? = some x → k < l.length → I k b → B (S b k) = some (.next (S (g b x) (k + 1 : Nat))) ∧ I (k + 1) (g b x))
    (he : ∀ b, I l.length b → B (S b l.length) = some (.done (fin b))) : LoopF B s0 = some (fin (l.foldl g b0)) := by
  rw [LoopF_list l S B (fun b x => Sum.inl (g b x)) fin I h0 hI (fun k b x hx hk hi => ⟨fun b' hb => by cases hb; exact hs k b x hx hk hi, fun t ht => by cases ht⟩) he, foldl_of']
end Go.Ab
namespace Go.Ab
open Go
/-! ### what is known of the arguments -/
def okI (k : IntKind) (n : Int) : Prop := (Lit.int k n).wf = true
def okS (s : List UInt8) : Prop := s.length ≤ 1048576
def okL {α : Type} (ok : α → Prop) (l : List α) : Prop := l.length ≤ 1048576 ∧ ∀ x ∈ l, ok x
end Go.Ab
namespace Go.Ab
open Go
/-- all elements, with their places -/
def allFrom {α : Type} (p : Nat → α → Bool) : Nat → List α → Bool
  | _, [] => true
  | k, x :: r => p k x && allFrom p (k + 1) r
theorem LoopF_allk {α ρ : Type} (l : List α) (B : Int → Option (LS Int (Unit ⊕ ρ))) (p : Nat → α → Bool) (bad : ρ)
    (h1 : ∀ (k : Nat) x, l[k]? = some x → k < l.length → p k x = true → B k = some (.next (k + 1 : Nat))) (h2 : ∀ (k : Nat) x, l[k]? = some x → p k x = false → B k = some (.done (.inr bad))) (h3 : B l.length = some (.done (.inl ()))) :
    ∀ (r : List α) (k : Nat), l.drop k = r → k ≤ l.length → LoopF B (k : Int) = some (if allFrom p k r then .inl () else .inr bad) := by
  intro r
  induction r with
  | nil =>
    intro k hd hk
    have : k = l.length := by
      have := congrArg List.length hd
      simp at this; omega
    subst this
    exact Loop_done h3
  | cons x r ih =>
    intro k hd hk
    have hx : l[k]? = some x := by
      have := congrArg (·[0]?) hd
      simpa [List.getElem?_drop] using this
    have hd' : l.drop (k + 1) = r := by rw [← List.drop_drop, hd]; rfl
    rcases Bool.eq_false_or_eq_true (p k x) with hp | hp
    · rw [Loop_next (h1 k x hx (lt_of_get hx) hp), ih (k + 1) hd' (lt_of_get hx)]
      simp [allFrom, hp]
    · rw [Loop_done (h2 k x hx hp)]
      simp [allFrom, hp]
theorem allFrom_all {α : Type} (q : α → Bool) : ∀ (l : List α) (k : Nat), allFrom (fun _ x => q x) k l = l.all q
  | [], _ => rfl
  | x :: r, k => by simp [allFrom, allFrom_all q r]
theorem allFrom_congr {α : Type} {p q : Nat → α → Bool} : ∀ (l : List α) (k : Nat), (∀ j x, k ≤ j → x ∈ l → p j x = q j x) → allFrom p k l = allFrom q k l
  | [], _, _ => rfl
  | x :: r, k, h => by
    simp only [allFrom]
    rw [h k x (Nat.le_refl _) (by simp), allFrom_congr r (k + 1) (fun j y hj hy => h j y (by omega) (by simp [hy]))]
end Go.Ab
set_option linter.unusedVariables false
namespace Go.Proofs.Ythgnkhchpjcboaa
open Go Go.Ab
def okValue (x : Value) : Prop := (okI .i64) x.Kind ∧ (okI .i64) x.Num ∧ okS x.Str
def okRow (x : Row) : Prop := (okI .i64) x.ID ∧ (okL okValue) x.Values
def okTable (x : Table) : Prop := okS x.Name ∧ (okL okS) x.Attrs ∧ (okL okRow) x.Rows
def okCanonical (x : Canonical) : Prop := (okI .u32) x.Context ∧ (okI .i64) x.A ∧ (okI .i64) x.B
def okDrossref03_Recipe (x : Drossref03_Recipe) : Prop := (okI .u8) x.Attrs ∧ (okI .u8) x.Gap ∧ (okL (okL (okI .u8))) x.Rows
end Go.Proofs.Ythgnkhchpjcboaa
/- Sets of attributes: numbers of 32 bits. -/
set_option linter.unusedVariables false
set_option linter.unusedSimpArgs false
namespace Go.Ab
open Go
/-- the four operations -/
theorem w32_and {a b : Nat} (ha : a < 4294967296) (hb : b < 4294967296) : IntKind.u32.wrap ((BitVec.ofInt 32 (a : Int) &&& BitVec.ofInt 32 (b : Int)).toNat : Int) = ((a &&& b : Nat) : Int) := by
  rw [bv_lt, BitVec.toNat_and, bv_nat ha, bv_nat hb]
/-- a without b -/
def ndiff (a b : Nat) : Nat := a ^^^ (a &&& b)
theorem ndiff_bit (a b i : Nat) : (ndiff a b).testBit i = (a.testBit i && !b.testBit i) := by
  unfold ndiff
  rw [Nat.testBit_xor, Nat.testBit_and]
  cases a.testBit i <;> cases b.testBit i <;> rfl
theorem w32_diff {a b : Nat} (ha : a < 4294967296) (hb : b < 4294967296) : IntKind.u32.wrap ((BitVec.ofInt 32 (a : Int) &&& ~~~ BitVec.ofInt 32 (b : Int)).toNat : Int) = ((ndiff a b : Nat) : Int) := by
  rw [bv_lt]
  congr 1
  apply Nat.eq_of_testBit_eq
  intro i
  rw [ndiff_bit]
  rw [BitVec.testBit_toNat, BitVec.getLsbD_and, BitVec.getLsbD_not, ← BitVec.testBit_toNat, ← BitVec.testBit_toNat, bv_nat ha, bv_nat hb]
  by_cases hi : i < 32
  · simp [hi]
  · have : a.testBit i = false := Nat.testBit_lt_two_pow (Nat.lt_of_lt_of_le ha (by
      have : 2 ^ 32 ≤ 2 ^ i := Nat.pow_le_pow_right (by omega) (by omega)
      exact this))
    simp [this]
theorem w32_and1 {a : Nat} (ha : a < 4294967296) : IntKind.u32.wrap ((BitVec.ofInt 32 (a : Int) &&& (1#32)).toNat : Int) = ((a % 2 : Nat) : Int) := by
  rw [bv_lt, BitVec.toNat_and, bv_nat ha]
  congr 1
  have : (1#32).toNat = 1 := rfl
  rw [this, Nat.and_one_is_mod]
theorem pow_lt {i : Nat} (h : i < 32) : 2 ^ i < 4294967296 := Nat.pow_lt_pow_right (by omega) h
theorem w32_shl1 {i : Nat} (h : i < 32) : IntKind.u32.wrap (1 * 2 ^ (min i 32)) = ((2 ^ i : Nat) : Int) := by
  rw [Nat.min_eq_left (by omega), Int.one_mul]
  have : ((2 : Int) ^ i) = ((2 ^ i : Nat) : Int) := by simp
  rw [this]
  have h2 := pow_lt h
  generalize 2 ^ i = p at h2 ⊢
  exact wrap_u32 (by omega) (by omega)
theorem bit_div (a i : Nat) : (((a / 2 ^ i % 2 : Nat) : Int) == 1) = a.testBit i := by
  rw [Nat.testBit_eq_decide_div_mod_eq, Bool.eq_iff_iff]
  simp only [beq_iff_eq, decide_eq_true_eq]
  omega
/-- is i in s -/
theorem w32_bit {a : Nat} (ha : a < 4294967296) {i : Nat} (hi : i ≤ 32) : ((IntKind.u32.wrap ((BitVec.ofInt 32 (Int.fdiv (a : Int) (2 ^ (min i 32))) &&& (1#32)).toNat : Int)) == 1) = a.testBit i := by
  rw [Nat.min_eq_left hi, fdiv_pow, w32_and1 (Nat.lt_of_le_of_lt (Nat.div_le_self _ _) ha), bit_div]
theorem bit_lt {a n i : Nat} (h : a < 2 ^ n) (hi : n ≤ i) : a.testBit i = false := Nat.testBit_lt_two_pow (Nat.lt_of_lt_of_le h (Nat.pow_le_pow_right (by omega) hi))
end Go.Ab
/- The values of the program and of the reference: valid ones, their order. -/
set_option linter.unusedVariables false
set_option linter.unusedSimpArgs false
namespace Go.Proofs.Ythgnkhchpjcboaa
open Go Go.Ab

def valid (v : Value) : Bool := decide ((v.Kind = 0 ∧ v.Num = 0 ∧ v.Str = []) ∨ (v.Kind = 1 ∧ v.Str = []) ∨ (v.Kind = 2 ∧ v.Num = 0 ∧ v.Str.length ≤ 200) ∨ (v.Kind = 3 ∧ 1 ≤ v.Num ∧ v.Str = []))
theorem value_Valid_eq (v : Value) : value_Valid v = some (valid v) := by
  simp only [value_Valid, valid]
  repeat' split
  all_goals simp_all
  all_goals (try omega)
  all_goals (try (rw [Bool.eq_iff_iff]; simp <;> omega))
def sgn (a b : Int) : Int := if a < b then -1 else if b < a then 1 else 0
theorem cmp_int_eq (a b : Int) : cmp_Compare_int a b = some (sgn a b) := by
  simp only [cmp_Compare_int, cmp_isNaN_int, sgn]
  simp
  split <;> (try split) <;> simp_all
theorem cmp_int64_eq (a b : Int) : cmp_Compare_int64 a b = some (sgn a b) := by
  simp only [cmp_Compare_int64, cmp_isNaN_int64, sgn]
  simp
  split <;> (try split) <;> simp_all

def strc : List UInt8 → List UInt8 → Int
  | [], [] => 0
  | [], _ :: _ => -1
  | _ :: _, [] => 1
  | a :: x, b :: y => if a = b then strc x y else sgn a.toNat b.toNat
theorem compareBytes_eq : ∀ a b : List UInt8, Lib.compareBytes a b = strc a b
  | [], [] => rfl
  | [], _ :: _ => rfl
  | _ :: _, [] => rfl
  | x :: a, y :: b => by
    simp only [Lib.compareBytes, strc, sgn, compareBytes_eq a b, UInt8.lt_iff_toNat_lt, ← UInt8.toNat_inj]
    split <;> split <;> (try split) <;> (try split) <;> omega
theorem strings_Compare_eq (a b : List UInt8) : strings_Compare a b = some (strc a b) := by
  simp [strings_Compare, bytealg_CompareString, compareBytes_eq]
def vcmp (a b : Value) : Int := if sgn a.Kind b.Kind ≠ 0 then sgn a.Kind b.Kind else if sgn a.Num b.Num ≠ 0 then sgn a.Num b.Num else strc a.Str b.Str
theorem Or3_eq (a b c : Int) : cmp_Or_int [a, b, c] = some (if a ≠ 0 then a else if b ≠ 0 then b else c) := by
  simp only [cmp_Or_int]
  have w0 : IntKind.i64.wrap 1 = 1 := by decide
  have w1 : IntKind.i64.wrap 2 = 2 := by decide
  have w2 : IntKind.i64.wrap 3 = 3 := by decide
  by_cases h1 : a = 0
  · by_cases h2 : b = 0
    · by_cases h3 : c = 0
      · rw [Loop_next (s' := 1) (by simp [cmp_Or_int_l1, idx, h1, w0]), Loop_next (s' := 2) (by simp [cmp_Or_int_l1, idx, h2, w1]), Loop_next (s' := 3) (by simp [cmp_Or_int_l1, idx, h3, w2]), Loop_done (t := .inl ()) (by simp [cmp_Or_int_l1])]
        simp [h1, h2, h3]
      · rw [Loop_next (s' := 1) (by simp [cmp_Or_int_l1, idx, h1, w0]), Loop_next (s' := 2) (by simp [cmp_Or_int_l1, idx, h2, w1]), Loop_done (t := .inr c) (by simp [cmp_Or_int_l1, idx, h3])]
        simp [h1, h2]
    · rw [Loop_next (s' := 1) (by simp [cmp_Or_int_l1, idx, h1, w0]), Loop_done (t := .inr b) (by simp [cmp_Or_int_l1, idx, h2])]
      simp [h1, h2]
  · rw [Loop_done (t := .inr a) (by simp [cmp_Or_int_l1, idx, h1])]
    simp [h1]
theorem value_Compare_eq (a b : Value) : value_Compare a b = some (vcmp a b) := by
  simp only [value_Compare, cmp_int_eq, cmp_int64_eq, strings_Compare_eq, Option.bind_some, Or3_eq, vcmp]

def veq (a b : Value) : Bool := (a.Kind == b.Kind) && ((a.Num == b.Num) && (a.Str == b.Str))
end Go.Proofs.Ythgnkhchpjcboaa
/- Sets in order: all subsets of the first attributes. -/
set_option linter.unusedVariables false
set_option linter.unusedSimpArgs false
namespace Go.Proofs.Ythgnkhchpjcboaa
open Go Go.Ab

theorem sgn_ltN (a b : Int) : sgn a b < 0 ↔ a < b := by unfold sgn; split <;> (try split) <;> omega
theorem sgn_zero' (a b : Int) : sgn a b = 0 ↔ a = b := by unfold sgn; split <;> (try split) <;> omega
theorem cmp_Set_eq (a b : Int) : cmp_Compare_Set a b = some (sgn a b) := by
  simp only [cmp_Compare_Set, cmp_isNaN_Set, sgn]
  simp
  split <;> (try split) <;> simp_all
theorem Or2_eq (a b : Int) : cmp_Or_int [a, b] = some (if a ≠ 0 then a else b) := by
  simp only [cmp_Or_int]
  have w0 : IntKind.i64.wrap 1 = 1 := by decide
  have w1 : IntKind.i64.wrap 2 = 2 := by decide
  have s2 : cmp_Or_int_l1 [a, b] 2 = some (.done (.inl ())) := by simp [cmp_Or_int_l1]
  by_cases ha : a = 0
  · have s0 : cmp_Or_int_l1 [a, b] 0 = some (.next 1) := by simp [cmp_Or_int_l1, idx, ha, w0]
    rw [Loop_next s0]
    by_cases hb : b = 0
    · have s1 : cmp_Or_int_l1 [a, b] 1 = some (.next 2) := by simp [cmp_Or_int_l1, idx, hb, w1]
      rw [Loop_next s1, Loop_done s2]; simp [ha, hb]
    · have s1 : cmp_Or_int_l1 [a, b] 1 = some (.done (.inr b)) := by simp [cmp_Or_int_l1, idx, hb]
      rw [Loop_done s1]; simp [ha]
  · have s0 : cmp_Or_int_l1 [a, b] 0 = some (.done (.inr a)) := by simp [cmp_Or_int_l1, idx, ha]
    rw [Loop_done s0]; simp [ha]
theorem Size02_eq {n : Nat} (h : n < 4294967296) : attrset_Size (n : Int) = some ((ones32 n : Nat) : Int) := by
  simp only [attrset_Size, bits_OnesCount32, Int.toNat_natCast]
  rw [if_pos (by omega)]; rfl
/-- the order of sets -/
def cmpN (a b : Int) : Int := if sgn (ones32 a.toNat : Nat) (ones32 b.toNat : Nat) ≠ 0 then sgn (ones32 a.toNat : Nat) (ones32 b.toNat : Nat) else sgn a b
def lexN (x y : Nat) : Prop := ones32 x < ones32 y ∨ (ones32 x = ones32 y ∧ x < y)
instance (x y : Nat) : Decidable (lexN x y) := by unfold lexN; exact inferInstance
theorem cmpN_lt (a b : Nat) : cmpN (a : Int) (b : Int) < 0 ↔ lexN a b := by
  unfold cmpN lexN
  rw [Int.toNat_natCast, Int.toNat_natCast]
  have h1 := sgn_ltN (ones32 a : Nat) (ones32 b : Nat)
  have h2 := sgn_zero' (ones32 a : Nat) (ones32 b : Nat)
  have h3 := sgn_ltN (a : Int) (b : Int)
  split <;> omega
theorem compare02_eq {a b : Nat} (ha : a < 4294967296) (hb : b < 4294967296) : attrset_compare (a : Int) (b : Int) = some (cmpN a b) := by
  simp only [attrset_compare, Size02_eq ha, Size02_eq hb, Option.bind_some, cmp_int_eq, cmp_Set_eq, Or2_eq, cmpN, Int.toNat_natCast]
/-- all subsets of the first n attributes, in order -/
def ordL (n : Nat) : List Nat := (List.range (n + 1)).flatMap fun k => (List.range (2 ^ n)).filter fun x => ones32 x == k
theorem ordL_ok : ∀ n ∈ List.range 7, (ordL n).Pairwise lexN ∧ (ordL n).isPerm (List.range (2 ^ n)) = true := by decide +kernel
theorem ordL_sorted {n : Nat} (h : n ≤ 6) : (ordL n).Pairwise lexN := (ordL_ok n (by rw [List.mem_range]; omega)).1
theorem ordL_perm {n : Nat} (h : n ≤ 6) : (ordL n).Perm (List.range (2 ^ n)) := List.isPerm_iff.1 (ordL_ok n (by rw [List.mem_range]; omega)).2
theorem ordL_mem {n : Nat} (h : n ≤ 6) (x : Nat) : x ∈ ordL n ↔ x < 2 ^ n := by rw [(ordL_perm h).mem_iff, List.mem_range]
def ordI (n : Nat) : List Int := (ordL n).map fun (k : Nat) => (k : Int)
theorem srtF_ord {n : Nat} (h : n ≤ 6) (l : List Int) (hp : l.Perm (ordI n)) : srtF (fun (x : Int) (y : Int) => attrset_compare x y) l = some (ordI n) := by
  have h64 : 2 ^ n ≤ 64 := by
    have : 2 ^ n ≤ 2 ^ 6 := Nat.pow_le_pow_right (by omega) h
    omega
  have hnat : ∀ x ∈ l, ∃ k : Nat, x = (k : Int) ∧ k < 64 := fun x hx => by
    have := hp.mem_iff.1 hx
    unfold ordI at this
    obtain ⟨k, hk, rfl⟩ := List.mem_map.1 this
    have := (ordL_mem h k).1 hk
    exact ⟨k, rfl, by omega⟩
  have hc : ∀ x ∈ l, ∀ y ∈ l, attrset_compare x y = some (cmpN x y) := fun x hx y hy => by
    obtain ⟨a, rfl, ha⟩ := hnat x hx
    obtain ⟨b, rfl, hb⟩ := hnat y hy
    exact compare02_eq (by omega) (by omega)
  have hlen : l.length < 4611686018427387904 := by
    rw [hp.length_eq]; unfold ordI; rw [List.length_map, (ordL_perm h).length_eq, List.length_range]; omega
  have hok : SrtOk (fun x y => (attrset_compare x y).getD 0) l := by
    refine ⟨fun x hx => ?_, fun x hx y hy z hz => ?_, fun x hx y hy z hz => ?_⟩
    · show ¬ (attrset_compare x x).getD 0 < 0
      rw [hc x hx x hx]
      obtain ⟨a, rfl, ha⟩ := hnat x hx
      rw [Option.getD_some, cmpN_lt]; unfold lexN; omega
    · show (attrset_compare x y).getD 0 < 0 → (attrset_compare y z).getD 0 < 0 → (attrset_compare x z).getD 0 < 0
      rw [hc x hx y hy, hc y hy z hz, hc x hx z hz]
      obtain ⟨a, rfl, ha⟩ := hnat x hx
      obtain ⟨b, rfl, hb⟩ := hnat y hy
      obtain ⟨c, rfl, hcc⟩ := hnat z hz
      rw [Option.getD_some, Option.getD_some, Option.getD_some, cmpN_lt, cmpN_lt, cmpN_lt]; unfold lexN; omega
    · show ¬ (attrset_compare x y).getD 0 < 0 → ¬ (attrset_compare y z).getD 0 < 0 → ¬ (attrset_compare x z).getD 0 < 0
      rw [hc x hx y hy, hc y hy z hz, hc x hx z hz]
      obtain ⟨a, rfl, ha⟩ := hnat x hx
      obtain ⟨b, rfl, hb⟩ := hnat y hy
      obtain ⟨c, rfl, hcc⟩ := hnat z hz
      rw [Option.getD_some, Option.getD_some, Option.getD_some, cmpN_lt, cmpN_lt, cmpN_lt]; unfold lexN; omega
  unfold srtF
  rw [if_pos ⟨fun x hx y hy => by show (attrset_compare x y).isSome = true; rw [hc x hx y hy]; rfl, hok, hlen⟩]
  congr 1
  refine ((srt_perm hok).trans hp).eq_of_pairwise ?_ (srt_sorted hok) ?_
  · intro x y hx hy h1 h2
    have hx' := (srt_perm hok).mem_iff.1 hx
    have hy' := hp.mem_iff.2 hy
    change ¬ (attrset_compare x y).getD 0 < 0 at h2
    change ¬ (attrset_compare y x).getD 0 < 0 at h1
    rw [hc x hx' y hy'] at h2
    rw [hc y hy' x hx'] at h1
    obtain ⟨a, rfl, ha⟩ := hnat x hx'
    obtain ⟨b, rfl, hb⟩ := hnat y hy'
    rw [Option.getD_some, cmpN_lt] at h1 h2
    unfold lexN at h1 h2
    omega
  · unfold ordI
    rw [List.pairwise_map]
    refine (ordL_sorted h).imp_of_mem ?_
    intro a b ha hb hl
    have hla := (ordL_mem h a).1 ha
    have hlb := (ordL_mem h b).1 hb
    show ¬ (attrset_compare (b : Int) (a : Int)).getD 0 < 0
    rw [compare02_eq (by omega) (by omega), Option.getD_some, cmpN_lt]
    unfold lexN at hl ⊢
    omega
theorem distinct_loop (l : List Int) (hn : l.Nodup) (hl : l.length ≤ 1000) : ∀ (r k : Nat), k + r = l.length → 1 ≤ k → LoopF (attrset_Order_l4 l) (k : Int) = some ()
  | 0, k, hk, h1 => Loop_done (by simp only [attrset_Order_l4]; rw [if_neg (by omega)])
  | r + 1, k, hk, h1 => by
    have hk' : k < l.length := by omega
    have hk1 : k - 1 < l.length := by omega
    have g1 : l[k]? = some l[k] := List.getElem?_eq_getElem hk'
    have g0 : l[k - 1]? = some l[k - 1] := List.getElem?_eq_getElem hk1
    have hne : ¬ (l[k] == l[k - 1]) = true := by
      rw [beq_iff_eq]
      exact fun e => List.pairwise_iff_getElem.1 hn (k - 1) k hk1 hk' (by omega) e.symm
    have hstep : attrset_Order_l4 l (k : Int) = some (.next ((k + 1 : Nat) : Int)) := by
      simp only [attrset_Order_l4]
      rw [if_pos (by omega), idx_get g1, show IntKind.i64.wrap ((k : Int) - 1) = ((k - 1 : Nat) : Int) by rw [wrap_i64 (by omega) (by omega)]; omega]
      simp only [Option.bind_some, idx_get g0, if_neg hne, wrap_nat (show k < 4611686018427387904 by omega)]
    rw [Loop_next hstep]
    exact distinct_loop l hn hl r (k + 1) (by omega) (by omega)
theorem ordI_nodup {n : Nat} (h : n ≤ 6) : (ordI n).Nodup := by
  unfold ordI List.Nodup
  rw [List.pairwise_map]
  refine (ordL_sorted h).imp fun {a b} hl e => ?_
  have : a = b := by omega
  subst this
  unfold lexN at hl; omega
theorem ordI_len {n : Nat} (h : n ≤ 6) : (ordI n).length = 2 ^ n := by unfold ordI; rw [List.length_map, (ordL_perm h).length_eq, List.length_range]
theorem pow6 {n : Nat} (h : n ≤ 6) : 2 ^ n ≤ 64 := Nat.le_trans (Nat.pow_le_pow_right (by omega) h) (by decide)
theorem Order_ord {n : Nat} (h : n ≤ 6) (l : List Int) (hp : l.Perm (ordI n)) : attrset_Order l = some (ordI n) := by
  have hl := ordI_len h
  have h64 := pow6 h
  have hll : l.length = 2 ^ n := by rw [hp.length_eq, hl]
  simp only [attrset_Order, srtF_ord h l hp, Option.bind_some]
  rw [if_pos (room_le (by omega) (by omega))]
  by_cases h2 : (((ordI n).length : Nat) : Int) < 2
  · rw [if_pos h2]
  · rw [if_neg h2]
    have hd := distinct_loop (ordI n) (ordI_nodup h) (by omega) ((ordI n).length - 1) 1 (by omega) (Nat.le_refl _)
    have e : ((1 : Nat) : Int) = 1 := rfl
    rw [e] at hd
    rw [hd]; rfl
theorem sub_loop {n : Nat} (h : n ≤ 6) : ∀ (x : Nat) (out : List Int), x ≤ 2 ^ n - 1 → out.length + x ≤ 1000 → LoopF (attrset_Subsets_l1 ((2 ^ n - 1 : Nat) : Int)) (out, (x : Int)) = some (out ++ (List.range x).reverse.map fun (k : Nat) => (k : Int))
  | 0, out, _, _ => by
    rw [Loop_done (show attrset_Subsets_l1 ((2 ^ n - 1 : Nat) : Int) (out, ((0 : Nat) : Int)) = some (.done out) by simp [attrset_Subsets_l1])]
    simp
  | x + 1, out, hx, ho => by
    have h64 := pow6 h
    have e0 : IntKind.u32.wrap (((x + 1 : Nat) : Int) - 1) = ((x : Nat) : Int) := by rw [wrap_u32 (by omega) (by omega)]; omega
    have e1 : x &&& (2 ^ n - 1) = x := by rw [Nat.and_two_pow_sub_one_eq_mod, Nat.mod_eq_of_lt (by omega)]
    have hstep : attrset_Subsets_l1 ((2 ^ n - 1 : Nat) : Int) (out, ((x + 1 : Nat) : Int)) = some (.next (out ++ [(x : Int)], (x : Int))) := by
      simp only [attrset_Subsets_l1]
      rw [e0, w32_and (show x < 4294967296 by omega) (show 2 ^ n - 1 < 4294967296 by omega), e1, if_pos (by simp; omega), if_pos (room_le (by omega) (by omega))]
    rw [Loop_next hstep, sub_loop h x (out ++ [(x : Int)]) (by omega) (by rw [List.length_append]; simp; omega), List.range_succ]
    simp
theorem Subsets_full {n : Nat} (h : n ≤ 6) : attrset_Subsets ((2 ^ n - 1 : Nat) : Int) = some (ordI n) := by
  have h64 := pow6 h
  have hpos : 0 < 2 ^ n := Nat.pow_pos (by omega)
  have hones : ∀ n ∈ List.range 7, ones32 (2 ^ n - 1) ≤ 12 := by decide +kernel
  have ho := hones n (by rw [List.mem_range]; omega)
  have hloop := sub_loop h (2 ^ n - 1) [((2 ^ n - 1 : Nat) : Int)] (Nat.le_refl _) (by simp; omega)
  have hperm : ([((2 ^ n - 1 : Nat) : Int)] ++ (List.range (2 ^ n - 1)).reverse.map fun (k : Nat) => (k : Int)).Perm (ordI n) := by
    have e : ([((2 ^ n - 1 : Nat) : Int)] ++ (List.range (2 ^ n - 1)).reverse.map fun (k : Nat) => (k : Int)) = (List.range (2 ^ n)).reverse.map fun (k : Nat) => (k : Int) := by
      have : 2 ^ n = (2 ^ n - 1) + 1 := by omega
      conv => rhs; rw [this, List.range_succ]
      simp
    rw [e]
    unfold ordI
    exact ((List.reverse_perm _).trans (ordL_perm h).symm).map _
  simp only [attrset_Subsets, Size02_eq (show 2 ^ n - 1 < 4294967296 by omega), Option.bind_some, hloop, Order_ord h _ hperm]
  rw [if_neg (by omega)]
end Go.Proofs.Ythgnkhchpjcboaa
/- The lowest member of a set. -/
set_option linter.unusedVariables false
set_option linter.unusedSimpArgs false
namespace Go.Ab
open Go
theorem w32_neg {n : Nat} (h0 : n ≠ 0) (h : n < 4294967296) : IntKind.u32.wrap (0 - (n : Int)) = ((4294967296 - n : Nat) : Int) := by
  simp only [IntKind.wrap, IntKind.signed, IntKind.bits, Bool.false_and, Bool.false_eq_true, if_false]
  rw [show ((2 : Int) ^ 32) = 4294967296 from rfl]
  omega
theorem two_mul_bit (m i : Nat) : (2 * m + 1).testBit (i + 1) = m.testBit i := by
  rw [Nat.testBit_succ]; congr 1; omega
theorem two_mul_bit0 (m i : Nat) : (2 * m).testBit (i + 1) = m.testBit i := by
  rw [Nat.testBit_succ]; congr 1; omega
/-- the lowest member -/
theorem low_bit {n : Nat} (h0 : n ≠ 0) (h : n < 4294967296) : ∃ k, k < 32 ∧ n.testBit k = true ∧ n &&& (4294967296 - n) = 2 ^ k ∧ (∀ j, (n &&& (n - 1)).testBit j = (n.testBit j && decide (j ≠ k))) ∧ n &&& (n - 1) < n := by
  obtain ⟨m, hm, hk⟩ := Lib.ctzFrom_spec 32 n (by omega) h
  generalize Lib.ctzFrom 32 n = k at hm hk
  have hp : 0 < 2 ^ k := Nat.pow_pos (by omega)
  have b1 : ∀ j, n.testBit j = if j < k then false else (2 * m + 1).testBit (j - k) := by
    intro j
    have := Nat.testBit_two_pow_mul_add (2 * m + 1) (b := 0) hp j
    rw [Nat.add_zero, ← hm] at this
    rw [this]; simp
  have e1 : n - 1 = 2 ^ k * (2 * m) + (2 ^ k - 1) := by
    rw [hm, Nat.mul_add, Nat.mul_one]; omega
  have b2 : ∀ j, (n - 1).testBit j = if j < k then (2 ^ k - 1).testBit j else (2 * m).testBit (j - k) := by
    intro j
    rw [e1]
    exact Nat.testBit_two_pow_mul_add (2 * m) (b := 2 ^ k - 1) (by omega) j
  have hbits : ∀ j, (n &&& (n - 1)).testBit j = (n.testBit j && decide (j ≠ k)) := by
    intro j
    rw [Nat.testBit_and, b1, b2]
    by_cases hj : j < k
    · simp [hj]
    · simp only [if_neg hj]
      by_cases hjk : j = k
      · subst hjk; simp
      · obtain ⟨i, hi⟩ : ∃ i, j - k = i + 1 := ⟨j - k - 1, by omega⟩
        rw [hi, two_mul_bit, two_mul_bit0]
        simp [hjk]
  refine ⟨k, hk, ?_, ?_, hbits, ?_⟩
  · rw [b1, if_neg (by omega), Nat.sub_self]; simp
  · have := Lib.and_neg 32 k m (by rw [← hm]; exact h)
    rw [← hm] at this
    exact this
  · exact Nat.lt_of_le_of_lt Nat.and_le_right (by omega)
theorem ndiff_low {n k : Nat} (hk : n.testBit k = true) (hb : ∀ j, (n &&& (n - 1)).testBit j = (n.testBit j && decide (j ≠ k))) (p : Nat → Bool) (hn : n < 4294967296) :
    ((List.range 32).any fun i => n.testBit i && p i) = (p k || (List.range 32).any fun i => (n &&& (n - 1)).testBit i && p i) := by
  have hk32 : k < 32 := by
    apply Classical.byContradiction
    intro hc
    rw [bit_lt (n := 32) hn (by omega)] at hk; cases hk
  rw [Bool.eq_iff_iff]
  simp only [Bool.or_eq_true, List.any_eq_true, List.mem_range, Bool.and_eq_true, hb, decide_eq_true_eq]
  constructor
  · rintro ⟨i, h1, h2, h3⟩
    by_cases hik : i = k
    · subst hik; exact .inl h3
    · exact .inr ⟨i, h1, ⟨h2, hik⟩, h3⟩
  · rintro (h | ⟨i, h1, ⟨h2, _⟩, h3⟩)
    · exact ⟨k, hk32, hk, h⟩
    · exact ⟨i, h1, h2, h3⟩
end Go.Ab
/- The rows of the merging. -/
set_option linter.unusedVariables false
set_option linter.unusedSimpArgs false
namespace Go.Proofs.Ythgnkhchpjcboaa
open Go Go.Ab

def rowsErr : List Row → Int
  | [] => 12
  | r :: l => if (r :: l).all (fun x => x.Values.length == r.Values.length) then 0 else 6
theorem IndexFunc_Value_eq (l : List Value) (f : Value → Option Bool) (p : Value → Bool) (hf : ∀ x ∈ l, f x = some (p x)) (hl : l.length ≤ 1073741824) : slices_IndexFunc_Value l f = some (match l.findIdx? p with | some i => (i : Int) | none => -1) := by
  have h := LoopF_find l (slices_IndexFunc_Value_l1 l f) p
    (fun k x hx hk hp => by simp [slices_IndexFunc_Value_l1, lt_true hx, idx_get hx, hf x (List.mem_of_getElem? hx), hp, wrap_succ hk (by omega)])
    (fun k x hx hp => by simp [slices_IndexFunc_Value_l1, lt_true hx, idx_get hx, hf x (List.mem_of_getElem? hx), hp])
    (by simp [slices_IndexFunc_Value_l1])
  simp only [slices_IndexFunc_Value, h, Option.bind_some]
  cases l.findIdx? p <;> rfl
theorem findIdx_any {α : Type} (p : α → Bool) (l : List α) : decide ((match l.findIdx? p with | some i => ((i : Nat) : Int) | none => -1) ≥ 0) = l.any p := by
  cases h : l.findIdx? p with
  | none =>
    rw [List.findIdx?_eq_none_iff] at h
    have : l.any p = false := by rw [List.any_eq_false]; intro x hx; simp [h x hx]
    rw [this]; rfl
  | some i =>
    have : l.any p = true := by
      rw [List.findIdx?_eq_some_iff_getElem] at h
      obtain ⟨hi, hp, _⟩ := h
      rw [List.any_eq_true]
      exact ⟨_, List.getElem_mem hi, hp⟩
    rw [this]; simp
theorem ContainsFunc_Value_eq (l : List Value) (f : Value → Option Bool) (p : Value → Bool) (hf : ∀ x ∈ l, f x = some (p x)) (hl : l.length ≤ 1073741824) : slices_ContainsFunc_Value l f = some (l.any p) := by
  simp only [slices_ContainsFunc_Value, IndexFunc_Value_eq l f p hf hl, Option.bind_some, findIdx_any]

/-- the IDs ascend from a number on, and all values are valid -/
def okRows : Int → List Row → Bool
  | _, [] => true
  | a, r :: l => decide (a < r.ID) && r.Values.all valid && okRows r.ID l
end Go.Proofs.Ythgnkhchpjcboaa
/- The choice of a value. -/
set_option linter.unusedVariables false
set_option linter.unusedSimpArgs false
namespace Go.Proofs.Ythgnkhchpjcboaa
open Go Go.Ab

/-! ### the order of values -/
theorem sgn_neg (a b : Int) : sgn b a = - sgn a b := by unfold sgn; split <;> (try split) <;> (try split) <;> omega
theorem strc_neg : ∀ a b : List UInt8, strc b a = - strc a b
  | [], [] => rfl
  | [], _ :: _ => rfl
  | _ :: _, [] => rfl
  | x :: a, y :: b => by
    simp only [strc]
    by_cases h : x = y
    · subst h; simp [strc_neg a b]
    · have h' : ¬ y = x := fun e => h e.symm
      simp only [if_neg h, if_neg h']; exact sgn_neg _ _
theorem vcmp_neg (a b : Value) : vcmp b a = - vcmp a b := by
  unfold vcmp
  rw [sgn_neg a.Kind, sgn_neg a.Num, strc_neg a.Str]
  split <;> (try split) <;> (try split) <;> (try split) <;> omega
/-! ### which value is preferred -/
def betterB (cnt : Value → Int) (rule : Int) (v b : Value) : Bool :=
  if rule = 2 then decide (cnt v > cnt b) else if rule = 3 then decide (v.Kind = 2) && (decide (b.Kind ≠ 2) || decide ((v.Str.length : Int) > b.Str.length))
  else if rule = 4 then decide (vcmp v b < 0) else if rule = 5 then decide (vcmp v b > 0) else false
def cellV (r : Row) (a : Nat) : Value := r.Values.getD a ⟨0, 0, []⟩
def Short (rows : List Row) : Prop := ∀ r ∈ rows, ∀ v ∈ r.Values, v.Str.length ≤ 1073741824

end Go.Proofs.Ythgnkhchpjcboaa
/- Choose is the reference's Choose. -/
set_option linter.unusedVariables false
set_option linter.unusedSimpArgs false
namespace Go.Proofs.Ythgnkhchpjcboaa
open Go Go.Ab

/-- the greatest element that comes first, with the place where it was found -/
def pickF {β : Type} (B : Value → Value → Bool) (o : Value × β) (x : Value × β) : Value × β := if B x.1 o.1 then x else o
def nn (rows : List Row) (a : Nat) : List Row := rows.filter fun r => (cellV r a).Kind != 0
/-- the outcome of both -/
def chosen (rows : List Row) (a : Nat) (rule : Int) : Value × Int :=
  match nn rows a with
  | [] => (⟨0, 0, []⟩, (rows[0]?.map (·.ID)).getD 0)
  | r :: l => (l.map fun x => (cellV x a, x.ID)).foldl (pickF (betterB (fun x => (((rows.map (cellV · a)).countP (veq · x) : Nat) : Int)) rule)) (cellV r a, r.ID)

end Go.Proofs.Ythgnkhchpjcboaa
/- Choose is the reference's Choose, second part. -/
set_option linter.unusedVariables false
set_option linter.unusedSimpArgs false
namespace Go.Proofs.Ythgnkhchpjcboaa
open Go Go.Ab

/-- what both answer -/
def choice (rows : List Row) (attr rule : Int) : Value × Int × Int :=
  if rowsErr rows ≠ 0 then (⟨0, 0, []⟩, 0, rowsErr rows)
  else if attr < 0 ∨ ((rows[0]?.map (·.Values.length)).getD 0 : Nat) ≤ attr then (⟨0, 0, []⟩, 0, 6)
  else if okRows 0 rows = false ∨ rule < 1 ∨ 5 < rule then (⟨0, 0, []⟩, 0, 1)
  else ((chosen rows attr.toNat rule).1, (chosen rows attr.toNat rule).2, 0)
end Go.Proofs.Ythgnkhchpjcboaa
/- Merge is the reference's Merge. -/
set_option linter.unusedVariables false
set_option linter.unusedSimpArgs false
namespace Go.Proofs.Ythgnkhchpjcboaa
open Go Go.Ab

def okRule (r : Int) : Bool := decide (1 ≤ r) && decide (r ≤ 5)
theorem IndexFunc_int_eq (l : List Int) (f : Int → Option Bool) (p : Int → Bool) (hf : ∀ x ∈ l, f x = some (p x)) (hl : l.length ≤ 1073741824) : slices_IndexFunc_int l f = some (match l.findIdx? p with | some i => (i : Int) | none => -1) := by
  have h := LoopF_find l (slices_IndexFunc_int_l1 l f) p
    (fun k x hx hk hp => by simp [slices_IndexFunc_int_l1, lt_true hx, idx_get hx, hf x (List.mem_of_getElem? hx), hp, wrap_succ hk (show l.length ≤ 4611686018427387904 by omega)])
    (fun k x hx hp => by simp [slices_IndexFunc_int_l1, lt_true hx, idx_get hx, hf x (List.mem_of_getElem? hx), hp])
    (by simp [slices_IndexFunc_int_l1])
  simp only [slices_IndexFunc_int, h, Option.bind_some]
  cases l.findIdx? p <;> rfl
theorem ContainsFunc_int_eq (l : List Int) (f : Int → Option Bool) (p : Int → Bool) (hf : ∀ x ∈ l, f x = some (p x)) (hl : l.length ≤ 1073741824) : slices_ContainsFunc_int l f = some (l.any p) := by
  simp only [slices_ContainsFunc_int, IndexFunc_int_eq l f p hf hl, Option.bind_some]
  exact congrArg some (findIdx_any p l)

/-- the merged values and origins -/
def stepM (rows : List Row) (b : List Value × List Int) (rule : Int) : List Value × List Int := (b.1 ++ [(chosen rows b.1.length rule).1], b.2 ++ [(chosen rows b.1.length rule).2])
def mergedV (rows : List Row) (rules : List Int) : List Value × List Int := rules.foldl (stepM rows) ([], [])
/-- what both answer -/
def merging (rows : List Row) (rules : List Int) : (Row × List Int) × Int :=
  if rowsErr rows ≠ 0 then ((⟨0, []⟩, []), rowsErr rows)
  else if rules.length ≠ (rows[0]?.map (·.Values.length)).getD 0 then ((⟨0, []⟩, []), 6)
  else if okRows 0 rows = false ∨ rules.all okRule = false then ((⟨0, []⟩, []), 1)
  else ((⟨(rows[0]?.map (·.ID)).getD 0, (mergedV rows rules).1⟩, (mergedV rows rules).2), 0)
theorem any_not_all {α : Type} (p : α → Bool) (l : List α) : (l.any fun x => !p x) = !l.all p := by simp [List.all_eq_not_any_not]
end Go.Proofs.Ythgnkhchpjcboaa
/- Tables: names, validity, finding a row. -/
set_option linter.unusedVariables false
set_option linter.unusedSimpArgs false
namespace Go.Proofs.Ythgnkhchpjcboaa
open Go Go.Ab

def letter (c : Int) : Bool := (decide (97 ≤ c) && decide (c ≤ 122)) || ((decide (65 ≤ c) && decide (c ≤ 90)) || c == 95)
theorem letter_eq (c : Int) : drossref03_letter c = some (letter c) := by
  simp only [drossref03_letter, letter]
  by_cases h1 : 97 ≤ c <;> by_cases h2 : c ≤ 122 <;> by_cases h3 : 65 ≤ c <;> by_cases h4 : c ≤ 90 <;> simp [h1, h2, h3, h4]
def lod (c : UInt8) : Bool := letter c.toNat || (decide (48 ≤ (c.toNat : Int)) && decide ((c.toNat : Int) ≤ 57))
def nameB : List UInt8 → Bool
  | [] => false
  | c :: r => decide (r.length < 24) && letter c.toNat && !((c :: r) == [110, 117, 108, 108]) && r.all lod
theorem isName_eq (s : List UInt8) : table_isName s = some (nameB s) := by
  cases s with
  | nil => rfl
  | cons c r =>
    have hn : ¬ (((c :: r) == []) = true) := by simp
    simp only [table_isName, if_neg hn]
    by_cases h24 : ((c :: r).length : Int) > 24
    · have : ¬ r.length < 24 := by simp at h24; omega
      rw [if_pos h24]; simp [nameB, this]
    · have h24' : r.length < 24 := by simp at h24; omega
      rw [if_neg h24]
      by_cases hnull : ((c :: r) == [110, 117, 108, 108]) = true
      · simp only [hnull, if_true, nameB]; simp
      · simp only [Bool.not_eq_true] at hnull
        have hlet : ∀ x : UInt8, (show Option Bool from
            if ((x.toNat : Nat) : Int) ≥ 97 then
              if ((x.toNat : Nat) : Int) ≤ 122 then some true
              else if ((x.toNat : Nat) : Int) ≥ 65 then if ((x.toNat : Nat) : Int) ≤ 90 then some true else some (((x.toNat : Nat) : Int) == 95) else some (((x.toNat : Nat) : Int) == 95)
            else if ((x.toNat : Nat) : Int) ≥ 65 then if ((x.toNat : Nat) : Int) ≤ 90 then some true else some (((x.toNat : Nat) : Int) == 95) else some (((x.toNat : Nat) : Int) == 95)) = some (letter x.toNat) := fun x => letter_eq x.toNat
        have h := LoopF_allk (c :: r) (table_isName_l1 (c :: r)) (fun k x => letter x.toNat || (decide (k ≠ 0) && (decide (48 ≤ (x.toNat : Int)) && decide ((x.toNat : Int) ≤ 57)))) false
          (fun k x hx hk hp => by
            simp only [table_isName_l1, if_pos (lt_true hx), idx_get hx, Option.bind_some, hlet, wrap_succ hk (by simp; omega)]
            by_cases hx1 : letter x.toNat = true
            · simp [hx1]
            · simp only [Bool.not_eq_true] at hx1
              simp only [hx1, Bool.false_or, Bool.and_eq_true, decide_eq_true_eq] at hp
              have e0 : ¬ (((k : Int) == 0) = true) := by simp; omega
              have e1 : ¬ (x.toNat : Int) < 48 := by omega
              have e2 : ¬ (x.toNat : Int) > 57 := by omega
              simp [hx1, e0, e1, e2])
          (fun k x hx hp => by
            simp only [table_isName_l1, if_pos (lt_true hx), idx_get hx, Option.bind_some, hlet]
            simp only [Bool.or_eq_false_iff, Bool.and_eq_false_iff, decide_eq_false_iff_not] at hp
            simp only [hp.1, Bool.false_eq_true, if_false]
            by_cases e0 : k = 0
            · simp [e0]
            · have e0' : ¬ (((k : Int) == 0) = true) := by simp; omega
              by_cases e1 : (x.toNat : Int) < 48
              · simp [e1]
              · have e2 : (x.toNat : Int) > 57 := by
                  rcases hp.2 with h | h | h
                  · exact absurd e0 h
                  · omega
                  · omega
                simp [e1, e2])
          (by simp [table_isName_l1]) (c :: r) 0 rfl (Nat.zero_le _)
        simp only [Int.natCast_zero] at h
        simp only [hnull, Bool.false_eq_true, if_false, h, Option.bind_some]
        have e : allFrom (fun k x => letter x.toNat || (decide (k ≠ 0) && (decide (48 ≤ (x.toNat : Int)) && decide ((x.toNat : Int) ≤ 57)))) 0 (c :: r) = (letter c.toNat && r.all lod) := by
          simp only [allFrom]
          rw [allFrom_congr (q := fun _ x => lod x) r 1 (fun j x hj _ => by
            have hj0 : j ≠ 0 := by omega
            simp [lod, hj0]), allFrom_all]
          simp
        rw [e]
        simp only [nameB, h24', decide_true, Bool.true_and, hnull, Bool.not_false, Bool.and_true]
        cases letter c.toNat <;> cases r.all lod <;> rfl

def posI : Option Nat → Int
  | some i => i
  | none => -1
theorem posI_any {α : Type} (p : α → Bool) (l : List α) : decide (posI (l.findIdx? p) ≥ 0) = l.any p := by
  rw [← findIdx_any]
  cases l.findIdx? p <;> rfl
theorem Index_string_eq (l : List (List UInt8)) (s : List UInt8) (hl : l.length ≤ 1073741824) : slices_Index_string l s = some (posI (l.findIdx? (fun x => s == x))) := by
  have h := LoopF_find l (slices_Index_string_l1 l s) (fun x => s == x)
    (fun k x hx hk hp => by simp only [slices_Index_string_l1, if_pos (lt_true hx), idx_get hx, Option.bind_some, hp, Bool.false_eq_true, if_false, if_true, wrap_succ hk (show l.length ≤ 4611686018427387904 by omega)])
    (fun k x hx hp => by simp only [slices_Index_string_l1, if_pos (lt_true hx), idx_get hx, Option.bind_some, hp, if_true])
    (by simp [slices_Index_string_l1])
  simp only [slices_Index_string, h, Option.bind_some]
  cases l.findIdx? (fun x => s == x) <;> rfl
theorem Contains_string_eq (l : List (List UInt8)) (s : List UInt8) (hl : l.length ≤ 1073741824) : slices_Contains_string l s = some (l.any fun x => s == x) := by
  simp only [slices_Contains_string, Index_string_eq l s hl, Option.bind_some]
  exact congrArg some (posI_any _ l)
def namesB (l : List (List UInt8)) : Bool := allFrom (fun k x => nameB x && !(l.take k).any fun y => x == y) 0 l
def rowsCode (n : Nat) : Int → List Row → Int
  | _, [] => 0
  | a, r :: l => if r.ID ≤ a then 1 else if r.Values.length ≠ n then 6 else if r.Values.all valid then rowsCode n r.ID l else 1
def tableErr (t : Table) : Int :=
  if nameB t.Name = false then 1 else if t.Attrs.length > 16 then 3 else if t.Rows.length > 1000 then 3 else if namesB t.Attrs = false then 1 else rowsCode t.Attrs.length 0 t.Rows
theorem validValues_eq (l : List Value) (hl : l.length ≤ 1073741824) : table_validValues l = some (l.all valid) := by
  simp only [table_validValues, ContainsFunc_Value_eq l (fun y => table_validValues_1 y) (fun v => !valid v) (fun y _ => by simp [table_validValues_1, value_Valid_eq]) hl, Option.bind_some, any_not_all, Bool.not_not]

theorem rows_loop {B : Int × Int → Option (LS (Int × Int) (Unit ⊕ Int))} (rows : List Row) (n : Nat)
    (hB : ∀ (k : Nat) (a : Int) x, rows[k]? = some x → k < rows.length → B (a, (k : Int)) = if x.ID ≤ a then some (.done (.inr 1)) else if x.Values.length ≠ n then some (.done (.inr 6)) else if x.Values.all valid then some (.next (x.ID, ((k + 1 : Nat) : Int))) else some (.done (.inr 1)))
    (hE : ∀ a, B (a, (rows.length : Int)) = some (.done (.inl ()))) : ∀ (r : List Row) (k : Nat) (a : Int), rows.drop k = r → k ≤ rows.length → ∃ o, LoopF B (a, (k : Int)) = some o ∧ (match o with | .inl () => rowsCode n a r = 0 | .inr z => rowsCode n a r = z ∧ z ≠ 0) := by
  intro r
  induction r with
  | nil =>
    intro k a hd hk
    have : k = rows.length := by
      have := congrArg List.length hd
      simp at this; omega
    subst this
    exact ⟨.inl (), Loop_done (hE a), rfl⟩
  | cons x r ih =>
    intro k a hd hk
    have hx : rows[k]? = some x := by
      have := congrArg (·[0]?) hd
      simpa [List.getElem?_drop] using this
    have hd' : rows.drop (k + 1) = r := by rw [← List.drop_drop, hd]; rfl
    have hlt := lt_of_get hx
    have hb := hB k a x hx hlt
    by_cases h1 : x.ID ≤ a
    · rw [if_pos h1] at hb
      exact ⟨_, Loop_done hb, by simp [rowsCode, h1]⟩
    · rw [if_neg h1] at hb
      by_cases h2 : x.Values.length ≠ n
      · rw [if_pos h2] at hb
        exact ⟨_, Loop_done hb, by simp [rowsCode, h1, h2]⟩
      · rw [if_neg h2] at hb
        by_cases h3 : x.Values.all valid = true
        · rw [if_pos h3] at hb
          obtain ⟨o, h4, h5⟩ := ih (k + 1) x.ID hd' hlt
          refine ⟨o, by rw [Loop_next hb]; exact h4, ?_⟩
          have e : rowsCode n a (x :: r) = rowsCode n x.ID r := by
            simp only [rowsCode, if_neg h1, if_neg h2, if_pos h3]
          rw [e]; exact h5
        · rw [if_neg h3] at hb
          exact ⟨_, Loop_done hb, by simp only [rowsCode, if_neg h1, if_neg h2, if_neg h3]; exact ⟨trivial, by omega⟩⟩

structure TabOk (t : Table) : Prop where
  attrs : t.Attrs.length ≤ 1073741824
  rows : t.Rows.length ≤ 1073741824
  vals : ∀ r ∈ t.Rows, r.Values.length ≤ 1073741824
  short : Short t.Rows
theorem table_Valid_table (t : Table) (H : TabOk t) : table_Valid t = some (tableErr t) := by
  simp only [table_Valid, isName_eq, Option.bind_some, tableErr]
  by_cases h1 : nameB t.Name = true
  · by_cases h2 : t.Attrs.length > 16
    · have : (t.Attrs.length : Int) > 16 := by omega
      simp [h1, h2, this]
    · have h2' : ¬ (t.Attrs.length : Int) > 16 := by omega
      by_cases h3 : t.Rows.length > 1000
      · have : (t.Rows.length : Int) > 1000 := by omega
        simp [h1, h2, h2', h3, this]
      · have h3' : ¬ (t.Rows.length : Int) > 1000 := by omega
        have hN := LoopF_allk t.Attrs (table_Valid_l1 t) (fun k x => nameB x && !(t.Attrs.take k).any fun y => x == y) 1
          (fun k x hx hk hp => by
            simp only [Bool.and_eq_true, Bool.not_eq_true'] at hp
            have h0 : ((0 : Int) ≤ (k : Int)) := by omega
            have h1 : ((k : Int) ≤ (t.Attrs.length : Int)) := by omega
            have hA := H.attrs
            simp only [table_Valid_l1, if_pos (lt_true hx), idx_get hx, Option.bind_some, isName_eq, hp.1, if_true, if_pos h0, if_pos h1, Int.toNat_natCast, Contains_string_eq _ x (show (t.Attrs.take k).length ≤ 1073741824 by simp; omega), hp.2, Bool.false_eq_true, if_false,
              wrap_succ hk (show t.Attrs.length ≤ 4611686018427387904 by omega)])
          (fun k x hx hp => by
            have hk := lt_of_get hx
            have h0 : ((0 : Int) ≤ (k : Int)) := by omega
            have h1 : ((k : Int) ≤ (t.Attrs.length : Int)) := by omega
            have hA := H.attrs
            simp only [table_Valid_l1, if_pos (lt_true hx), idx_get hx, Option.bind_some, isName_eq, if_pos h0, if_pos h1, Int.toNat_natCast, Contains_string_eq _ x (show (t.Attrs.take k).length ≤ 1073741824 by simp; omega)]
            rcases Bool.eq_false_or_eq_true (nameB x) with hn | hn
            · simp only [hn, Bool.true_and, Bool.not_eq_false'] at hp
              simp only [hn, if_true, hp]
            · simp [hn])
          (by simp [table_Valid_l1]) t.Attrs 0 rfl (Nat.zero_le _)
        simp only [Int.natCast_zero] at hN
        simp only [h1, if_true, if_neg h2', if_neg h3', hN, Option.bind_some, Bool.true_eq_false, if_false, if_neg h2, if_neg h3]
        have hNe : namesB t.Attrs = allFrom (fun k x => nameB x && !(t.Attrs.take k).any fun y => x == y) 0 t.Attrs := rfl
        rw [← hNe]
        by_cases h4 : namesB t.Attrs = true
        · obtain ⟨o, h5, h6⟩ := rows_loop (B := table_Valid_l2 t) t.Rows t.Attrs.length (fun k a x hx hk => by
              simp only [table_Valid_l2, if_pos (lt_true hx), idx_get hx, Option.bind_some, validValues_eq _ (H.vals x (List.mem_of_getElem? hx)), wrap_succ hk (show t.Rows.length ≤ 4611686018427387904 by have := H.rows; omega)]
              by_cases e1 : x.ID ≤ a
              · simp [e1]
              · by_cases e2 : x.Values.length = t.Attrs.length
                · simp [e1, e2]
                · have : ¬ ((x.Values.length : Int) = t.Attrs.length) := by omega
                  simp [e1, e2, this]) (fun a => by simp [table_Valid_l2]) t.Rows 0 0 rfl (Nat.zero_le _)
          simp only [Int.natCast_zero] at h5
          simp only [h4, if_true, h5, Option.bind_some, Bool.true_eq_false, if_false]
          cases o with
          | inl u => simp only at h6 ⊢; rw [h6]
          | inr z => simp only at h6 ⊢; rw [h6.1]
        · simp only [Bool.not_eq_true] at h4
          simp [h4]
  · simp only [Bool.not_eq_true] at h1
    simp [h1]

end Go.Proofs.Ythgnkhchpjcboaa
/- Well-formed merged tables. -/
set_option linter.unusedVariables false
set_option linter.unusedSimpArgs false
namespace Go.Proofs.Ythgnkhchpjcboaa
open Go Go.Ab

/-! ### no ID in two clusters -/
theorem mget_mset {K V : Type} [DecidableEq K] (m : List (K × V)) (k x : K) (v : V) : mget (mset m k v) x = if x = k then some v else mget m x := by
  induction m with
  | nil => simp [mset, mget]
  | cons p r ih =>
    obtain ⟨a, u⟩ := p
    simp only [mset]
    by_cases h : k = a
    · subst h
      simp only [if_pos, mget]
      by_cases hx : x = k <;> simp [hx]
    · simp only [if_neg h, mget, ih]
      by_cases hx : x = a
      · subst hx
        have : ¬ x = k := fun e => h e.symm
        simp [this]
      · simp [hx]
/-- a map holds exactly some IDs -/
def Holds (m : List (Int × Bool)) (all : List Int) : Prop := ∀ x, mget m x = if x ∈ all then some true else none

/-! ### well-formed -/
end Go.Proofs.Ythgnkhchpjcboaa
/- Ordering: lists of attributes, what they name, and what is left of them. -/
set_option linter.unusedVariables false
set_option linter.unusedSimpArgs false
namespace Go.Proofs.Ythgnkhchpjcboaa
open Go Go.Ab

/-- a list names attributes -/
def listB (n : Int) (l : List Int) : Bool := decide (l.length ≤ 8) && l.all fun a => decide (0 ≤ a) && decide (a < n)
def validB (n : Int) (d : OD) : Bool := listB n d.Lhs && listB n d.Rhs
theorem list_eq (n : Int) (l : List Int) (hl : l.length ≤ 1073741824) : ordering_list n l = some (listB n l) := by
  have h := ContainsFunc_int_eq l (fun y => ordering_list_1 y n) (fun a => decide (a < 0) || decide (n ≤ a)) (fun x _ => by
    simp only [ordering_list_1]
    by_cases h : x < 0 <;> simp [h]) hl
  simp only [ordering_list, h, Option.bind_some, listB]
  by_cases hc : (l.length : Int) ≤ 8
  · rw [if_pos hc, decide_eq_true (show l.length ≤ 8 by omega), Bool.true_and]
    congr 1
    rw [Bool.eq_iff_iff]
    simp only [Bool.not_eq_true', List.any_eq_false, List.all_eq_true, Bool.or_eq_true, decide_eq_true_eq, Bool.and_eq_true, not_or]
    exact ⟨fun h x hx => by have := h x hx; omega, fun h x hx => by have := h x hx; omega⟩
  · rw [if_neg hc, decide_eq_false (show ¬ l.length ≤ 8 by omega)]; rfl
theorem Valid_eq (n : Int) (d : OD) (h1 : d.Lhs.length ≤ 1073741824) (h2 : d.Rhs.length ≤ 1073741824) : ordering_Valid n d = some (validB n d) := by
  simp only [ordering_Valid, list_eq n _ h1, list_eq n _ h2, Option.bind_some, validB]
  cases listB n d.Lhs <;> simp
end Go.Proofs.Ythgnkhchpjcboaa
/- Ordering: the order of two rows on a list, and the kind of a violation. -/
set_option linter.unusedVariables false
set_option linter.unusedSimpArgs false
namespace Go.Proofs.Ythgnkhchpjcboaa
open Go Go.Ab

/-- a row has a value for each member of a list -/
def Fits (a : Row) (l : List Int) : Prop := ∀ i ∈ l, 0 ≤ i ∧ i < (a.Values.length : Int)
theorem fits_idx {a : Row} {l : List Int} (h : Fits a l) {i : Int} (hi : i ∈ l) : idx a.Values i = some (cellV a i.toNat) := by
  obtain ⟨h1, h2⟩ := h i hi
  have hg : a.Values[i.toNat]? = some (cellV a i.toNat) := by
    have hlt : i.toNat < a.Values.length := by omega
    simp [cellV, List.getD, List.getElem?_eq_getElem hlt]
  have := idx_get hg
  rwa [Int.toNat_of_nonneg h1] at this
def ShortR (a : Row) : Prop := ∀ v ∈ a.Values, v.Str.length ≤ 1073741824
def cmpL (a b : Row) : List Int → Int
  | [] => 0
  | i :: l => if vcmp (cellV a i.toNat) (cellV b i.toNat) ≠ 0 then vcmp (cellV a i.toNat) (cellV b i.toNat) else cmpL a b l
theorem cmpL_foldR (a b : Row) : ∀ l : List Int, foldR (fun (_ : Unit) i => if vcmp (cellV a i.toNat) (cellV b i.toNat) ≠ 0 then Sum.inr (Sum.inr (vcmp (cellV a i.toNat) (cellV b i.toNat)) : Unit ⊕ Int) else Sum.inl ()) (fun _ => Sum.inl ()) l () = if cmpL a b l ≠ 0 then .inr (cmpL a b l) else .inl ()
  | [] => rfl
  | i :: l => by
    simp only [foldR, cmpL]
    by_cases h : vcmp (cellV a i.toNat) (cellV b i.toNat) ≠ 0
    · simp [h]
    · simp only [if_neg h]; exact cmpL_foldR a b l
theorem compare_eq (a b : Row) (l : List Int) (ha : Fits a l) (hb : Fits b l) (hl : l.length ≤ 1073741824) : ordering_compare a b l = some (cmpL a b l) := by
  have h := LoopF_list l (fun (_ : Unit) i => i) (ordering_compare_l1 a b l) (fin := fun _ => Sum.inl ()) (I := fun _ _ => True) (b0 := ()) (s0 := 0) rfl trivial
    (f := fun (_ : Unit) i => if vcmp (cellV a i.toNat) (cellV b i.toNat) ≠ 0 then Sum.inr (Sum.inr (vcmp (cellV a i.toNat) (cellV b i.toNat)) : Unit ⊕ Int) else Sum.inl ())
    (fun k u i hx hk _ => by
      have hm := List.mem_of_getElem? hx
      have e : ordering_compare_l1 a b l (k : Int) = if (vcmp (cellV a i.toNat) (cellV b i.toNat) != 0) = true then some (.done (.inr (vcmp (cellV a i.toNat) (cellV b i.toNat)))) else some (.next ((k + 1 : Nat) : Int)) := by
        simp only [ordering_compare_l1, if_pos (lt_true hx), idx_get hx, fits_idx ha hm, fits_idx hb hm, value_Compare_eq, Option.bind_some, wrap_succ hk (show l.length ≤ 4611686018427387904 by omega)]
      rw [e]
      by_cases h0 : vcmp (cellV a i.toNat) (cellV b i.toNat) = 0
      · simp [h0]
      · simp [h0])
    (fun _ _ => by simp [ordering_compare_l1])
  rw [cmpL_foldR] at h
  simp only [ordering_compare, h, Option.bind_some]
  by_cases h0 : cmpL a b l = 0 <;> simp [h0]
theorem sgn_range (a b : Int) : sgn a b = -1 ∨ sgn a b = 0 ∨ sgn a b = 1 := by
  unfold sgn
  by_cases h : a < b
  · simp [h]
  · by_cases k : b < a <;> simp [h, k]
theorem strc_range : ∀ a b : List UInt8, strc a b = -1 ∨ strc a b = 0 ∨ strc a b = 1
  | [], [] => by simp [strc]
  | [], _ :: _ => by simp [strc]
  | _ :: _, [] => by simp [strc]
  | x :: a, y :: b => by
    simp only [strc]
    by_cases h : x = y
    · rw [if_pos h]; exact strc_range a b
    · rw [if_neg h]; exact sgn_range _ _
theorem vcmp_range (a b : Value) : vcmp a b = -1 ∨ vcmp a b = 0 ∨ vcmp a b = 1 := by
  unfold vcmp
  split; · exact sgn_range _ _
  split; · exact sgn_range _ _
  exact strc_range _ _
theorem cmpL_range (a b : Row) : ∀ l : List Int, cmpL a b l = -1 ∨ cmpL a b l = 0 ∨ cmpL a b l = 1
  | [] => by simp [cmpL]
  | i :: l => by
    simp only [cmpL]
    split
    · exact vcmp_range _ _
    · exact cmpL_range a b l
def kindB (a b : Row) (d : OD) : Int := if cmpL a b d.Lhs = 0 ∧ cmpL a b d.Rhs ≠ 0 then 1 else if cmpL a b d.Lhs * cmpL a b d.Rhs < 0 then 2 else 0
structure FitsD (a : Row) (d : OD) : Prop where
  lhs : Fits a d.Lhs
  rhs : Fits a d.Rhs
structure LenD (d : OD) : Prop where
  lhs : d.Lhs.length ≤ 1073741824
  rhs : d.Rhs.length ≤ 1073741824
theorem wrap_mul (a b : Row) (d : OD) : IntKind.i64.wrap (cmpL a b d.Lhs * cmpL a b d.Rhs) = cmpL a b d.Lhs * cmpL a b d.Rhs := by
  rcases cmpL_range a b d.Lhs with h | h | h <;> rcases cmpL_range a b d.Rhs with k | k | k <;> rw [h, k] <;> rfl
theorem kind_eq (a b : Row) (d : OD) (ha : FitsD a d) (hb : FitsD b d) (hl : LenD d) : ordering_kind a b d = some (kindB a b d) := by
  simp only [ordering_kind, compare_eq a b _ ha.lhs hb.lhs hl.lhs, compare_eq a b _ ha.rhs hb.rhs hl.rhs, Option.bind_some, wrap_mul, kindB]
  by_cases h : cmpL a b d.Lhs = 0
  · by_cases k : cmpL a b d.Rhs = 0 <;> simp [h, k]
  · by_cases k : cmpL a b d.Lhs * cmpL a b d.Rhs < 0 <;> simp [h, k]
end Go.Proofs.Ythgnkhchpjcboaa
/- Ordering: all violations, and the first one. -/
set_option linter.unusedVariables false
set_option linter.unusedSimpArgs false
namespace Go.Proofs.Ythgnkhchpjcboaa
open Go Go.Ab

theorem drop_take {α : Type} (l : List α) (n : Nat) : (l.drop n).take (l.length - n) = l.drop n := by
  apply List.take_of_length_le; rw [List.length_drop]; exact Nat.le_refl _
theorem toNat_nat (k : Nat) : ((k : Int)).toNat = k := Int.toNat_natCast k

structure RowsD (rows : List Row) (d : OD) : Prop where
  len : rows.length ≤ 1000
  fits : ∀ r ∈ rows, FitsD r d
  short : ∀ r ∈ rows, ShortR r
  lenD : LenD d
end Go.Proofs.Ythgnkhchpjcboaa
/- Ordering: errors, Violations, Violation. -/
set_option linter.unusedVariables false
set_option linter.unusedSimpArgs false
namespace Go.Proofs.Ythgnkhchpjcboaa
open Go Go.Ab

/-- the error of a table and a dependency -/
def odErr (t : Table) (d : OD) : Int := if tableErr t ≠ 0 then tableErr t else if validB t.Attrs.length d = true then 0 else 1
theorem check_eq (t : Table) (d : OD) (H : TabOk t) (hl : LenD d) (f : Int → Option Bool) (hf : f (t.Attrs.length : Int) = some (validB t.Attrs.length d)) : ordering_check t f = some (odErr t d) := by
  simp only [ordering_check, table_Valid_table t H, Option.bind_some, hf, odErr]
  by_cases h : tableErr t = 0
  · simp only [h, bne_self_eq_false, Bool.false_eq_true, if_false, ne_eq, not_true_eq_false]
    cases validB t.Attrs.length d <;> simp
  · simp [h]
theorem rowsCode_all : ∀ (n : Nat) (a : Int) (l : List Row), rowsCode n a l = 0 → (∀ r ∈ l, r.Values.length = n ∧ r.Values.all valid = true ∧ a < r.ID) ∧ l.Pairwise (fun x y => x.ID < y.ID)
  | n, a, [], _ => ⟨fun r hr => (by cases hr), List.Pairwise.nil⟩
  | n, a, x :: l, h => by
    simp only [rowsCode] at h
    by_cases h1 : x.ID ≤ a
    · simp [h1] at h
    by_cases h2 : x.Values.length ≠ n
    · simp [h1, h2] at h
    by_cases h3 : x.Values.all valid = true
    · rw [if_neg h1, if_neg h2, if_pos h3] at h
      obtain ⟨k1, k2⟩ := rowsCode_all n x.ID l h
      refine ⟨fun r hr => ?_, List.Pairwise.cons (fun y hy => (k1 y hy).2.2) k2⟩
      rcases List.mem_cons.1 hr with rfl | hr
      · exact ⟨by omega, h3, by omega⟩
      · have := k1 r hr; exact ⟨this.1, this.2.1, by omega⟩
    · rw [if_neg h1, if_neg h2, if_neg h3] at h; cases h
theorem tableErr_z17 {t : Table} (h : tableErr t = 0) : t.Attrs.length ≤ 16 ∧ t.Rows.length ≤ 1000 ∧ rowsCode t.Attrs.length 0 t.Rows = 0 := by
  unfold tableErr at h
  by_cases h1 : nameB t.Name = false
  · simp [h1] at h
  by_cases h2 : t.Attrs.length > 16
  · rw [if_neg h1, if_pos h2] at h; cases h
  by_cases h3 : t.Rows.length > 1000
  · rw [if_neg h1, if_neg h2, if_pos h3] at h; cases h
  by_cases h4 : namesB t.Attrs = false
  · rw [if_neg h1, if_neg h2, if_neg h3, if_pos h4] at h; cases h
  rw [if_neg h1, if_neg h2, if_neg h3, if_neg h4] at h
  exact ⟨by omega, by omega, h⟩
theorem odErr_zero {t : Table} {d : OD} (h : odErr t d = 0) : tableErr t = 0 ∧ validB t.Attrs.length d = true := by
  unfold odErr at h
  by_cases h1 : tableErr t ≠ 0
  · rw [if_pos h1] at h; exact absurd h h1
  · rw [if_neg h1] at h
    by_cases h2 : validB t.Attrs.length d = true
    · exact ⟨by omega, h2⟩
    · rw [if_neg h2] at h; cases h
theorem fits_of {n : Nat} {l : List Int} {a : Row} (h : listB n l = true) (ha : a.Values.length = n) : Fits a l := by
  intro i hi
  simp only [listB, Bool.and_eq_true, List.all_eq_true, decide_eq_true_eq] at h
  have := h.2 i hi
  omega
theorem rowsD_of {t : Table} {d : OD} (h : odErr t d = 0) (H : TabOk t) (hl : LenD d) : RowsD t.Rows d := by
  obtain ⟨h1, h2⟩ := odErr_zero h
  obtain ⟨_, h3, h4⟩ := tableErr_z17 h1
  simp only [validB, Bool.and_eq_true] at h2
  exact ⟨h3, fun r hr => ⟨fits_of h2.1 ((rowsCode_all _ _ _ h4).1 r hr).1, fits_of h2.2 ((rowsCode_all _ _ _ h4).1 r hr).1⟩, fun r hr => H.short r hr, hl⟩
theorem foldR_find {α ρ : Type} (p : α → Bool) (g : α → ρ) : ∀ l : List α, foldR (fun (_ : Unit) x => if p x = true then Sum.inr (Sum.inr (g x) : Unit ⊕ ρ) else Sum.inl ()) (fun _ => Sum.inl ()) l () = match l.find? p with | some x => .inr (g x) | none => .inl ()
  | [] => rfl
  | x :: l => by
    simp only [foldR, List.find?_cons]
    by_cases h : p x = true
    · simp [h]
    · simp only [Bool.not_eq_true] at h; simp only [h, Bool.false_eq_true, if_false]; exact foldR_find p g l
/-- the first violation -/
def firstV (d : OD) : List Row → Option (Row × Row)
  | [] => none
  | a :: r => match r.find? (fun b => kindB a b d != 0) with
    | some b => some (a, b)
    | none => firstV d r
theorem first_inner (t : Table) (d : OD) (H : RowsD t.Rows d) (k : Nat) (a : Row) (hk : t.Rows[k]? = some a) :
    LoopF (ordering_Violation_l3 t d k a) 0 = some (match (t.Rows.drop (k + 1)).find? (fun b => kindB a b d != 0) with | some b => .inr (a.ID, b.ID, kindB a b d, true) | none => .inl ()) := by
  have hkl := lt_of_get hk
  have hlen := H.len
  have h := LoopF_list (t.Rows.drop (k + 1)) (fun (_ : Unit) i => i) (ordering_Violation_l3 t d k a) (fin := fun _ => Sum.inl ()) (I := fun _ _ => True) (b0 := ()) (s0 := 0) rfl trivial
    (f := fun (_ : Unit) b => if (kindB a b d != 0) = true then Sum.inr (Sum.inr (a.ID, b.ID, kindB a b d, true) : Unit ⊕ (Int × Int × Int × Bool)) else Sum.inl ())
    (fun j u b hx hj _ => by
      have hb : b ∈ t.Rows := List.mem_of_mem_drop (List.mem_of_getElem? hx)
      have ha : a ∈ t.Rows := List.mem_of_getElem? hk
      have hjl : j < 1000 := by rw [List.length_drop] at hj; omega
      have e : ordering_Violation_l3 t d k a (j : Int) = if (kindB a b d != 0) = true then some (.done (.inr (a.ID, b.ID, kindB a b d, true))) else some (.next ((j + 1 : Nat) : Int)) := by
        simp only [ordering_Violation_l3, wrap_nat (show k < 4611686018427387904 by omega), toNat_nat, drop_take, if_pos (lt_true hx), idx_get hx, Option.bind_some, kind_eq a b d (H.fits a ha) (H.fits b hb) H.lenD, wrap_nat (show j < 4611686018427387904 by omega)]
      rw [e]
      by_cases h0 : (kindB a b d != 0) = true
      · simp [h0]
      · simp [h0])
    (fun _ _ => by
      simp only [ordering_Violation_l3, wrap_nat (show k < 4611686018427387904 by omega), toNat_nat, drop_take]
      simp)
  rw [h, foldR_find (fun b => kindB a b d != 0) (fun b => (a.ID, b.ID, kindB a b d, true))]
  cases List.find? (fun b => kindB a b d != 0) (List.drop (k + 1) t.Rows) <;> rfl
theorem first_outer (t : Table) (d : OD) (H : RowsD t.Rows d) : ∀ (r : List Row) (k : Nat), t.Rows.drop k = r → k ≤ t.Rows.length →
    LoopF (ordering_Violation_l4 t d) (k : Int) = some (match firstV d r with | some (a, b) => .inr (a.ID, b.ID, kindB a b d, true) | none => .inl ())
  | [], k, hd, hk => by
    have : k = t.Rows.length := by have := congrArg List.length hd; simp at this; omega
    subst this
    exact Loop_done (by simp [ordering_Violation_l4, firstV])
  | a :: r, k, hd, hk => by
    have hx : t.Rows[k]? = some a := by
      have := congrArg (·[0]?) hd
      simpa [List.getElem?_drop] using this
    have hkl := lt_of_get hx
    have hlen := H.len
    have hd' : t.Rows.drop (k + 1) = r := by rw [← List.drop_drop, hd]; rfl
    have hin := first_inner t d H k a hx
    rw [hd'] at hin
    simp only [firstV]
    cases hf : r.find? (fun b => kindB a b d != 0) with
    | some b =>
      rw [hf] at hin
      refine Loop_done ?_
      simp only [ordering_Violation_l4, if_pos (lt_true hx), idx_get hx, Option.bind_some, wrap_nat (show k < 4611686018427387904 by omega), if_pos (show (0 : Int) ≤ ((k + 1 : Nat) : Int) by omega), if_pos (show ((k + 1 : Nat) : Int) ≤ (t.Rows.length : Int) by omega), hin]
    | none =>
      rw [hf] at hin
      have hstep : ordering_Violation_l4 t d (k : Int) = some (.next ((k + 1 : Nat) : Int)) := by
        simp only [ordering_Violation_l4, if_pos (lt_true hx), idx_get hx, Option.bind_some, wrap_nat (show k < 4611686018427387904 by omega), if_pos (show (0 : Int) ≤ ((k + 1 : Nat) : Int) by omega), if_pos (show ((k + 1 : Nat) : Int) ≤ (t.Rows.length : Int) by omega), hin]
      rw [Loop_next hstep, first_outer t d H r (k + 1) hd' hkl]
/-- what Violation answers -/
def violation (t : Table) (d : OD) : Int × Int × Int × Bool :=
  if odErr t d = 0 then match firstV d t.Rows with | some (a, b) => (a.ID, b.ID, kindB a b d, true) | none => (0, 0, 0, false) else (0, 0, 0, false)
theorem Violation_eq (t : Table) (d : OD) (H : TabOk t) (hl : LenD d) : ordering_Violation t d = some (violation t d) := by
  simp only [ordering_Violation, check_eq t d H hl (fun y => ordering_Violation_1 y d) (show ordering_Violation_1 (t.Attrs.length : Int) d = _ by simp only [ordering_Violation_1, Valid_eq _ d hl.lhs hl.rhs, Option.bind_some]), Option.bind_some, violation]
  by_cases h : odErr t d = 0
  · have := first_outer t d (rowsD_of h H hl) t.Rows 0 rfl (Nat.zero_le _)
    simp only [h, bne_self_eq_false, Bool.false_eq_true, if_false, if_true]
    rw [show (0 : Int) = ((0 : Nat) : Int) from rfl, this]
    cases firstV d t.Rows with
    | none => rfl
    | some ab => obtain ⟨a, b⟩ := ab; rfl
  · simp [h]
theorem Holds_eq (t : Table) (d : OD) (H : TabOk t) (hl : LenD d) : ordering_Holds t d = some (if odErr t d = 0 then (!(violation t d).2.2.2, 0) else (false, odErr t d)) := by
  simp only [ordering_Holds, check_eq t d H hl (fun y => ordering_Holds_1 y d) (show ordering_Holds_1 (t.Attrs.length : Int) d = _ by simp only [ordering_Holds_1, Valid_eq _ d hl.lhs hl.rhs, Option.bind_some]), Option.bind_some, Violation_eq t d H hl]
  by_cases h : odErr t d = 0
  · simp [h]
  · simp [h]
end Go.Proofs.Ythgnkhchpjcboaa
/- Ordering: canonical statements. -/
set_option linter.unusedVariables false
set_option linter.unusedSimpArgs false
namespace Go.Proofs.Ythgnkhchpjcboaa
open Go Go.Ab

def hasB (s i : Int) : Bool := (IntKind.u32.wrap ((BitVec.ofInt 32 (Int.fdiv s (2 ^ (min i.toNat 32))) &&& (1#32)).toNat : Int)) == 1
def ceq (x y : Canonical) : Bool := (x.Context == y.Context) && ((x.A == y.A) && (x.B == y.B))
theorem ceq_iff (x y : Canonical) : ceq x y = true ↔ x = y := by
  obtain ⟨a, b, c⟩ := x; obtain ⟨d, e, f⟩ := y
  simp [ceq]
end Go.Proofs.Ythgnkhchpjcboaa
/- Ordering: canonical statements, second part. -/
set_option linter.unusedVariables false
set_option linter.unusedSimpArgs false
namespace Go.Proofs.Ythgnkhchpjcboaa
open Go Go.Ab

def mx (a b : Int) : Int := if b > a then b else a
end Go.Proofs.Ythgnkhchpjcboaa
/- Ordering: canonical statements of the reference. -/
set_option linter.unusedVariables false
set_option linter.unusedSimpArgs false
namespace Go.Proofs.Ythgnkhchpjcboaa
open Go Go.Ab

end Go.Proofs.Ythgnkhchpjcboaa
/- Ordering: both Canonicals answer the same. -/
set_option linter.unusedVariables false
set_option linter.unusedSimpArgs false
namespace Go.Proofs.Ythgnkhchpjcboaa
open Go Go.Ab

end Go.Proofs.Ythgnkhchpjcboaa
/- SurvivorChoose answers true. -/
set_option linter.unusedVariables false
namespace Go.Proofs.Ythgnkhchpjcboaa
open Go Go.Ab
end Go.Proofs.Ythgnkhchpjcboaa
/- SurvivorSource answers true. -/
set_option linter.unusedVariables false
set_option linter.unusedSimpArgs false
namespace Go.Proofs.Ythgnkhchpjcboaa
open Go Go.Ab
end Go.Proofs.Ythgnkhchpjcboaa
/- Which merged tables merge a table: both ways of telling agree. -/
set_option linter.unusedVariables false
set_option linter.unusedSimpArgs false
namespace Go.Proofs.Ythgnkhchpjcboaa
open Go Go.Ab
/-! ### the two ways of dividing agree for a table whose IDs ascend -/
end Go.Proofs.Ythgnkhchpjcboaa
/- SurvivorMerge answers true. -/
set_option linter.unusedVariables false
namespace Go.Proofs.Ythgnkhchpjcboaa
open Go Go.Ab
end Go.Proofs.Ythgnkhchpjcboaa
/- The merged table: sorting, keeping. -/
set_option linter.unusedVariables false
set_option linter.unusedSimpArgs false
namespace Go.Proofs.Ythgnkhchpjcboaa
open Go Go.Ab
/-! ### both sort by insertion -/
/-! ### the rows of some IDs -/
end Go.Proofs.Ythgnkhchpjcboaa
/- The merged table: its rows. -/
set_option linter.unusedVariables false
set_option linter.unusedSimpArgs false
namespace Go.Proofs.Ythgnkhchpjcboaa
open Go Go.Ab
end Go.Proofs.Ythgnkhchpjcboaa
/- Two merged tables that are the same. -/
set_option linter.unusedVariables false
set_option linter.unusedSimpArgs false
namespace Go.Proofs.Ythgnkhchpjcboaa
open Go Go.Ab
end Go.Proofs.Ythgnkhchpjcboaa
/- Equality of merged tables as the program tells it. -/
set_option linter.unusedVariables false
set_option linter.unusedSimpArgs false
namespace Go.Proofs.Ythgnkhchpjcboaa
open Go Go.Ab
end Go.Proofs.Ythgnkhchpjcboaa
/- Insertion sorts: the heads ascend. -/
set_option linter.unusedVariables false
set_option linter.unusedSimpArgs false
namespace Go.Proofs.Ythgnkhchpjcboaa
open Go Go.Ab
def hd (l : List (List Int)) (i : Nat) : Int := (l.getD i []).headD 0
end Go.Proofs.Ythgnkhchpjcboaa
/- The merged table is well-formed. -/
set_option linter.unusedVariables false
set_option linter.unusedSimpArgs false
namespace Go.Proofs.Ythgnkhchpjcboaa
open Go Go.Ab
/-! ### the values and origins -/
end Go.Proofs.Ythgnkhchpjcboaa
/- Merging: both ways agree; what it gives. -/
set_option linter.unusedVariables false
set_option linter.unusedSimpArgs false
namespace Go.Proofs.Ythgnkhchpjcboaa
open Go Go.Ab
end Go.Proofs.Ythgnkhchpjcboaa
/- The merged table is a merging of the table. -/
set_option linter.unusedVariables false
set_option linter.unusedSimpArgs false
namespace Go.Proofs.Ythgnkhchpjcboaa
open Go Go.Ab
end Go.Proofs.Ythgnkhchpjcboaa
/- Tables from recipes. -/
set_option linter.unusedVariables false
set_option linter.unusedSimpArgs false
namespace Go.Proofs.Ythgnkhchpjcboaa
open Go Go.Ab
noncomputable def ofV (c : Int) : Value := (drossref01_Of c).getD ⟨0, 0, []⟩
end Go.Proofs.Ythgnkhchpjcboaa
/- Ordering: the chapter's example. -/
set_option linter.unusedVariables false
set_option linter.unusedSimpArgs false
namespace Go.Proofs.Ythgnkhchpjcboaa
open Go Go.Ab

end Go.Proofs.Ythgnkhchpjcboaa
/- Tables from recipes are valid; rules and clusters of plans. -/
set_option linter.unusedVariables false
set_option linter.unusedSimpArgs false
namespace Go.Proofs.Ythgnkhchpjcboaa
open Go Go.Ab
end Go.Proofs.Ythgnkhchpjcboaa
/- OrderingList answers true. -/
set_option linter.unusedVariables false
set_option linter.unusedSimpArgs false
namespace Go.Proofs.Ythgnkhchpjcboaa
open Go Go.Ab
end Go.Proofs.Ythgnkhchpjcboaa
/- OrderingViolations answers true. -/
set_option linter.unusedVariables false
set_option linter.unusedSimpArgs false
namespace Go.Proofs.Ythgnkhchpjcboaa
open Go Go.Ab
end Go.Proofs.Ythgnkhchpjcboaa
/- Ordering: rows are ordered; what no violation means. -/
set_option linter.unusedVariables false
set_option linter.unusedSimpArgs false
namespace Go.Proofs.Ythgnkhchpjcboaa
open Go Go.Ab




theorem cmpL_neg (a b : Row) : ∀ l : List Int, cmpL b a l = - cmpL a b l
  | [] => rfl
  | i :: l => by
    simp only [cmpL]
    rw [vcmp_neg (cellV a i.toNat) (cellV b i.toNat), cmpL_neg a b l]
    by_cases h : vcmp (cellV a i.toNat) (cellV b i.toNat) = 0
    · rw [if_neg (by omega), if_neg (by omega)]
    · rw [if_pos (by omega), if_pos (by omega)]

theorem cmpL_self (a : Row) (l : List Int) : cmpL a a l = 0 := by have := cmpL_neg a a l; omega
/-- no violation between two rows -/
theorem kindB_zero (a b : Row) (d : OD) : kindB a b d = 0 ↔ (cmpL a b d.Lhs ≤ 0 → cmpL a b d.Rhs ≤ 0) ∧ (0 ≤ cmpL a b d.Lhs → 0 ≤ cmpL a b d.Rhs) := by
  unfold kindB
  rcases cmpL_range a b d.Lhs with h | h | h <;> rcases cmpL_range a b d.Rhs with k | k | k <;> rw [h, k] <;> decide
theorem kindB_symm (a b : Row) (d : OD) : kindB b a d = 0 ↔ kindB a b d = 0 := by
  rw [kindB_zero, kindB_zero, cmpL_neg a b, cmpL_neg a b]
  constructor
  · rintro ⟨h1, h2⟩; exact ⟨fun h => by have := h2 (by omega); omega, fun h => by have := h1 (by omega); omega⟩
  · rintro ⟨h1, h2⟩; exact ⟨fun h => by have := h2 (by omega); omega, fun h => by have := h1 (by omega); omega⟩
theorem kindB_self (a : Row) (d : OD) : kindB a a d = 0 := by
  rw [kindB_zero, cmpL_self, cmpL_self]; exact ⟨fun _ => Int.le_refl _, fun _ => Int.le_refl _⟩
/-- all rows are ordered -/
def OrdAll (rows : List Row) (x y : List Int) : Prop := ∀ a ∈ rows, ∀ b ∈ rows, cmpL a b x ≤ 0 → cmpL a b y ≤ 0
theorem firstV_none (d : OD) : ∀ rows : List Row, firstV d rows = none ↔ rows.Pairwise (fun a b => kindB a b d = 0)
  | [] => by simp [firstV]
  | a :: r => by
    simp only [firstV, List.pairwise_cons]
    cases hf : r.find? (fun b => kindB a b d != 0) with
    | some b =>
      have h1 := List.find?_some hf
      have h2 := List.mem_of_find?_eq_some hf
      simp only [reduceCtorEq, false_iff]
      intro h
      have := h.1 b h2
      simp [this] at h1
    | none =>
      rw [List.find?_eq_none] at hf
      simp only
      rw [firstV_none d r]
      refine ⟨fun h => ⟨fun b hb => by have := hf b hb; simpa using this, h⟩, fun h => h.2⟩
theorem pairwise_all (d : OD) : ∀ rows : List Row, rows.Pairwise (fun a b => kindB a b d = 0) ↔ ∀ a ∈ rows, ∀ b ∈ rows, kindB a b d = 0
  | [] => by simp
  | a :: r => by
    rw [List.pairwise_cons, pairwise_all d r]
    constructor
    · rintro ⟨h1, h2⟩ x hx y hy
      rcases List.mem_cons.1 hx with e1 | hx'
      · rcases List.mem_cons.1 hy with e2 | hy'
        · rw [e1, e2]; exact kindB_self _ _
        · rw [e1]; exact h1 y hy'
      · rcases List.mem_cons.1 hy with e2 | hy'
        · rw [e2]; exact (kindB_symm _ _ _).1 (h1 x hx')
        · exact h2 x hx' y hy'
    · intro h
      exact ⟨fun b hb => h a (by simp) b (by simp [hb]), fun x hx y hy => h x (by simp [hx]) y (by simp [hy])⟩
theorem ordAll_kind (rows : List Row) (d : OD) : OrdAll rows d.Lhs d.Rhs ↔ ∀ a ∈ rows, ∀ b ∈ rows, kindB a b d = 0 := by
  constructor
  · intro h a ha b hb
    rw [kindB_zero]
    refine ⟨h a ha b hb, fun h0 => ?_⟩
    have := h b hb a ha
    rw [cmpL_neg a b, cmpL_neg a b] at this
    have := this (by omega)
    omega
  · intro h a ha b hb
    exact ((kindB_zero a b d).1 (h a ha b hb)).1
theorem firstV_ord (d : OD) (rows : List Row) : firstV d rows = none ↔ OrdAll rows d.Lhs d.Rhs := by
  rw [firstV_none, pairwise_all, ordAll_kind]
/-- what Holds of the reference answers -/
def holdsR (rows : List Row) (x y : List Int) : Bool := rows.all fun a => rows.all fun b => !(decide (cmpL a b x ≤ 0) && decide (0 < cmpL a b y))
theorem holdsR_iff (rows : List Row) (x y : List Int) : holdsR rows x y = true ↔ OrdAll rows x y := by
  unfold holdsR OrdAll
  simp only [List.all_eq_true, Bool.not_eq_true', Bool.and_eq_false_iff, decide_eq_false_iff_not]
  constructor
  · intro h a ha b hb hc
    rcases h a ha b hb with h | h <;> omega
  · intro h a ha b hb
    have := h a ha b hb
    by_cases h0 : cmpL a b x ≤ 0
    · exact .inr (by have := this h0; omega)
    · exact .inl h0
theorem violation_found (t : Table) (d : OD) (h : odErr t d = 0) : (!(violation t d).2.2.2) = holdsR t.Rows d.Lhs d.Rhs := by
  rw [Bool.eq_iff_iff, holdsR_iff, ← firstV_ord]
  unfold violation
  rw [if_pos h]
  cases hf : firstV d t.Rows with
  | none => simp
  | some ab => obtain ⟨a, b⟩ := ab; simp
theorem Holds_ok (t : Table) (d : OD) (H : TabOk t) (hl : LenD d) (h : odErr t d = 0) : ordering_Holds t d = some (holdsR t.Rows d.Lhs d.Rhs, 0) := by
  rw [Holds_eq t d H hl, if_pos h, violation_found t d h]
end Go.Proofs.Ythgnkhchpjcboaa
/- Ordering: dependencies of descriptions. -/
set_option linter.unusedVariables false
set_option linter.unusedSimpArgs false
namespace Go.Proofs.Ythgnkhchpjcboaa
open Go Go.Ab

theorem listB_of {n : Int} {l : List Int} (h1 : l.length ≤ 8) (h2 : ∀ z ∈ l, 0 ≤ z ∧ z < n) : listB n l = true := by
  simp only [listB, Bool.and_eq_true, decide_eq_true_eq, List.all_eq_true]
  exact ⟨h1, h2⟩
end Go.Proofs.Ythgnkhchpjcboaa
/- Ordering: canonical statements in tables. -/
set_option linter.unusedVariables false
set_option linter.unusedSimpArgs false
namespace Go.Proofs.Ythgnkhchpjcboaa
open Go Go.Ab

/-- a statement is valid for n attributes -/
def stB (n : Nat) (c : Canonical) : Bool := decide (0 ≤ c.A) && (decide (c.A < (n : Int)) && (decide (-1 ≤ c.B) && (decide (c.B < (n : Int)) && (Int.fdiv c.Context (2 ^ (min n 32)) == 0))))
/-- the attributes of a context -/
def ctxL (n : Nat) (s : Int) : List Int := ((List.range n).map fun (k : Nat) => (k : Int)).filter fun a => hasB s a
/-- two rows do not violate a statement -/
def sat1 (c : Canonical) (ctx : List Int) (a b : Row) : Bool :=
  if cmpL a b ctx ≠ 0 then true
  else if c.B < 0 then vcmp (cellV a c.A.toNat) (cellV b c.A.toNat) == 0
  else !(decide (vcmp (cellV a c.A.toNat) (cellV b c.A.toNat) * vcmp (cellV a c.B.toNat) (cellV b c.B.toNat) < 0))
def pairsAll {α : Type} (p : α → α → Bool) : List α → Bool
  | [] => true
  | a :: r => r.all (p a) && pairsAll p r
def satB (t : Table) (c : Canonical) : Bool := pairsAll (sat1 c (ctxL t.Attrs.length c.Context)) t.Rows
theorem ctxL_mem {n : Nat} {s i : Int} (h : i ∈ ctxL n s) : 0 ≤ i ∧ i < (n : Int) := by
  unfold ctxL at h
  obtain ⟨h1, _⟩ := List.mem_filter.1 h
  obtain ⟨k, hk, rfl⟩ := List.mem_map.1 h1
  have := List.mem_range.1 hk
  omega
theorem sat_ctx (t : Table) (c : Canonical) (hn : t.Attrs.length ≤ 16) : LoopF (ordering_Satisfies_l1 t c) ([], 0) = some (ctxL t.Attrs.length c.Context) := by
  have h1 := LoopF_foldl (List.range t.Attrs.length) (fun (o : List Int) i => (o, i)) (ordering_Satisfies_l1 t c) (fun o (k : Nat) => if hasB c.Context k = true then o ++ [(k : Int)] else o) id (fun k o => o.length ≤ k) (b0 := []) (s0 := ([], 0)) rfl (Nat.le_refl 0)
    (fun k o z hz hk hI => by
      have hzk : z = k := by
        have := (List.getElem?_eq_some_iff.1 hz).2
        simpa using this.symm
      subst hzk
      rw [List.length_range] at hk
      have eh : ((IntKind.u32.wrap ((BitVec.ofInt 32 (Int.fdiv c.Context (2 ^ (min ((z : Int)).toNat 32))) &&& (1#32)).toNat : Int)) == 1) = hasB c.Context z := rfl
      refine ⟨?_, ?_⟩
      · simp only [ordering_Satisfies_l1, if_pos (show (z : Int) < (t.Attrs.length : Int) by omega), if_neg (show ¬ (z : Int) < 0 by omega), eh, room_le (show o.length + 1 ≤ 1073741824 by omega) (show 8 ≤ 65536 by omega), if_true, wrap_nat (show z < 4611686018427387904 by omega)]
        by_cases hb : hasB c.Context z = true
        · simp only [if_pos hb]
        · simp only [if_neg hb]
      · split
        · simp; omega
        · omega)
    (fun o _ => by rw [List.length_range]; simp [ordering_Satisfies_l1])
  rw [h1, id]
  congr 1
  have : ∀ (l : List Nat) (o : List Int), l.foldl (fun o (k : Nat) => if hasB c.Context k = true then o ++ [(k : Int)] else o) o = o ++ (l.map fun (k : Nat) => (k : Int)).filter fun a => hasB c.Context a := by
    intro l
    induction l with
    | nil => intro o; simp
    | cons k l ih =>
      intro o
      rw [List.foldl_cons, ih, List.map_cons, List.filter_cons]
      by_cases hb : hasB c.Context k = true
      · rw [if_pos hb, if_pos hb]; simp
      · rw [if_neg hb, if_neg hb]
  rw [this]; rfl
structure SatArgs (t : Table) (c : Canonical) (ctx : List Int) : Prop where
  len : t.Rows.length ≤ 1000
  ctxlen : ctx.length ≤ 1000
  fits : ∀ r ∈ t.Rows, Fits r ctx
  a : 0 ≤ c.A
  fa : ∀ r ∈ t.Rows, c.A < (r.Values.length : Int)
  fb : ∀ r ∈ t.Rows, c.B < (r.Values.length : Int)
theorem cell_idx {r : Row} {i : Int} (h0 : 0 ≤ i) (h1 : i < (r.Values.length : Int)) : idx r.Values i = some (cellV r i.toNat) :=
  fits_idx (a := r) (l := [i]) (fun j hj => by rcases List.mem_singleton.1 hj with rfl; exact ⟨h0, h1⟩) (by simp)
theorem wrap_prod (a b c d : Value) : IntKind.i64.wrap (vcmp a b * vcmp c d) = vcmp a b * vcmp c d := by
  rcases vcmp_range a b with h | h | h <;> rcases vcmp_range c d with k | k | k <;> rw [h, k] <;> rfl
theorem sat_inner (t : Table) (c : Canonical) (ctx : List Int) (H : SatArgs t c ctx) (i : Nat) (a : Row) (hi : t.Rows[i]? = some a) :
    LoopF (ordering_Satisfies_l4 t c ctx i a) 0 = some (if (t.Rows.drop (i + 1)).all (sat1 c ctx a) = true then .inl () else .inr (false, 0)) := by
  have hil := lt_of_get hi
  have hl := H.len
  have ha : a ∈ t.Rows := List.mem_of_getElem? hi
  have step : ∀ (k : Nat) (b : Row), (t.Rows.drop (i + 1))[k]? = some b → ordering_Satisfies_l4 t c ctx i a (k : Int) = if sat1 c ctx a b = true then some (.next ((k + 1 : Nat) : Int)) else some (.done (.inr (false, 0))) := by
    intro k b hx
    have hb : b ∈ t.Rows := List.mem_of_mem_drop (List.mem_of_getElem? hx)
    have hk := lt_of_get hx
    rw [List.length_drop] at hk
    have hcl := H.ctxlen
    simp only [ordering_Satisfies_l4, wrap_nat (show i < 4611686018427387904 by omega), toNat_nat, drop_take, if_pos (lt_true hx), idx_get hx, Option.bind_some, compare_eq a b ctx (H.fits a ha) (H.fits b hb) (by omega), wrap_nat (show k < 4611686018427387904 by omega), cell_idx H.a (H.fa a ha), cell_idx H.a (H.fa b hb), value_Compare_eq]
    unfold sat1
    by_cases h0 : cmpL a b ctx = 0
    · rw [if_neg (show ¬ (cmpL a b ctx != 0) = true by rw [h0]; simp), if_neg (show ¬ cmpL a b ctx ≠ 0 by omega)]
      by_cases hB : c.B < 0
      · simp only [if_pos hB]
        by_cases hv : vcmp (cellV a c.A.toNat) (cellV b c.A.toNat) = 0
        · rw [if_neg (by rw [hv]; simp), if_neg (show ¬ c.B ≥ 0 by omega), if_pos (by rw [hv]; rfl)]
        · rw [if_pos (by simp [hv]), if_neg (by simp [hv])]
      · simp only [if_neg hB, if_pos (show c.B ≥ 0 by omega)]
        simp only [cell_idx (show 0 ≤ c.B by omega) (H.fb a ha), cell_idx (show 0 ≤ c.B by omega) (H.fb b hb), Option.bind_some, value_Compare_eq, wrap_prod]
        by_cases hv : vcmp (cellV a c.A.toNat) (cellV b c.A.toNat) * vcmp (cellV a c.B.toNat) (cellV b c.B.toNat) < 0
        · rw [if_pos hv, if_neg (by simp [hv])]
        · rw [if_neg hv, if_pos (by simp [hv])]
    · rw [if_pos (by simp [h0]), if_pos h0]; rfl
  refine LoopF_all (t.Rows.drop (i + 1)) (ordering_Satisfies_l4 t c ctx i a) (sat1 c ctx a) (false, 0) (fun k b hx hk hp => ?_) (fun k b hx hp => ?_) ?_
  · rw [step k b hx, if_pos hp]
  · rw [step k b hx, if_neg (by rw [hp]; simp)]
  · simp only [ordering_Satisfies_l4, wrap_nat (show i < 4611686018427387904 by omega), toNat_nat, drop_take]
    simp
theorem sat_outer (t : Table) (c : Canonical) (ctx : List Int) (H : SatArgs t c ctx) : ∀ (r : List Row) (k : Nat), t.Rows.drop k = r → k ≤ t.Rows.length →
    LoopF (ordering_Satisfies_l5 t c ctx) (k : Int) = some (if pairsAll (sat1 c ctx) r = true then .inl () else .inr (false, 0))
  | [], k, hd, hk => by
    have : k = t.Rows.length := by have := congrArg List.length hd; simp at this; omega
    subst this
    exact Loop_done (by simp [ordering_Satisfies_l5, pairsAll])
  | a :: r, k, hd, hk => by
    have hx : t.Rows[k]? = some a := by
      have := congrArg (·[0]?) hd
      simpa [List.getElem?_drop] using this
    have hkl := lt_of_get hx
    have hlen := H.len
    have hd' : t.Rows.drop (k + 1) = r := by rw [← List.drop_drop, hd]; rfl
    have hin := sat_inner t c ctx H k a hx
    rw [hd'] at hin
    by_cases hp : r.all (sat1 c ctx a) = true
    · rw [if_pos hp] at hin
      have hstep : ordering_Satisfies_l5 t c ctx (k : Int) = some (.next ((k + 1 : Nat) : Int)) := by
        simp only [ordering_Satisfies_l5, if_pos (lt_true hx), idx_get hx, Option.bind_some, wrap_nat (show k < 4611686018427387904 by omega), if_pos (show (0 : Int) ≤ ((k + 1 : Nat) : Int) by omega), if_pos (show ((k + 1 : Nat) : Int) ≤ (t.Rows.length : Int) by omega), hin]
      have e : pairsAll (sat1 c ctx) (a :: r) = pairsAll (sat1 c ctx) r := by simp only [pairsAll, hp, Bool.true_and]
      rw [Loop_next hstep, sat_outer t c ctx H r (k + 1) hd' hkl, e]
    · rw [if_neg hp] at hin
      have e : pairsAll (sat1 c ctx) (a :: r) = false := by simp only [pairsAll, Bool.eq_false_iff.2 hp, Bool.false_and]
      rw [e, if_neg Bool.false_ne_true]
      refine Loop_done ?_
      simp only [ordering_Satisfies_l5, if_pos (lt_true hx), idx_get hx, Option.bind_some, wrap_nat (show k < 4611686018427387904 by omega), if_pos (show (0 : Int) ≤ ((k + 1 : Nat) : Int) by omega), if_pos (show ((k + 1 : Nat) : Int) ≤ (t.Rows.length : Int) by omega), hin]
theorem stB_eq (n : Nat) (c : Canonical) : ordering_Satisfies_1 (n : Int) c = some (stB n c) := by
  unfold ordering_Satisfies_1 stB
  rw [Int.toNat_natCast]
  by_cases h1 : 0 ≤ c.A
  · rw [if_pos (show c.A ≥ 0 from h1), decide_eq_true h1]
    by_cases h2 : c.A < (n : Int)
    · rw [if_pos h2, decide_eq_true h2]
      by_cases h3 : -1 ≤ c.B
      · rw [if_pos (show c.B ≥ -1 from h3), decide_eq_true h3]
        by_cases h4 : c.B < (n : Int)
        · rw [if_pos h4, decide_eq_true h4, if_neg (show ¬ (n : Int) < 0 by omega)]; simp
        · rw [if_neg h4, decide_eq_false h4]; simp
      · rw [if_neg (show ¬ c.B ≥ -1 from h3), decide_eq_false h3]; simp
    · rw [if_neg h2, decide_eq_false h2]; simp
  · rw [if_neg (show ¬ c.A ≥ 0 from h1), decide_eq_false h1]; simp
theorem stB_facts {n : Nat} {c : Canonical} (h : stB n c = true) : 0 ≤ c.A ∧ c.A < (n : Int) ∧ -1 ≤ c.B ∧ c.B < (n : Int) := by
  simp only [stB, Bool.and_eq_true, decide_eq_true_eq] at h
  exact ⟨h.1, h.2.1, h.2.2.1, h.2.2.2.1⟩
theorem row_len {t : Table} (h : tableErr t = 0) {r : Row} (hr : r ∈ t.Rows) : r.Values.length = t.Attrs.length := ((rowsCode_all _ _ _ (tableErr_z17 h).2.2).1 r hr).1
theorem satArgs {t : Table} {c : Canonical} (h : tableErr t = 0) (hs : stB t.Attrs.length c = true) : SatArgs t c (ctxL t.Attrs.length c.Context) := by
  obtain ⟨h1, h2, h3, h4⟩ := stB_facts hs
  obtain ⟨g1, g2, _⟩ := tableErr_z17 h
  refine ⟨g2, ?_, fun r hr i hi => ?_, h1, fun r hr => ?_, fun r hr => ?_⟩
  · unfold ctxL
    refine Nat.le_trans (List.length_filter_le _ _) ?_
    simp; omega
  · rw [row_len h hr]; exact ctxL_mem hi
  · rw [row_len h hr]; exact h2
  · rw [row_len h hr]; exact h4
theorem Satisfies_eq (t : Table) (c : Canonical) (H : TabOk t) : ordering_Satisfies t c = some (if tableErr t ≠ 0 then (false, tableErr t) else if stB t.Attrs.length c = true then (satB t c, 0) else (false, 1)) := by
  simp only [ordering_Satisfies, ordering_check, table_Valid_table t H, Option.bind_some, stB_eq]
  by_cases h : tableErr t = 0
  · simp only [h, bne_self_eq_false, Bool.false_eq_true, if_false, ne_eq, not_true_eq_false]
    by_cases hs : stB t.Attrs.length c = true
    · have A := satArgs h hs
      have hctx := sat_ctx t c (tableErr_z17 h).1
      have hout := sat_outer t c _ A t.Rows 0 rfl (Nat.zero_le _)
      rw [show ((0 : Nat) : Int) = 0 from rfl] at hout
      simp only [hs, if_true, Bool.not_true, Bool.false_eq_true, if_false, bne_self_eq_false, hctx, hout, Option.bind_some]
      unfold satB
      by_cases hp : pairsAll (sat1 c (ctxL t.Attrs.length c.Context)) t.Rows = true
      · rw [if_pos hp, hp]
      · simp [hp]
    · simp [hs]
  · simp [h]
end Go.Proofs.Ythgnkhchpjcboaa
/- The miner: what it remembers is what holds. -/
set_option linter.unusedVariables false
set_option linter.unusedSimpArgs false
namespace Go.Proofs.Ythgnkhchpjcboaa
open Go Go.Ab

def satVal (t : Table) (c : Canonical) : Bool × Int := if tableErr t ≠ 0 then (false, tableErr t) else if stB t.Attrs.length c = true then (satB t c, 0) else (false, 1)
def satV (t : Table) (c : Canonical) : Bool := (satVal t c).1
def MemoOk (t : Table) (m : List (Canonical × Bool)) : Prop := ∀ c v, mget m c = some v → v = satV t c
theorem memo_nil (t : Table) : MemoOk t [] := fun c v h => by cases h
theorem memo_set {t : Table} {m : List (Canonical × Bool)} (h : MemoOk t m) (c : Canonical) : MemoOk t (mset m c (satV t c)) := by
  intro x v hx
  rw [mget_mset] at hx
  by_cases e : x = c
  · rw [if_pos e] at hx; subst e; exact (Option.some.inj hx).symm
  · rw [if_neg e] at hx; exact h x v hx
/-- asking the memory -/
theorem memo_ask {t : Table} {m : List (Canonical × Bool)} (h : MemoOk t m) (c : Canonical) : ((mget m c).isSome = true ∧ (mget m c).getD false = satV t c) ∨ (¬ (mget m c).isSome = true) := by
  cases hg : mget m c with
  | none => right; simp
  | some v => left; exact ⟨rfl, h c v hg⟩
theorem Satisfies_val (t : Table) (c : Canonical) (H : TabOk t) : ordering_Satisfies t c = some (satVal t c) := Satisfies_eq t c H
/-- is there a smaller context -/
def lowA (p : Nat → Bool) (rest : Nat) : Bool := (List.range 32).any fun i => rest.testBit i && p i
theorem lowA_zero (p : Nat → Bool) : lowA p 0 = false := by
  unfold lowA
  rw [List.any_eq_false]
  intro i _
  simp
/-- the loop over the members of a context -/
theorem low_loop {t : Table} (p : Nat → Bool) (B : List (Canonical × Bool) × Int → Option (LS (List (Canonical × Bool) × Int) (List (Canonical × Bool) ⊕ List (Canonical × Bool))))
    (h0 : ∀ m, B (m, 0) = some (.done (.inl m)))
    (hB : ∀ m (n k : Nat), MemoOk t m → n ≠ 0 → n < 4294967296 → k < 32 → n &&& (4294967296 - n) = 2 ^ k → ∃ m', MemoOk t m' ∧ B (m, (n : Int)) = some (if p k = true then .done (.inr m') else .next (m', ((n &&& (n - 1) : Nat) : Int)))) :
    ∀ (n : Nat), n < 4294967296 → ∀ m, MemoOk t m → ∃ m', MemoOk t m' ∧ LoopF B (m, (n : Int)) = some (if lowA p n = true then .inr m' else .inl m') := by
  intro n
  induction n using Nat.strongRecOn with
  | ind n ih =>
    intro hn m hm
    by_cases hz : n = 0
    · subst hz
      exact ⟨m, hm, by rw [lowA_zero]; exact Loop_done (h0 m)⟩
    · obtain ⟨k, hk, hbit, hlow, hbits, hlt⟩ := low_bit hz hn
      obtain ⟨m', hm', hstep⟩ := hB m n k hm hz hn hk hlow
      have hany : lowA p n = (p k || lowA p (n &&& (n - 1))) := ndiff_low hbit hbits p hn
      cases hp : p k with
      | true =>
        rw [if_pos hp] at hstep
        refine ⟨m', hm', ?_⟩
        rw [hany, hp, Bool.true_or, if_pos rfl]
        exact Loop_done hstep
      | false =>
        rw [if_neg (by rw [hp]; simp)] at hstep
        obtain ⟨m2, hm2, hl⟩ := ih (n &&& (n - 1)) hlt (by omega) m' hm'
        refine ⟨m2, hm2, ?_⟩
        rw [hany, hp, Bool.false_or, Loop_next hstep]
        exact hl
/-- a loop that remembers and collects -/
theorem memo_loop {t : Table} {α γ τ : Type} (l : List α) (S : List (Canonical × Bool) → List γ → Int → List (Canonical × Bool) × List γ × Int) (hS : S = fun m o i => (m, o, i)) (B : List (Canonical × Bool) × List γ × Int → Option (LS (List (Canonical × Bool) × List γ × Int) τ)) (f : α → List γ) (fin : List (Canonical × Bool) → List γ → τ) (c0 c : Nat)
    (hB : ∀ (k : Nat) x m out, l[k]? = some x → MemoOk t m → out.length ≤ c0 + k * c → ∃ m', MemoOk t m' ∧ B (m, out, (k : Int)) = some (.next (m', out ++ f x, ((k + 1 : Nat) : Int))) ∧ (f x).length ≤ c)
    (hE : ∀ m out, MemoOk t m → B (m, out, (l.length : Int)) = some (.done (fin m out))) :
    ∀ (r : List α) (k : Nat) m out, l.drop k = r → k ≤ l.length → MemoOk t m → out.length ≤ c0 + k * c → ∃ m', MemoOk t m' ∧ LoopF B (m, out, (k : Int)) = some (fin m' (out ++ r.flatMap f)) := by
  intro r
  induction r with
  | nil =>
    intro k m out hd hk hm ho
    have : k = l.length := by have := congrArg List.length hd; simp at this; omega
    subst this
    exact ⟨m, hm, by rw [Loop_done (hE m out hm)]; simp⟩
  | cons x r ih =>
    intro k m out hd hk hm ho
    have hx : l[k]? = some x := by
      have := congrArg (·[0]?) hd
      simpa [List.getElem?_drop] using this
    have hd' : l.drop (k + 1) = r := by rw [← List.drop_drop, hd]; rfl
    obtain ⟨m', hm', hstep, hlen⟩ := hB k x m out hx hm ho
    obtain ⟨m2, hm2, hl⟩ := ih (k + 1) m' (out ++ f x) hd' (lt_of_get hx) hm' (by rw [List.length_append, Nat.add_mul]; omega)
    exact ⟨m2, hm2, by rw [Loop_next hstep, hl]; simp⟩

/-- no smaller context will do, and this one does -/
def leastB (t : Table) (s : Nat) (a b : Int) : Bool := satV t ⟨s, a, b⟩ && !lowA (fun i => satV t ⟨(ndiff s (2 ^ i) : Nat), a, b⟩) s
theorem ask_step {t : Table} (H : TabOk t) {m : List (Canonical × Bool)} (hm : MemoOk t m) (s n k : Nat) (hs : s < 4294967296) (hz : n ≠ 0) (hn : n < 4294967296) (hk : k < 32) (hlow : n &&& (4294967296 - n) = 2 ^ k) :
    IntKind.u32.wrap ((BitVec.ofInt 32 (s : Int) &&& ~~~ (BitVec.ofInt 32 (IntKind.u32.wrap ((BitVec.ofInt 32 (n : Int) &&& (BitVec.ofInt 32 (IntKind.u32.wrap (0 - (n : Int))))).toNat : Int)))).toNat : Int) = ((ndiff s (2 ^ k) : Nat) : Int) ∧
    IntKind.u32.wrap ((BitVec.ofInt 32 (n : Int) &&& (BitVec.ofInt 32 (IntKind.u32.wrap ((n : Int) - 1)))).toNat : Int) = ((n &&& (n - 1) : Nat) : Int) := by
  rw [w32_neg hz hn, w32_and hn (by omega), hlow, w32_diff hs (pow_lt hk), show IntKind.u32.wrap ((n : Int) - 1) = ((n - 1 : Nat) : Int) by rw [wrap_u32 (by omega) (by omega)]; omega, w32_and hn (by omega)]
  exact ⟨rfl, rfl⟩
theorem ne_zero_i {n : Nat} (h : n ≠ 0) : ((n : Int) != 0) = true := by simp; omega
theorem low158 {t : Table} (H : TabOk t) (s : Nat) (hs : s < 4294967296) (a : Int) : ∀ m, MemoOk t m → ∃ m', MemoOk t m' ∧ LoopF (odmine_All_l158 t (s : Int) a) (m, (s : Int)) = some (if lowA (fun i => satV t ⟨(ndiff s (2 ^ i) : Nat), a, -1⟩) s = true then .inr m' else .inl m') := by
  refine low_loop (fun i => satV t ⟨(ndiff s (2 ^ i) : Nat), a, -1⟩) _ (fun m => by simp [odmine_All_l158]) (fun m n k hm hz hn hk hlow => ?_) s hs
  obtain ⟨e1, e2⟩ := ask_step H hm s n k hs hz hn hk hlow
  simp only [odmine_All_l158, if_pos (ne_zero_i hz), e1, e2]
  rcases memo_ask hm (⟨(ndiff s (2 ^ k) : Nat), a, -1⟩ : Canonical) with ⟨h1, h2⟩ | h1
  · refine ⟨m, hm, ?_⟩
    simp only [if_pos h1, h2]
    cases satV t ⟨(ndiff s (2 ^ k) : Nat), a, -1⟩ <;> rfl
  · refine ⟨_, memo_set hm (⟨((ndiff s (2 ^ k) : Nat) : Int), a, -1⟩ : Canonical), ?_⟩
    simp only [if_neg h1, Satisfies_val t _ H, Option.bind_some]
    unfold satV
    cases (satVal t ⟨(ndiff s (2 ^ k) : Nat), a, -1⟩).1 <;> rfl
theorem low159 {t : Table} (H : TabOk t) (s : Nat) (hs : s < 4294967296) (a : Int) : ∀ m, MemoOk t m → ∃ m', MemoOk t m' ∧ LoopF (odmine_All_l159 t (s : Int) a) (m, (s : Int)) = some (if lowA (fun i => satV t ⟨(ndiff s (2 ^ i) : Nat), a, -1⟩) s = true then .inr m' else .inl m') := low158 H s hs a
theorem low198 {t : Table} (H : TabOk t) (s : Nat) (hs : s < 4294967296) (a b : Int) : ∀ m, MemoOk t m → ∃ m', MemoOk t m' ∧ LoopF (odmine_All_l198 t (s : Int) a b) (m, (s : Int)) = some (if lowA (fun i => satV t ⟨(ndiff s (2 ^ i) : Nat), a, b⟩) s = true then .inr m' else .inl m') := by
  refine low_loop (fun i => satV t ⟨(ndiff s (2 ^ i) : Nat), a, b⟩) _ (fun m => by simp [odmine_All_l198]) (fun m n k hm hz hn hk hlow => ?_) s hs
  obtain ⟨e1, e2⟩ := ask_step H hm s n k hs hz hn hk hlow
  simp only [odmine_All_l198, if_pos (ne_zero_i hz), e1, e2]
  rcases memo_ask hm (⟨(ndiff s (2 ^ k) : Nat), a, b⟩ : Canonical) with ⟨h1, h2⟩ | h1
  · refine ⟨m, hm, ?_⟩
    simp only [if_pos h1, h2]
    cases satV t ⟨(ndiff s (2 ^ k) : Nat), a, b⟩ <;> rfl
  · refine ⟨_, memo_set hm (⟨((ndiff s (2 ^ k) : Nat) : Int), a, b⟩ : Canonical), ?_⟩
    simp only [if_neg h1, Satisfies_val t _ H, Option.bind_some]
    unfold satV
    cases (satVal t ⟨(ndiff s (2 ^ k) : Nat), a, b⟩).1 <;> rfl
theorem low199 {t : Table} (H : TabOk t) (s : Nat) (hs : s < 4294967296) (a b : Int) : ∀ m, MemoOk t m → ∃ m', MemoOk t m' ∧ LoopF (odmine_All_l199 t (s : Int) a b) (m, (s : Int)) = some (if lowA (fun i => satV t ⟨(ndiff s (2 ^ i) : Nat), a, b⟩) s = true then .inr m' else .inl m') := low198 H s hs a b
/-- the statements about constants of a context -/
def constF (t : Table) (s : Nat) (k : Nat) : List Canonical := if !s.testBit k && leastB t s k (-1) then [⟨s, k, -1⟩] else []
theorem bit_zero {s k : Nat} (hs : s < 4294967296) (hk : k ≤ 32) : ((IntKind.u32.wrap ((BitVec.ofInt 32 (Int.fdiv (s : Int) (2 ^ (min ((k : Int)).toNat 32))) &&& (1#32)).toNat : Int)) == 0) = !s.testBit k := by
  have h := w32_bit hs hk
  rw [Int.toNat_natCast]
  rw [Nat.min_eq_left hk, fdiv_pow, w32_and1 (Nat.lt_of_le_of_lt (Nat.div_le_self _ _) hs)] at h ⊢
  rw [← h]
  rw [Bool.eq_iff_iff, Bool.not_eq_true', beq_iff_eq, beq_eq_false_iff_ne]
  omega
theorem least_false {t : Table} {s : Nat} {a b : Int} (h : satV t ⟨s, a, b⟩ = false) : leastB t s a b = false := by unfold leastB; rw [h]; rfl
theorem const_loop {t : Table} (H : TabOk t) (hn : t.Attrs.length ≤ 16) (s : Nat) (hs : s < 4294967296) (m : List (Canonical × Bool)) (hm : MemoOk t m) :
    ∃ m', MemoOk t m' ∧ LoopF (odmine_All_l160 t (s : Int)) (m, [], 0) = some ((List.range t.Attrs.length).flatMap (constF t s), m') := by
  have key := memo_loop (t := t) (List.range t.Attrs.length) (fun m o i => (m, o, i)) rfl (odmine_All_l160 t (s : Int)) (constF t s) (fun m o => (o, m)) 0 1
    (fun k x m out hx hm ho => by
      have hxk : x = k := by
        have := (List.getElem?_eq_some_iff.1 hx).2
        simpa using this.symm
      subst hxk
      have hk := lt_of_get hx
      rw [List.length_range] at hk
      have hlen : (constF t s x).length ≤ 1 := by unfold constF; split <;> simp
      have hroom : roomB (out.length + 1) 24 = true := room_le (by omega) (by omega)
      have hw := wrap_nat (show x < 4611686018427387904 by omega)
      have hcond : ((x : Int) < (t.Attrs.length : Int)) := by omega
      have hnn : ¬ ((x : Int) < 0) := by omega
      simp only [odmine_All_l160, if_pos hcond, if_neg hnn, bit_zero hs (show x ≤ 32 by omega), hroom, if_true, hw]
      cases hb : s.testBit x with
      | true =>
        refine ⟨m, hm, ?_, hlen⟩
        have e : constF t s x = [] := by unfold constF; rw [hb]; rfl
        rw [e]; simp
      | false =>
        simp only [Bool.not_false, if_true]
        rcases memo_ask hm (⟨s, x, -1⟩ : Canonical) with ⟨h1, h2⟩ | h1
        · simp only [if_pos h1, h2]
          cases hv : satV t ⟨s, x, -1⟩ with
          | false =>
            refine ⟨m, hm, ?_, hlen⟩
            have e : constF t s x = [] := by unfold constF; rw [least_false hv]; simp
            rw [e]; simp
          | true =>
            obtain ⟨m', hm', hl⟩ := low158 H s hs x m hm
            refine ⟨m', hm', ?_, hlen⟩
            simp only [if_true, hl, Option.bind_some]
            cases hlow : lowA (fun i => satV t ⟨(ndiff s (2 ^ i) : Nat), x, -1⟩) s with
            | true =>
              have e : constF t s x = [] := by unfold constF leastB; rw [hlow]; simp
              rw [e]; simp
            | false =>
              have e : constF t s x = [⟨s, x, -1⟩] := by unfold constF leastB; rw [hlow, hb, hv]; rfl
              rw [e]; simp
        · have hm2 := memo_set hm (⟨s, x, -1⟩ : Canonical)
          simp only [if_neg h1, Satisfies_val t _ H, Option.bind_some]
          have hvv : (satVal t ⟨s, x, -1⟩).1 = satV t ⟨s, x, -1⟩ := rfl
          rw [hvv]
          cases hv : satV t ⟨s, x, -1⟩ with
          | false =>
            rw [hv] at hm2
            refine ⟨_, hm2, ?_, hlen⟩
            have e : constF t s x = [] := by unfold constF; rw [least_false hv]; simp
            rw [e]; simp
          | true =>
            rw [hv] at hm2
            obtain ⟨m', hm', hl⟩ := low159 H s hs x _ hm2
            refine ⟨m', hm', ?_, hlen⟩
            simp only [if_true, hl, Option.bind_some]
            cases hlow : lowA (fun i => satV t ⟨(ndiff s (2 ^ i) : Nat), x, -1⟩) s with
            | true =>
              have e : constF t s x = [] := by unfold constF leastB; rw [hlow]; simp
              rw [e]; simp
            | false =>
              have e : constF t s x = [⟨s, x, -1⟩] := by unfold constF leastB; rw [hlow, hb, hv]; rfl
              rw [e]; simp)
    (fun m out hm => by rw [List.length_range]; simp [odmine_All_l160])
  obtain ⟨m', h1, h2⟩ := key (List.range t.Attrs.length) 0 m [] rfl (Nat.zero_le _) hm (by simp)
  exact ⟨m', h1, by rw [show ((0 : Nat) : Int) = 0 from rfl] at h2; rw [h2]; simp⟩
/-- the attributes that are not constant -/
def freeL (t : Table) (s : Nat) : List Int := (List.range t.Attrs.length).flatMap fun (k : Nat) => if !s.testBit k && !satV t ⟨s, k, -1⟩ then [(k : Int)] else []
theorem free_loop {t : Table} (H : TabOk t) (hn : t.Attrs.length ≤ 16) (s : Nat) (hs : s < 4294967296) (m : List (Canonical × Bool)) (hm : MemoOk t m) :
    ∃ m', MemoOk t m' ∧ LoopF (odmine_All_l161 t (s : Int)) (m, [], 0) = some (m', freeL t s) := by
  have key := memo_loop (t := t) (List.range t.Attrs.length) (fun m o i => (m, o, i)) rfl (odmine_All_l161 t (s : Int)) (fun (k : Nat) => if !s.testBit k && !satV t ⟨s, k, -1⟩ then [(k : Int)] else []) (fun m o => (m, o)) 0 1
    (fun k x m out hx hm ho => by
      have hxk : x = k := by
        have := (List.getElem?_eq_some_iff.1 hx).2
        simpa using this.symm
      subst hxk
      have hk := lt_of_get hx
      rw [List.length_range] at hk
      have hlen : (if !s.testBit x && !satV t ⟨s, x, -1⟩ then [(x : Int)] else []).length ≤ 1 := by split <;> simp
      have hroom : roomB (out.length + 1) 8 = true := room_le (by omega) (by omega)
      have hw := wrap_nat (show x < 4611686018427387904 by omega)
      have hcond : ((x : Int) < (t.Attrs.length : Int)) := by omega
      have hnn : ¬ ((x : Int) < 0) := by omega
      simp only [odmine_All_l161, if_pos hcond, if_neg hnn, bit_zero hs (show x ≤ 32 by omega), hroom, if_true, hw]
      cases hb : s.testBit x with
      | true => exact ⟨m, hm, by simp, by simp⟩
      | false =>
        simp only [Bool.not_false, if_true, Bool.true_and]
        rcases memo_ask hm (⟨s, x, -1⟩ : Canonical) with ⟨h1, h2⟩ | h1
        · refine ⟨m, hm, ?_, by split <;> simp⟩
          simp only [if_pos h1, h2]
          cases satV t ⟨s, x, -1⟩ <;> simp
        · refine ⟨_, memo_set hm (⟨s, x, -1⟩ : Canonical), ?_, by split <;> simp⟩
          simp only [if_neg h1, Satisfies_val t _ H, Option.bind_some]
          have hvv : (satVal t ⟨s, x, -1⟩).1 = satV t ⟨s, x, -1⟩ := rfl
          rw [hvv]
          cases satV t ⟨s, x, -1⟩ <;> simp)
    (fun m out hm => by rw [List.length_range]; simp [odmine_All_l161])
  obtain ⟨m', h1, h2⟩ := key (List.range t.Attrs.length) 0 m [] rfl (Nat.zero_le _) hm (by simp)
  exact ⟨m', h1, by rw [show ((0 : Nat) : Int) = 0 from rfl] at h2; rw [h2]; simp [freeL]⟩
end Go.Proofs.Ythgnkhchpjcboaa
/- The miner: all statements. -/
set_option linter.unusedVariables false
set_option linter.unusedSimpArgs false
namespace Go.Proofs.Ythgnkhchpjcboaa
open Go Go.Ab
def pairF (t : Table) (s : Nat) (a b : Int) : List Canonical := if leastB t s a b then [⟨s, a, b⟩] else []
theorem pairF_len (t : Table) (s : Nat) (a b : Int) : (pairF t s a b).length ≤ 1 := by unfold pairF; split <;> simp
theorem pair_inner {t : Table} (H : TabOk t) (s : Nat) (hs : s < 4294967296) (free : List Int) (hf : free.length ≤ 16) (i : Nat) (hi : i < free.length) (a : Int) (m : List (Canonical × Bool)) (hm : MemoOk t m) (out : List Canonical) (ho : out.length ≤ 1000) :
    ∃ m', MemoOk t m' ∧ LoopF (odmine_All_l200 t (s : Int) free (i : Int) a) (m, out, 0) = some (m', out ++ (free.drop (i + 1)).flatMap (pairF t s a)) := by
  have hwi := wrap_nat (show i < 4611686018427387904 by omega)
  have hlen : (free.drop (i + 1)).length = free.length - (i + 1) := List.length_drop
  have key := memo_loop (t := t) (free.drop (i + 1)) (fun m o i => (m, o, i)) rfl (odmine_All_l200 t (s : Int) free (i : Int) a) (pairF t s a) (fun m o => (m, o)) 1000 1
    (fun k b m out hx hm ho => by
      have hk := lt_of_get hx
      rw [hlen] at hk
      have hroom : roomB (out.length + 1) 24 = true := room_le (by omega) (by omega)
      have hw := wrap_nat (show k < 4611686018427387904 by omega)
      have hcond : ((k : Int) < (((free.length - (i + 1)) : Nat) : Int)) := by omega
      simp only [odmine_All_l200, hwi, toNat_nat, drop_take, if_pos hcond, idx_get hx, Option.bind_some, hroom, if_true, hw]
      rcases memo_ask hm (⟨s, a, b⟩ : Canonical) with ⟨h1, h2⟩ | h1
      · simp only [if_pos h1, h2]
        cases hv : satV t ⟨s, a, b⟩ with
        | false =>
          refine ⟨m, hm, ?_, pairF_len t s a b⟩
          have e : pairF t s a b = [] := by unfold pairF; rw [least_false hv]; simp
          rw [e]; simp
        | true =>
          obtain ⟨m', hm', hl⟩ := low198 H s hs a b m hm
          refine ⟨m', hm', ?_, pairF_len t s a b⟩
          simp only [if_true, hl, Option.bind_some]
          cases hlow : lowA (fun i => satV t ⟨(ndiff s (2 ^ i) : Nat), a, b⟩) s with
          | true =>
            have e : pairF t s a b = [] := by unfold pairF leastB; rw [hlow]; simp
            rw [e]; simp
          | false =>
            have e : pairF t s a b = [⟨s, a, b⟩] := by unfold pairF leastB; rw [hlow, hv]; rfl
            rw [e]; simp
      · have hm2 := memo_set hm (⟨s, a, b⟩ : Canonical)
        simp only [if_neg h1, Satisfies_val t _ H, Option.bind_some]
        have hvv : (satVal t ⟨s, a, b⟩).1 = satV t ⟨s, a, b⟩ := rfl
        rw [hvv]
        cases hv : satV t ⟨s, a, b⟩ with
        | false =>
          rw [hv] at hm2
          refine ⟨_, hm2, ?_, pairF_len t s a b⟩
          have e : pairF t s a b = [] := by unfold pairF; rw [least_false hv]; simp
          rw [e]; simp
        | true =>
          rw [hv] at hm2
          obtain ⟨m', hm', hl⟩ := low199 H s hs a b _ hm2
          refine ⟨m', hm', ?_, pairF_len t s a b⟩
          simp only [if_true, hl, Option.bind_some]
          cases hlow : lowA (fun i => satV t ⟨(ndiff s (2 ^ i) : Nat), a, b⟩) s with
          | true =>
            have e : pairF t s a b = [] := by unfold pairF leastB; rw [hlow]; simp
            rw [e]; simp
          | false =>
            have e : pairF t s a b = [⟨s, a, b⟩] := by unfold pairF leastB; rw [hlow, hv]; rfl
            rw [e]; simp)
    (fun m out hm => by
      rw [hlen]
      simp only [odmine_All_l200, hwi, toNat_nat]
      rw [if_neg (by omega)])
  obtain ⟨m', h1, h2⟩ := key (free.drop (i + 1)) 0 m out rfl (Nat.zero_le _) hm (by omega)
  exact ⟨m', h1, h2⟩
/-- the pairs of a context -/
def pairsAt (t : Table) (s : Nat) (free : List Int) (i : Nat) : List Canonical := match free[i]? with
  | some a => (free.drop (i + 1)).flatMap (pairF t s a)
  | none => []
theorem flat_pair_len (t : Table) (s : Nat) (a : Int) : ∀ l : List Int, (l.flatMap (pairF t s a)).length ≤ l.length
  | [] => by simp
  | b :: l => by
    rw [List.flatMap_cons, List.length_append, List.length_cons]
    have := flat_pair_len t s a l
    have := pairF_len t s a b
    omega
theorem pairsAt_len (t : Table) (s : Nat) (free : List Int) (i : Nat) : (pairsAt t s free i).length ≤ free.length := by
  unfold pairsAt
  split
  · exact Nat.le_trans (flat_pair_len t s _ _) (by rw [List.length_drop]; omega)
  · simp
theorem pair_outer {t : Table} (H : TabOk t) (s : Nat) (hs : s < 4294967296) (free : List Int) (hf : free.length ≤ 16) (m : List (Canonical × Bool)) (hm : MemoOk t m) :
    ∃ m', MemoOk t m' ∧ LoopF (odmine_All_l201 t (s : Int) free) (m, [], 0) = some ((List.range free.length).flatMap (pairsAt t s free), m') := by
  have key := memo_loop (t := t) (List.range free.length) (fun m o i => (m, o, i)) rfl (odmine_All_l201 t (s : Int) free) (pairsAt t s free) (fun m o => (o, m)) 0 16
    (fun k x m out hx hm ho => by
      have hxk : x = k := by
        have := (List.getElem?_eq_some_iff.1 hx).2
        simpa using this.symm
      subst hxk
      have hk := lt_of_get hx
      rw [List.length_range] at hk
      have hg : free[x]? = some free[x] := List.getElem?_eq_getElem hk
      have hw := wrap_nat (show x < 4611686018427387904 by omega)
      obtain ⟨m', hm', hl⟩ := pair_inner H s hs free hf x hk free[x] m hm out (by omega)
      refine ⟨m', hm', ?_, Nat.le_trans (pairsAt_len t s free x) hf⟩
      have e : pairsAt t s free x = (free.drop (x + 1)).flatMap (pairF t s free[x]) := by unfold pairsAt; rw [hg]
      simp only [odmine_All_l201]
      rw [if_pos (show (x : Int) < ((free.length : Nat) : Int) by omega), idx_get hg]
      simp only [Option.bind_some, hw]
      rw [if_pos (show (0 : Int) ≤ ((x + 1 : Nat) : Int) by omega), if_pos (show ((x + 1 : Nat) : Int) ≤ ((free.length : Nat) : Int) by omega), hl, e]
      rfl)
    (fun m out hm => by rw [List.length_range]; simp [odmine_All_l201])
  obtain ⟨m', h1, h2⟩ := key (List.range free.length) 0 m [] rfl (Nat.zero_le _) hm (by simp)
  exact ⟨m', h1, by rw [show ((0 : Nat) : Int) = 0 from rfl] at h2; rw [h2]; simp⟩
theorem flat_len {α β : Type} (f : α → List β) (c : Nat) (h : ∀ x, (f x).length ≤ c) : ∀ l : List α, (l.flatMap f).length ≤ l.length * c
  | [] => by simp
  | x :: l => by
    rw [List.flatMap_cons, List.length_append, List.length_cons, Nat.add_mul]
    have := flat_len f c h l
    have := h x
    omega
theorem freeL_len (t : Table) (s : Nat) : (freeL t s).length ≤ t.Attrs.length := by
  have := flat_len (fun (k : Nat) => if !s.testBit k && !satV t ⟨s, k, -1⟩ then [(k : Int)] else []) 1 (fun x => by split <;> simp) (List.range t.Attrs.length)
  rw [List.length_range, Nat.mul_one] at this
  exact this
def constsB (t : Table) (s : Nat) : List Canonical := (List.range t.Attrs.length).flatMap (constF t s)
def pairsB (t : Table) (s : Nat) : List Canonical := (List.range (freeL t s).length).flatMap (pairsAt t s (freeL t s))
def ctxB (t : Table) (s : Nat) : List Canonical := constsB t s ++ pairsB t s
theorem constsB_len (t : Table) (s : Nat) : (constsB t s).length ≤ t.Attrs.length := by
  have := flat_len (constF t s) 1 (fun x => by unfold constF; split <;> simp) (List.range t.Attrs.length)
  rw [List.length_range, Nat.mul_one] at this
  exact this
theorem pairsB_len (t : Table) (s : Nat) (h : t.Attrs.length ≤ 16) : (pairsB t s).length ≤ 256 := by
  have hf := freeL_len t s
  have h1 := flat_len (pairsAt t s (freeL t s)) 16 (fun x => Nat.le_trans (pairsAt_len t s _ x) (by omega)) (List.range (freeL t s).length)
  rw [List.length_range] at h1
  unfold pairsB
  omega
theorem all_loop {t : Table} (H : TabOk t) (hn : t.Attrs.length ≤ 16) (cs : List Nat) (hc : ∀ s ∈ cs, s < 4294967296) (hl : cs.length ≤ 100000) :
    ∃ m', MemoOk t m' ∧ LoopF (odmine_All_l202 t (cs.map fun (k : Nat) => (k : Int))) ([], [], 0) = some (cs.flatMap (ctxB t)) := by
  have key := memo_loop (t := t) cs (fun m o i => (m, o, i)) rfl (odmine_All_l202 t (cs.map fun (k : Nat) => (k : Int))) (ctxB t) (fun m o => o) 0 300
    (fun k s m out hx hm ho => by
      have hk := lt_of_get hx
      have hs := hc s (List.mem_of_getElem? hx)
      have hx' : (cs.map fun (k : Nat) => (k : Int))[k]? = some (s : Int) := by rw [List.getElem?_map, hx]; rfl
      have hw := wrap_nat (show k < 4611686018427387904 by omega)
      obtain ⟨m1, hm1, e1⟩ := const_loop H hn s hs m hm
      obtain ⟨m2, hm2, e2⟩ := free_loop H hn s hs m1 hm1
      have hfl := freeL_len t s
      obtain ⟨m3, hm3, e3⟩ := pair_outer H s hs (freeL t s) (by omega) m2 hm2
      have l1 := constsB_len t s
      have l2 := pairsB_len t s hn
      refine ⟨m3, hm3, ?_, by unfold ctxB; rw [List.length_append]; omega⟩
      have r1 : roomB (out.length + (constsB t s).length) 24 = true := room_le (by omega) (by omega)
      have r2 : roomB ((out.length + (constsB t s).length) + (pairsB t s).length) 24 = true := room_le (by omega) (by omega)
      change LoopF (odmine_All_l160 t (s : Int)) (m, [], 0) = some (constsB t s, m1) at e1
      change LoopF (odmine_All_l201 t (s : Int) (freeL t s)) (m2, [], 0) = some (pairsB t s, m3) at e3
      simp only [odmine_All_l202, if_pos (lt_true hx'), idx_get hx', Option.bind_some, e1, e2, e3, r1, r2, if_true, hw]
      unfold ctxB
      rw [List.append_assoc])
    (fun m out hm => by
      have : ((cs.map fun (k : Nat) => (k : Int)).length : Int) = (cs.length : Int) := by rw [List.length_map]
      simp only [odmine_All_l202]
      rw [if_neg (by omega)])
  obtain ⟨m', h1, h2⟩ := key cs 0 [] [] rfl (Nat.zero_le _) (memo_nil t) (by simp)
  exact ⟨m', h1, by rw [show ((0 : Nat) : Int) = 0 from rfl] at h2; rw [h2]; simp⟩
/-- the error of a table -/
def mineErr (t : Table) : Int := if tableErr t ≠ 0 then tableErr t else if t.Attrs.length > 6 then 3 else if t.Rows.length > 200 then 3 else 0
theorem check31_eq (t : Table) (H : TabOk t) : odmine_check t = some (mineErr t) := by
  simp only [odmine_check, table_Valid_table t H, Option.bind_some, mineErr]
  by_cases h : tableErr t = 0
  · simp only [h, bne_self_eq_false, Bool.false_eq_true, if_false, ne_eq, not_true_eq_false]
    by_cases h1 : t.Attrs.length > 6
    · rw [if_pos h1, if_pos (by omega)]
    · rw [if_neg h1, if_neg (by omega)]
      by_cases h2 : t.Rows.length > 200
      · rw [if_pos h2, if_pos (by omega)]
      · rw [if_neg h2, if_neg (by omega)]
  · simp [h]
theorem mineErr_zero {t : Table} (h : mineErr t = 0) : tableErr t = 0 ∧ t.Attrs.length ≤ 6 ∧ t.Rows.length ≤ 200 := by
  unfold mineErr at h
  by_cases h0 : tableErr t ≠ 0
  · rw [if_pos h0] at h; exact absurd h h0
  · rw [if_neg h0] at h
    by_cases h1 : t.Attrs.length > 6
    · rw [if_pos h1] at h; cases h
    · rw [if_neg h1] at h
      by_cases h2 : t.Rows.length > 200
      · rw [if_pos h2] at h; cases h
      · exact ⟨by omega, by omega, by omega⟩
/-- all minimal statements -/
def allB (t : Table) : List Canonical := (ordL t.Attrs.length).flatMap (ctxB t)
theorem All_eq (t : Table) (H : TabOk t) : odmine_All t = some (if mineErr t = 0 then (allB t, 0) else ([], mineErr t)) := by
  simp only [odmine_All, check31_eq t H, Option.bind_some]
  by_cases h : mineErr t = 0
  · obtain ⟨h1, h2, h3⟩ := mineErr_zero h
    have h64 := pow6 h2
    have hpos : 0 < 2 ^ t.Attrs.length := Nat.pow_pos (by omega)
    have e : IntKind.u32.wrap ((IntKind.u32.wrap (1 * 2 ^ (min ((t.Attrs.length : Int)).toNat 32))) - 1) = ((2 ^ t.Attrs.length - 1 : Nat) : Int) := by
      rw [Int.toNat_natCast, w32_shl1 (by omega)]
      generalize 2 ^ t.Attrs.length = p at h64 hpos ⊢
      rw [wrap_u32 (by omega) (by omega)]; omega
    obtain ⟨m', _, hl⟩ := all_loop H (by omega) (ordL t.Attrs.length) (fun s hs => by have := (ordL_mem h2 s).1 hs; omega) (by rw [(ordL_perm h2).length_eq, List.length_range]; omega)
    rw [if_pos h]
    simp only [h, bne_self_eq_false, Bool.false_eq_true, if_false]
    rw [if_neg (by omega), e, Subsets_full h2]
    simp only [Option.bind_some]
    change LoopF (odmine_All_l202 t (ordI t.Attrs.length)) ([], [], 0) = _ at hl
    rw [hl]; rfl
  · simp [h]
end Go.Proofs.Ythgnkhchpjcboaa
/- The miner: keys; what follows from statements; the chapter's examples. -/
set_option linter.unusedVariables false
set_option linter.unusedSimpArgs false
namespace Go.Proofs.Ythgnkhchpjcboaa
open Go Go.Ab
theorem foldl_and' {α : Type} (p : α → Bool) : ∀ (l : List α) (b : Bool), l.foldl (fun b x => b && p x) b = (b && l.all p)
  | [], b => by simp
  | x :: l, b => by rw [List.foldl_cons, foldl_and' p l, List.all_cons, Bool.and_assoc]
theorem foldl_keep {α β : Type} (p : α → Bool) (f : α → β) : ∀ (l : List α) (o : List β), l.foldl (fun o x => if p x then o ++ [f x] else o) o = o ++ (l.filter p).map f
  | [], o => by simp
  | x :: l, o => by
    rw [List.foldl_cons, foldl_keep p f l, List.filter_cons]
    by_cases h : p x = true
    · rw [if_pos h, if_pos h]; simp
    · rw [if_neg h, if_neg h]
theorem ord1_valid {n a b : Nat} (ha : a < n) (hb : b < n) : validB (n : Int) ⟨[(a : Int)], [(b : Int)]⟩ = true := by
  simp only [validB, Bool.and_eq_true]
  exact ⟨listB_of (by simp) (fun z hz => by rcases List.mem_singleton.1 hz with rfl; omega), listB_of (by simp) (fun z hz => by rcases List.mem_singleton.1 hz with rfl; omega)⟩
/-- does an attribute order all others -/
def keyA (t : Table) (a : Nat) : Bool := (List.range t.Attrs.length).all fun b => holdsR t.Rows [(a : Int)] [(b : Int)]
def keysB (t : Table) : List Int := ((List.range t.Attrs.length).filter (keyA t)).map fun (k : Nat) => (k : Int)
theorem keys_inner (t : Table) (H : TabOk t) (h : tableErr t = 0) (a : Nat) (ha : a < t.Attrs.length) (hn : t.Attrs.length ≤ 16) : LoopF (odmine_Keys_l3 t (a : Int)) (true, 0) = some (keyA t a) := by
  have hl := LoopF_foldl (List.range t.Attrs.length) (fun (b : Bool) i => (b, i)) (odmine_Keys_l3 t (a : Int)) (fun b (k : Nat) => b && holdsR t.Rows [(a : Int)] [(k : Int)]) id (fun _ _ => True) (b0 := true) (s0 := (true, 0)) rfl trivial
    (fun k b z hz hk _ => by
      have hzk : z = k := by
        have := (List.getElem?_eq_some_iff.1 hz).2
        simpa using this.symm
      subst hzk
      rw [List.length_range] at hk
      have hv := ord1_valid ha hk
      have ho : odErr t ⟨[(a : Int)], [(z : Int)]⟩ = 0 := by unfold odErr; rw [if_neg (by rw [h]; simp), if_pos hv]
      refine ⟨?_, trivial⟩
      simp only [odmine_Keys_l3, if_pos (show (z : Int) < (t.Attrs.length : Int) by omega), Holds_ok t _ H ⟨by simp, by simp⟩ ho, Option.bind_some, wrap_nat (show z < 4611686018427387904 by omega)]
      cases b <;> rfl)
    (fun b _ => by rw [List.length_range]; simp [odmine_Keys_l3])
  rw [hl, id, foldl_and', Bool.true_and]; rfl
theorem Keys_eq (t : Table) (H : TabOk t) : odmine_Keys t = some (if mineErr t = 0 then (keysB t, 0) else ([], mineErr t)) := by
  simp only [odmine_Keys, check31_eq t H, Option.bind_some]
  by_cases h : mineErr t = 0
  · obtain ⟨h1, h2, h3⟩ := mineErr_zero h
    have hl := LoopF_foldl (List.range t.Attrs.length) (fun (o : List Int) i => (o, i)) (odmine_Keys_l4 t) (fun o (k : Nat) => if keyA t k then o ++ [(k : Int)] else o) id (fun k o => o.length ≤ k) (b0 := []) (s0 := ([], 0)) rfl (Nat.le_refl 0)
      (fun k o z hz hk hI => by
        have hzk : z = k := by
          have := (List.getElem?_eq_some_iff.1 hz).2
          simpa using this.symm
        subst hzk
        rw [List.length_range] at hk
        refine ⟨?_, by cases keyA t z <;> simp <;> omega⟩
        simp only [odmine_Keys_l4, if_pos (show (z : Int) < (t.Attrs.length : Int) by omega), keys_inner t H h1 z hk (by omega), Option.bind_some, room_le (show o.length + 1 ≤ 1073741824 by omega) (show 8 ≤ 65536 by omega), if_true, wrap_nat (show z < 4611686018427387904 by omega)]
        cases keyA t z <;> rfl)
      (fun o _ => by rw [List.length_range]; simp [odmine_Keys_l4])
    rw [if_pos h]
    simp only [h, bne_self_eq_false, Bool.false_eq_true, if_false, hl, Option.bind_some, id]
    rw [foldl_keep]; rfl
  · simp [h]
/-! ### what follows from statements -/
def trivial31 (c : Canonical) : Bool := (decide (0 ≤ c.A) && (decide (c.A < 32) && hasB c.Context c.A)) || (c.B != -1 && ((c.A == c.B) || (decide (0 ≤ c.B) && (decide (c.B < 32) && hasB c.Context c.B))))
theorem in31_eq (s a : Int) : odmine_in s a = some (decide (0 ≤ a) && (decide (a < 32) && hasB s a)) := by
  unfold odmine_in
  by_cases h0 : a ≥ 0
  · rw [if_pos h0, decide_eq_true (show 0 ≤ a from h0)]
    by_cases h1 : a < 32
    · rw [if_pos h1, decide_eq_true h1, if_neg (by omega)]; rfl
    · rw [if_neg h1, decide_eq_false h1]; rfl
  · rw [if_neg h0, decide_eq_false (show ¬ 0 ≤ a from h0)]; rfl
theorem Has02_eq' (s a : Int) : drossref02_Has s a = some (decide (0 ≤ a) && (decide (a < 32) && hasB s a)) := by
  unfold drossref02_Has
  by_cases h0 : a ≥ 0
  · rw [if_pos h0, decide_eq_true (show 0 ≤ a from h0)]
    by_cases h1 : a < 32
    · rw [if_pos h1, decide_eq_true h1, if_neg (by omega)]; rfl
    · rw [if_neg h1, decide_eq_false h1]; rfl
  · rw [if_neg h0, decide_eq_false (show ¬ 0 ≤ a from h0)]; rfl
theorem trivial31_eq (c : Canonical) : odmine_trivial c = some (trivial31 c) := by
  simp only [odmine_trivial, in31_eq, Option.bind_some, trivial31]
  cases (decide (0 ≤ c.A) && (decide (c.A < 32) && hasB c.Context c.A))
  · by_cases hB : (c.B != -1) = true
    · by_cases hA : (c.A == c.B) = true
      · simp [hB, hA]
      · simp only [Bool.not_eq_true] at hA; simp [hB, hA]
    · simp only [Bool.not_eq_true] at hB; simp [hB]
  · simp
theorem ref_Trivial_eq (c : Canonical) : drossref31_Trivial c = some (trivial31 c) := by
  simp only [drossref31_Trivial, Has02_eq', Option.bind_some, trivial31]
  cases (decide (0 ≤ c.A) && (decide (c.A < 32) && hasB c.Context c.A))
  · by_cases hB : (c.B != -1) = true
    · by_cases hA : (c.A == c.B) = true
      · simp [hB, hA]
      · simp only [Bool.not_eq_true] at hA; simp [hB, hA]
    · simp only [Bool.not_eq_true] at hB; simp [hB]
  · simp
/-- is the context of the first one part of that of the second -/
def subC (d c : Canonical) : Bool := (d.Context.toNat &&& c.Context.toNat) == d.Context.toNat
/-- does one statement imply another one -/
def impl1 (d c : Canonical) : Bool := subC d c && (if c.B = -1 then (d.B == -1) && (d.A == c.A) else if d.B = -1 then (d.A == c.A) || (d.A == c.B) else ((d.A == c.A) && (d.B == c.B)) || ((d.A == c.B) && (d.B == c.A)))
def okC (c : Canonical) : Prop := 0 ≤ c.Context ∧ c.Context < 4294967296
theorem okC_of {c : Canonical} (h : okCanonical c) : okC c := by
  have h' : (decide (IntKind.min .u32 ≤ c.Context) && decide (c.Context ≤ IntKind.max .u32)) = true := h.1
  simp only [Bool.and_eq_true, decide_eq_true_eq] at h'
  have e1 : IntKind.min .u32 = 0 := by decide
  have e2 : IntKind.max .u32 = 4294967295 := by decide
  rw [e1, e2] at h'
  exact ⟨h'.1, by omega⟩
theorem sub_ndiff (a b : Nat) : ndiff a b = 0 ↔ a &&& b = a := by
  constructor
  · intro h
    apply Nat.eq_of_testBit_eq
    intro i
    have := ndiff_bit a b i
    rw [h, Nat.zero_testBit] at this
    rw [Nat.testBit_and]
    cases ha : a.testBit i
    · rfl
    · rw [ha] at this; simp at this; simp [this]
  · intro h
    apply Nat.eq_of_testBit_eq
    intro i
    rw [ndiff_bit, Nat.zero_testBit, ← h, Nat.testBit_and]
    cases a.testBit i <;> cases b.testBit i <;> rfl
theorem diff_ne {d c : Canonical} (hd : okC d) (hc : okC c) : ((IntKind.u32.wrap ((BitVec.ofInt 32 d.Context &&& ~~~ (BitVec.ofInt 32 c.Context)).toNat : Int)) != 0) = !subC d c := by
  obtain ⟨m, hm⟩ := Int.eq_ofNat_of_zero_le hd.1
  obtain ⟨n, hn⟩ := Int.eq_ofNat_of_zero_le hc.1
  have h1 := hd.2; have h2 := hc.2
  unfold subC
  rw [hm] at h1 ⊢
  rw [hn] at h2 ⊢
  rw [w32_diff (by omega) (by omega), Int.toNat_natCast, Int.toNat_natCast, Bool.eq_iff_iff, bne_iff_ne, Bool.not_eq_true', beq_eq_false_iff_ne, ne_eq, ne_eq, ← sub_ndiff]
  omega
theorem Sub02_eq {d c : Canonical} (hd : okC d) (hc : okC c) : drossref02_Sub d.Context c.Context = some (subC d c) := by
  obtain ⟨m, hm⟩ := Int.eq_ofNat_of_zero_le hd.1
  obtain ⟨n, hn⟩ := Int.eq_ofNat_of_zero_le hc.1
  have h1 := hd.2; have h2 := hc.2
  unfold drossref02_Sub subC
  rw [hm] at h1 ⊢
  rw [hn] at h2 ⊢
  rw [w32_and (by omega) (by omega), Int.toNat_natCast, Int.toNat_natCast]
  congr 1
  rw [Bool.eq_iff_iff, beq_iff_eq, beq_iff_eq]
  omega
theorem impl1_eq {d c : Canonical} (hd : okC d) (hc : okC c) : odmine_Implied_1 d c = some (impl1 d c) := by
  unfold odmine_Implied_1 impl1
  rw [diff_ne hd hc]
  cases subC d c
  · simp
  · simp only [Bool.not_true, Bool.false_eq_true, if_false, Bool.true_and]
    by_cases h1 : c.B = -1
    · rw [if_pos (by rw [h1]; rfl), if_pos h1]
      by_cases h2 : d.B = -1
      · simp [h2]
      · simp [h2]
    · rw [if_neg (by simpa using h1), if_neg h1]
      by_cases h2 : d.B = -1
      · rw [if_pos (by rw [h2]; rfl), if_pos h2]
        by_cases h3 : d.A = c.A <;> simp [h3]
      · rw [if_neg (by simpa using h2), if_neg h2]
        by_cases h3 : d.A = c.A
        · by_cases h4 : d.B = c.B
          · simp [h3, h4]
          · by_cases h5 : c.A = c.B <;> simp [h3, h4, h5]
        · by_cases h5 : d.A = c.B
          · have h7 : ¬ c.B = c.A := fun e => h3 (h5.trans e)
            simp [h5, h7]
          · simp [h3, h5]
/-- what Implied answers -/
def impliedB (l : List Canonical) (c : Canonical) : Bool := trivial31 c || l.any fun d => impl1 d c
theorem IndexFunc_Canonical_eq (l : List Canonical) (f : Canonical → Option Bool) (p : Canonical → Bool) (hp : ∀ x ∈ l, f x = some (p x)) (hl : l.length ≤ 1073741824) : slices_IndexFunc_Canonical l f = some (posI (l.findIdx? p)) := by
  have h := LoopF_find l (slices_IndexFunc_Canonical_l1 l f) p
    (fun k y hx hk hpy => by simp only [slices_IndexFunc_Canonical_l1, if_pos (lt_true hx), idx_get hx, Option.bind_some, hp y (List.mem_of_getElem? hx), hpy, Bool.false_eq_true, if_false, wrap_succ hk (show l.length ≤ 4611686018427387904 by omega)])
    (fun k y hx hpy => by simp only [slices_IndexFunc_Canonical_l1, if_pos (lt_true hx), idx_get hx, Option.bind_some, hp y (List.mem_of_getElem? hx), hpy, if_true])
    (by simp [slices_IndexFunc_Canonical_l1])
  simp only [slices_IndexFunc_Canonical, h, Option.bind_some]
  cases l.findIdx? p <;> rfl
theorem Implied_eq (l : List Canonical) (c : Canonical) (hl : l.length ≤ 1048576) (h : ∀ d ∈ l, okC d) (hc : okC c) : odmine_Implied l c = some (impliedB l c) := by
  simp only [odmine_Implied, trivial31_eq, Option.bind_some, impliedB, slices_ContainsFunc_Canonical, IndexFunc_Canonical_eq l (fun d => odmine_Implied_1 d c) (fun d => impl1 d c) (fun d hd => impl1_eq (h d hd) hc) (by omega)]
  cases trivial31 c
  · simp only [Bool.false_eq_true, if_false, Bool.false_or]
    rw [posI_any]
  · simp
theorem ref_step (d c : Canonical) (hd : okC d) (hc : okC c) (l : List Canonical) (k : Nat) (hk : l[k]? = some d) (hl : l.length ≤ 1048576) : drossref31_Implied_l1 l c (k : Int) = if impl1 d c = true then some (.done (.inr true)) else some (.next ((k + 1 : Nat) : Int)) := by
  have hkl := lt_of_get hk
  simp only [drossref31_Implied_l1, if_pos (lt_true hk), idx_get hk, Option.bind_some, Sub02_eq hd hc, wrap_nat (show k < 4611686018427387904 by omega)]
  unfold impl1
  cases subC d c
  · simp
  · simp only [if_true, Bool.true_and]
    by_cases h1 : c.B = -1
    · by_cases h2 : d.B = -1
      · by_cases h3 : d.A = c.A <;> simp [h1, h2, h3]
      · simp [h1, h2]
    · by_cases h2 : d.B = -1
      · by_cases h3 : d.A = c.A
        · simp [h1, h2, h3]
        · by_cases h4 : d.A = c.B <;> simp [h1, h2, h3, h4]
      · by_cases h3 : d.A = c.A
        · by_cases h4 : d.B = c.B
          · simp [h1, h2, h3, h4]
          · by_cases h5 : c.A = c.B
            · by_cases h6 : d.B = c.A <;> simp [h1, h2, h3, h4, h5, h6]
            · simp [h1, h2, h3, h4, h5]
        · by_cases h5 : d.A = c.B
          · have h7 : ¬ c.B = c.A := fun e => h3 (h5.trans e)
            by_cases h6 : d.B = c.A <;> simp [h1, h2, h5, h6, h7]
          · simp [h1, h2, h3, h5]
theorem ref_Implied_eq (l : List Canonical) (c : Canonical) (hl : l.length ≤ 1048576) (h : ∀ d ∈ l, okC d) (hc : okC c) : drossref31_Implied l c = some (impliedB l c) := by
  have hloop := LoopF_all l (drossref31_Implied_l1 l c) (fun d => !impl1 d c) true
    (fun k d hx hk hp => by rw [ref_step d c (h d (List.mem_of_getElem? hx)) hc l k hx hl, if_neg (by simpa using hp)])
    (fun k d hx hp => by rw [ref_step d c (h d (List.mem_of_getElem? hx)) hc l k hx hl, if_pos (by simpa using hp)])
    (by simp [drossref31_Implied_l1])
  simp only [drossref31_Implied, ref_Trivial_eq, Option.bind_some, impliedB, hloop]
  cases trivial31 c
  · have e : (l.all fun d => !impl1 d c) = !(l.any fun d => impl1 d c) := by rw [List.not_any_eq_all_not]
    rw [e]
    cases l.any fun d => impl1 d c <;> rfl
  · simp
end Go.Proofs.Ythgnkhchpjcboaa
/- The miner: the chapter's examples. -/
set_option linter.unusedVariables false
set_option linter.unusedSimpArgs false
namespace Go.Proofs.Ythgnkhchpjcboaa
open Go Go.Ab
def exT31 : Table := ⟨[114], [[97], [98], [99]], [⟨1, [⟨1, 1, []⟩, ⟨1, 1, []⟩, ⟨1, 5, []⟩]⟩, ⟨2, [⟨1, 2, []⟩, ⟨1, 1, []⟩, ⟨1, 4, []⟩]⟩, ⟨3, [⟨1, 3, []⟩, ⟨1, 2, []⟩, ⟨1, 5, []⟩]⟩]⟩
theorem row31_eq (i a b c : Int) : drosslaw31_example_1 i [a, b, c] = some ⟨i, [⟨1, a, []⟩, ⟨1, b, []⟩, ⟨1, c, []⟩]⟩ := by
  have h := LoopF_foldl [a, b, c] (fun (o : List Value) i => (o, i)) (drosslaw31_example_1_l1 [a, b, c]) (fun o n => o ++ [⟨1, n, []⟩]) id (fun k o => o.length = k) (b0 := []) (s0 := ([], 0)) rfl rfl
    (fun k o x hx hk hI => by
      refine ⟨?_, by simp [hI]⟩
      simp only [drosslaw31_example_1_l1, if_pos (lt_true hx), idx_get hx, Option.bind_some, room_le (show o.length + 1 ≤ 1073741824 by simp at hk; omega) (show 32 ≤ 65536 by omega), if_true, wrap_succ hk (show [a, b, c].length ≤ 4611686018427387904 by simp)])
    (fun o _ => by simp [drosslaw31_example_1_l1])
  simp only [drosslaw31_example_1, h, id, Option.bind_some]
  rfl
theorem example31_eq : drosslaw31_example = some exT31 := by
  simp only [drosslaw31_example, row31_eq, Option.bind_some]
  rfl
theorem exT31_ok : TabOk exT31 := ⟨by decide, by decide, by decide, by intro r hr v hv; revert v; revert r; decide⟩
theorem exT31_all : mineErr exT31 = 0 ∧ allB exT31 = [⟨0, 0, 1⟩, ⟨0, 1, 2⟩, ⟨1, 1, -1⟩, ⟨1, 2, -1⟩, ⟨6, 0, -1⟩] ∧ keysB exT31 = [] := by decide +kernel
theorem Same_self31 (l : List Canonical) (hl : l.length ≤ 1073741824) : drossref17_Same l l = some true := by
  have h := LoopF_all l (drossref17_Same_l1 l l) (fun _ => true) false
    (fun k x hx hk _ => by
      have := (ceq_iff x x).2 rfl
      unfold ceq at this
      simp only [drossref17_Same_l1, if_pos (lt_true hx), idx_get hx, Option.bind_some, this, if_true, wrap_succ hk (show l.length ≤ 4611686018427387904 by omega)])
    (fun k x hx hp => by cases hp)
    (by simp [drossref17_Same_l1])
  have ht : (l.all fun _ => true) = true := by simp
  simp only [drossref17_Same, h, ht, if_true, Option.bind_some, bne_self_eq_false, Bool.false_eq_true, if_false]
theorem awake31 : drosslaw31_awake = some true := by
  have e1 := All_eq exT31 exT31_ok
  have e2 := Keys_eq exT31 exT31_ok
  obtain ⟨h1, h2, h3⟩ := exT31_all
  rw [if_pos h1, h2] at e1
  rw [if_pos h1, h3] at e2
  simp only [drosslaw31_awake, example31_eq, e1, e2, Option.bind_some, beq_self_eq_true, if_true]
  rw [Same_self31 _ (by simp)]
  rfl
end Go.Proofs.Ythgnkhchpjcboaa
/- OdmineImplied answers true. -/
set_option linter.unusedVariables false
set_option linter.unusedSimpArgs false
namespace Go.Proofs.Ythgnkhchpjcboaa
open Go Go.Ab
theorem OdmineImplied_holds (l : List Canonical) (c : Canonical) (hl : okL okCanonical l) (hc : okCanonical c) : drosslaw31_OdmineImplied l c = some true := by
  simp only [drosslaw31_OdmineImplied, awake31, Option.bind_some, if_true]
  by_cases h : (l.length : Int) > 12
  · simp [h]
  · have hn : l.length ≤ 12 := by omega
    have ho : ∀ d ∈ l, okC d := fun d hd => okC_of (hl.2 d hd)
    rw [decide_eq_false h]
    simp only [Bool.false_eq_true, if_false, slices_Clone_Canonical]
    rw [if_pos (room_le (by omega) (by omega))]
    simp only [Option.bind_some, Implied_eq l c (by omega) ho (okC_of hc), ref_Implied_eq l c (by omega) ho (okC_of hc), beq_self_eq_true]
end Go.Proofs.Ythgnkhchpjcboaa

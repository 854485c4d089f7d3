/- The Lean functions that the program's functions are lifted to, and the plain laws about them. -/
import Derived.Lib.TrailingZeros
import Derived.Test.YtimfcgdnogjlhaaGreatA3
import Derived.Test.YtimfcgdnogjlhaaGreatA2
set_option linter.unusedVariables false
set_option linter.unusedSimpArgs false
namespace Go.Proofs.YtimfcgdnogjlhaaGreat
open Go Go.Ab
structure Value where
  Kind : Int
  Num : Int
  Str : List UInt8
  deriving DecidableEq
structure Row where
  ID : Int
  Values : List Value
  deriving DecidableEq
structure Drossref03_Recipe where
  Attrs : Int
  Gap : Int
  Rows : List (List Int)
  deriving DecidableEq
structure Table where
  Name : List UInt8
  Attrs : List (List UInt8)
  Rows : List Row
  deriving DecidableEq
structure OD where
  Lhs : List Int
  Rhs : List Int
  deriving DecidableEq
structure Canonical where
  Context : Int
  A : Int
  B : Int
  deriving DecidableEq
structure Drossref17_Lists where
  X : List Int
  Y : List Int
  deriving DecidableEq
noncomputable def drossref01_Of (code_1 : Int) : Option (Value) :=
  if ((Int.tmod code_1 12) == 0) = true then
  some (Value.mk 1 0 [])
  else
  if ((Int.tmod code_1 12) == 1) = true then
  some (Value.mk 1 1 [])
  else
  if ((Int.tmod code_1 12) == 2) = true then
  some (Value.mk 1 2 [])
  else
  if ((Int.tmod code_1 12) == 3) = true then
  some (Value.mk 0 0 [])
  else
  if ((Int.tmod code_1 12) == 4) = true then
  some (Value.mk 2 0 [97])
  else
  if ((Int.tmod code_1 12) == 5) = true then
  some (Value.mk 2 0 [98])
  else
  if ((Int.tmod code_1 12) == 6) = true then
  some (Value.mk 2 0 [])
  else
  if ((Int.tmod code_1 12) == 7) = true then
  some (Value.mk 3 1 [])
  else
  if ((Int.tmod code_1 12) == 8) = true then
  some (Value.mk 1 (-1) [])
  else
  if ((Int.tmod code_1 12) == 9) = true then
  some (Value.mk 2 0 [97, 98])
  else
  if ((Int.tmod code_1 12) == 10) = true then
  some (Value.mk 3 2 [])
  else
  some (Value.mk 1 7 [])
noncomputable def drossref03_Wide_l3 (x_14 : Drossref03_Recipe) (n_15 : Int) (i_77 : Int) : (List Value × Int) → Option (LS (List Value × Int) (List Value)) := fun (r_144, k_145) =>
  if k_145 < n_15 then
  (idx x_14.Rows i_77).bind fun (x_164 : List Int) =>
  if k_145 < (x_164.length : Int) then
  (idx x_164 k_145).bind fun (x_167 : Int) =>
  (drossref01_Of x_167).bind fun (r_169 : Value) =>
  if roomB (r_144.length + 1) 32 = true then
  some (.next ((r_144 ++ [r_169]), (IntKind.i64.wrap (k_145 + 1))))
  else none
  else
  (drossref01_Of 0).bind fun (r_172 : Value) =>
  if roomB (r_144.length + 1) 32 = true then
  some (.next ((r_144 ++ [r_172]), (IntKind.i64.wrap (k_145 + 1))))
  else none
  else
  some (.done r_144)
noncomputable def drossref03_Wide_l4 (x_14 : Drossref03_Recipe) (n_15 : Int) : (List Row × Int) → Option (LS (List Row × Int) (List Row)) := fun (t_76, i_77) =>
  if i_77 < (x_14.Rows.length : Int) then
  (LoopF (drossref03_Wide_l3 x_14 n_15 i_77) ([], 0)).bind (fun r_160 =>
  if roomB (t_76.length + 1) 32 = true then
  some (.next ((t_76 ++ [(Row.mk (IntKind.i64.wrap (1 + (IntKind.i64.wrap (i_77 * (IntKind.i64.wrap (1 + (IntKind.i64.wrap (Int.tmod x_14.Gap 3)))))))) r_160)]), (IntKind.i64.wrap (i_77 + 1))))
  else none)
  else
  some (.done t_76)
noncomputable def drossref03_Wide (x_14 : Drossref03_Recipe) (n_15 : Int) : Option (Table) :=
  if (0 : Int) ≤ n_15 then
  if n_15 ≤ 8 then
  (some ([[97], [98], [99], [100], [101], [102], [103], [104]] : List (List UInt8))).bind fun (l_23 : List (List UInt8)) =>
  if roomB ((l_23.take n_15.toNat).length) 16 = true then
  (LoopF (drossref03_Wide_l4 x_14 n_15) ([], 0)).bind (fun t_128 =>
  some (Table.mk [114] (l_23.take n_15.toNat) t_128))
  else none
  else none
  else none
noncomputable def drossref03_Table (x_183 : Drossref03_Recipe) (most_184 : Int) : Option (Table × Bool) :=
  if (x_183.Rows.length : Int) > most_184 then
  some ((Table.mk [] [] []), false)
  else
  (drossref03_Wide x_183 (IntKind.i64.wrap (Int.tmod x_183.Attrs 6))).bind fun (r_186 : Table) =>
  some (r_186, true)
noncomputable def table_isName_l1 (s_189 : List UInt8) : Int → Option (LS (Int) ((Unit) ⊕ (Bool))) := fun t19_216 =>
  if t19_216 < (s_189.length : Int) then
  (idx s_189 t19_216).bind fun (c_247 : UInt8) =>
  (show Option (Bool) from
  if ((c_247.toNat : Nat) : Int) ≥ 97 then
  if ((c_247.toNat : Nat) : Int) ≤ 122 then
  some true
  else
  if ((c_247.toNat : Nat) : Int) ≥ 65 then
  if ((c_247.toNat : Nat) : Int) ≤ 90 then
  some true
  else
  some (((c_247.toNat : Nat) : Int) == 95)
  else
  some (((c_247.toNat : Nat) : Int) == 95)
  else
  if ((c_247.toNat : Nat) : Int) ≥ 65 then
  if ((c_247.toNat : Nat) : Int) ≤ 90 then
  some true
  else
  some (((c_247.toNat : Nat) : Int) == 95)
  else
  some (((c_247.toNat : Nat) : Int) == 95)).bind (fun letter_255 =>
  if letter_255 = true then
  some (.next (IntKind.i64.wrap (t19_216 + 1)))
  else
  if (t19_216 == 0) = true then
  some (.done (.inr false))
  else
  if ((c_247.toNat : Nat) : Int) < 48 then
  some (.done (.inr false))
  else
  if ((c_247.toNat : Nat) : Int) > 57 then
  some (.done (.inr false))
  else
  some (.next (IntKind.i64.wrap (t19_216 + 1))))
  else
  some (.done (.inl ()))
noncomputable def table_isName (s_189 : List UInt8) : Option (Bool) :=
  if (s_189 == []) = true then
  some false
  else
  if (s_189.length : Int) > 24 then
  some false
  else
  if (s_189 == [110, 117, 108, 108]) = true then
  some false
  else
  (LoopF (table_isName_l1 s_189) 0).bind (fun o => match o with
  | .inl () =>
  some true
  | .inr r_271 =>
  some r_271)
noncomputable def slices_Index_string_l1 (s_275 : List (List UInt8)) (v_276 : List UInt8) : Int → Option (LS (Int) ((Unit) ⊕ (Int))) := fun t8_282 =>
  if t8_282 < (s_275.length : Int) then
  (idx s_275 t8_282).bind fun (x_290 : List UInt8) =>
  if (v_276 == x_290) = true then
  some (.done (.inr t8_282))
  else
  some (.next (IntKind.i64.wrap (t8_282 + 1)))
  else
  some (.done (.inl ()))
noncomputable def slices_Index_string (s_275 : List (List UInt8)) (v_276 : List UInt8) : Option (Int) :=
  (LoopF (slices_Index_string_l1 s_275 v_276) 0).bind (fun o => match o with
  | .inl () =>
  some (-1)
  | .inr r_295 =>
  some r_295)
noncomputable def slices_Contains_string (s_299 : List (List UInt8)) (v_300 : List UInt8) : Option (Bool) :=
  (slices_Index_string s_299 v_300).bind fun (r_301 : Int) =>
  some (decide (r_301 ≥ 0))
noncomputable def slices_IndexFunc_Value_l1 (s_304 : List Value) (f_305 : Value → Option (Bool)) : Int → Option (LS (Int) ((Unit) ⊕ (Int))) := fun t8_315 =>
  if t8_315 < (s_304.length : Int) then
  (idx s_304 t8_315).bind fun (x_325 : Value) =>
  (f_305 x_325).bind fun (r_327 : Bool) =>
  if r_327 = true then
  some (.done (.inr t8_315))
  else
  some (.next (IntKind.i64.wrap (t8_315 + 1)))
  else
  some (.done (.inl ()))
noncomputable def slices_IndexFunc_Value (s_304 : List Value) (f_305 : Value → Option (Bool)) : Option (Int) :=
  (LoopF (slices_IndexFunc_Value_l1 s_304 f_305) 0).bind (fun o => match o with
  | .inl () =>
  some (-1)
  | .inr r_332 =>
  some r_332)
noncomputable def slices_ContainsFunc_Value (s_336 : List Value) (f_337 : Value → Option (Bool)) : Option (Bool) :=
  (slices_IndexFunc_Value s_336 f_337).bind fun (r_340 : Int) =>
  some (decide (r_340 ≥ 0))
noncomputable def value_Valid (v_343 : Value) : Option (Bool) :=
  if (v_343.Kind == 0) = true then
  if (v_343.Num == 0) = true then
  some (v_343.Str == [])
  else
  some false
  else
  if (v_343.Kind == 1) = true then
  some (v_343.Str == [])
  else
  if (v_343.Kind == 2) = true then
  if (v_343.Num == 0) = true then
  some (decide ((v_343.Str.length : Int) ≤ 200))
  else
  some false
  else
  if (v_343.Kind == 3) = true then
  if v_343.Num ≥ 1 then
  some (v_343.Str == [])
  else
  some false
  else
  some false
noncomputable def table_validValues_1 (v_352 : Value) : Option (Bool) :=
  (value_Valid v_352).bind fun (r_353 : Bool) =>
  some (!r_353)
noncomputable def table_validValues (l_356 : List Value) : Option (Bool) :=
  (slices_ContainsFunc_Value l_356 (fun (y_357 : Value) => table_validValues_1 y_357)).bind fun (r_358 : Bool) =>
  some (!r_358)
noncomputable def table_Valid_l1 (t_361 : Table) : Int → Option (LS (Int) ((Unit) ⊕ (Int))) := fun t25_381 =>
  if t25_381 < (t_361.Attrs.length : Int) then
  (idx t_361.Attrs t25_381).bind fun (x_402 : List UInt8) =>
  (table_isName x_402).bind fun (r_404 : Bool) =>
  if r_404 = true then
  if (0 : Int) ≤ t25_381 then
  if t25_381 ≤ (t_361.Attrs.length : Int) then
  (slices_Contains_string (t_361.Attrs.take (t25_381.toNat)) x_402).bind fun (r_411 : Bool) =>
  if r_411 = true then
  some (.done (.inr 1))
  else
  some (.next (IntKind.i64.wrap (t25_381 + 1)))
  else none
  else none
  else
  some (.done (.inr 1))
  else
  some (.done (.inl ()))
noncomputable def table_Valid_l2 (t_361 : Table) : (Int × Int) → Option (LS (Int × Int) ((Unit) ⊕ (Int))) := fun (last_427, t45_428) =>
  if t45_428 < (t_361.Rows.length : Int) then
  (idx t_361.Rows t45_428).bind fun (x_444 : Row) =>
  if x_444.ID ≤ last_427 then
  some (.done (.inr 1))
  else
  if ((x_444.Values.length : Int) != (t_361.Attrs.length : Int)) = true then
  some (.done (.inr 6))
  else
  (table_validValues x_444.Values).bind fun (r_448 : Bool) =>
  if r_448 = true then
  some (.next (x_444.ID, (IntKind.i64.wrap (t45_428 + 1))))
  else
  some (.done (.inr 1))
  else
  some (.done (.inl ()))
noncomputable def table_Valid (t_361 : Table) : Option (Int) :=
  (table_isName t_361.Name).bind fun (r_362 : Bool) =>
  if r_362 = true then
  if (t_361.Attrs.length : Int) > 16 then
  some 3
  else
  if (t_361.Rows.length : Int) > 1000 then
  some 3
  else
  (LoopF (table_Valid_l1 t_361) 0).bind (fun o => match o with
  | .inl () =>
  (LoopF (table_Valid_l2 t_361) (0, 0)).bind (fun o => match o with
  | .inl () =>
  some 0
  | .inr r_453 =>
  some r_453)
  | .inr r_456 =>
  some r_456)
  else
  some 1
noncomputable def ordering_check (t_460 : Table) (ok_461 : Int → Option (Bool)) : Option (Int) :=
  (table_Valid t_460).bind fun (r_464 : Int) =>
  if (r_464 != 0) = true then
  some r_464
  else
  (ok_461 (t_460.Attrs.length : Int)).bind fun (r_467 : Bool) =>
  if r_467 = true then
  some 0
  else
  some 1
noncomputable def slices_IndexFunc_int_l1 (s_471 : List Int) (f_472 : Int → Option (Bool)) : Int → Option (LS (Int) ((Unit) ⊕ (Int))) := fun t8_482 =>
  if t8_482 < (s_471.length : Int) then
  (idx s_471 t8_482).bind fun (x_492 : Int) =>
  (f_472 x_492).bind fun (r_494 : Bool) =>
  if r_494 = true then
  some (.done (.inr t8_482))
  else
  some (.next (IntKind.i64.wrap (t8_482 + 1)))
  else
  some (.done (.inl ()))
noncomputable def slices_IndexFunc_int (s_471 : List Int) (f_472 : Int → Option (Bool)) : Option (Int) :=
  (LoopF (slices_IndexFunc_int_l1 s_471 f_472) 0).bind (fun o => match o with
  | .inl () =>
  some (-1)
  | .inr r_499 =>
  some r_499)
noncomputable def slices_ContainsFunc_int (s_503 : List Int) (f_504 : Int → Option (Bool)) : Option (Bool) :=
  (slices_IndexFunc_int s_503 f_504).bind fun (r_507 : Int) =>
  some (decide (r_507 ≥ 0))
noncomputable def ordering_list_1 (a_510 : Int) (c_511 : Int) : Option (Bool) :=
  if a_510 < 0 then
  some true
  else
  some (decide (a_510 ≥ c_511))
noncomputable def ordering_list (n_514 : Int) (l_515 : List Int) : Option (Bool) :=
  if (l_515.length : Int) ≤ 8 then
  (slices_ContainsFunc_int l_515 (fun (y_517 : Int) => ordering_list_1 y_517 n_514)).bind fun (r_518 : Bool) =>
  some (!r_518)
  else
  some false
noncomputable def ordering_Valid (n_521 : Int) (d_522 : OD) : Option (Bool) :=
  (ordering_list n_521 d_522.Lhs).bind fun (r_523 : Bool) =>
  if r_523 = true then
  (ordering_list n_521 d_522.Rhs).bind fun (r_526 : Bool) =>
  some r_526
  else
  some false
noncomputable def ordering_Violation_1 (n_529 : Int) (c_530 : OD) : Option (Bool) :=
  (ordering_Valid n_529 c_530).bind fun (r_531 : Bool) =>
  some r_531
noncomputable def cmp_Or_int_l1 (vals_534 : List Int) : Int → Option (LS (Int) ((Unit) ⊕ (Int))) := fun t8_542 =>
  if t8_542 < (vals_534.length : Int) then
  (idx vals_534 t8_542).bind fun (x_554 : Int) =>
  if (x_554 != 0) = true then
  some (.done (.inr x_554))
  else
  some (.next (IntKind.i64.wrap (t8_542 + 1)))
  else
  some (.done (.inl ()))
noncomputable def cmp_Or_int (vals_534 : List Int) : Option (Int) :=
  (LoopF (cmp_Or_int_l1 vals_534) 0).bind (fun o => match o with
  | .inl () =>
  some 0
  | .inr r_559 =>
  some r_559)
noncomputable def cmp_isNaN_int64 (x_563 : Int) : Option (Bool) :=
  some (x_563 != x_563)
noncomputable def cmp_Compare_int64 (x_565 : Int) (y_566 : Int) : Option (Int) :=
  (cmp_isNaN_int64 x_565).bind fun (r_569 : Bool) =>
  (cmp_isNaN_int64 y_566).bind fun (r_573 : Bool) =>
  if r_569 = true then
  if r_573 = true then
  some 0
  else
  some (-1)
  else
  if r_573 = true then
  some 1
  else
  if x_565 < y_566 then
  some (-1)
  else
  if x_565 > y_566 then
  some 1
  else
  some 0
noncomputable def cmp_isNaN_int (x_581 : Int) : Option (Bool) :=
  some (x_581 != x_581)
noncomputable def cmp_Compare_int (x_583 : Int) (y_584 : Int) : Option (Int) :=
  (cmp_isNaN_int x_583).bind fun (r_587 : Bool) =>
  (cmp_isNaN_int y_584).bind fun (r_591 : Bool) =>
  if r_587 = true then
  if r_591 = true then
  some 0
  else
  some (-1)
  else
  if r_591 = true then
  some 1
  else
  if x_583 < y_584 then
  some (-1)
  else
  if x_583 > y_584 then
  some 1
  else
  some 0
noncomputable def bytealg_CompareString (a_599 : List UInt8) (b_600 : List UInt8) : Option (Int) :=
  some (Lib.compareBytes a_599 b_600)
noncomputable def strings_Compare (a_604 : List UInt8) (b_605 : List UInt8) : Option (Int) :=
  (bytealg_CompareString a_604 b_605).bind fun (r_606 : Int) =>
  some r_606
noncomputable def value_Compare (a_609 : Value) (b_610 : Value) : Option (Int) :=
  (cmp_Compare_int a_609.Kind b_610.Kind).bind fun (r_611 : Int) =>
  (cmp_Compare_int64 a_609.Num b_610.Num).bind fun (r_613 : Int) =>
  (strings_Compare a_609.Str b_610.Str).bind fun (r_615 : Int) =>
  (cmp_Or_int [r_611, r_613, r_615]).bind fun (r_617 : Int) =>
  some r_617
noncomputable def ordering_compare_l1 (a_620 : Row) (b_621 : Row) (l_622 : List Int) : Int → Option (LS (Int) ((Unit) ⊕ (Int))) := fun t12_636 =>
  if t12_636 < (l_622.length : Int) then
  (idx l_622 t12_636).bind fun (x_654 : Int) =>
  (idx a_620.Values x_654).bind fun (x_656 : Value) =>
  (idx b_621.Values x_654).bind fun (x_658 : Value) =>
  (value_Compare x_656 x_658).bind fun (r_660 : Int) =>
  if (r_660 != 0) = true then
  some (.done (.inr r_660))
  else
  some (.next (IntKind.i64.wrap (t12_636 + 1)))
  else
  some (.done (.inl ()))
noncomputable def ordering_compare (a_620 : Row) (b_621 : Row) (l_622 : List Int) : Option (Int) :=
  (LoopF (ordering_compare_l1 a_620 b_621 l_622) 0).bind (fun o => match o with
  | .inl () =>
  some 0
  | .inr r_665 =>
  some r_665)
noncomputable def ordering_kind (a_669 : Row) (b_670 : Row) (d_671 : OD) : Option (Int) :=
  (ordering_compare a_669 b_670 d_671.Lhs).bind fun (r_676 : Int) =>
  (ordering_compare a_669 b_670 d_671.Rhs).bind fun (r_678 : Int) =>
  (show Option (Bool) from
  if (r_676 == 0) = true then
  some (r_678 != 0)
  else
  some false).bind (fun t19_681 =>
  if t19_681 = true then
  some 1
  else
  if (IntKind.i64.wrap (r_676 * r_678)) < 0 then
  some 2
  else
  some 0)
noncomputable def ordering_Violation_l3 (t_689 : Table) (d_690 : OD) (t20_744 : Int) (x_798 : Row) : Int → Option (LS (Int) ((Unit) ⊕ (Int × Int × Int × Bool))) := fun t31_815 =>
  if t31_815 < (((t_689.Rows.drop (IntKind.i64.wrap (t20_744 + 1)).toNat).take (t_689.Rows.length - (IntKind.i64.wrap (t20_744 + 1)).toNat)).length : Int) then
  (idx ((t_689.Rows.drop (IntKind.i64.wrap (t20_744 + 1)).toNat).take (t_689.Rows.length - (IntKind.i64.wrap (t20_744 + 1)).toNat)) t31_815).bind fun (x_831 : Row) =>
  (ordering_kind x_798 x_831 d_690).bind fun (r_835 : Int) =>
  if (r_835 != 0) = true then
  some (.done (.inr (x_798.ID, x_831.ID, r_835, true)))
  else
  some (.next (IntKind.i64.wrap (t31_815 + 1)))
  else
  some (.done (.inl ()))
noncomputable def ordering_Violation_l4 (t_689 : Table) (d_690 : OD) : Int → Option (LS (Int) ((Unit) ⊕ (Int × Int × Int × Bool))) := fun t20_744 =>
  if t20_744 < (t_689.Rows.length : Int) then
  (idx t_689.Rows t20_744).bind fun (x_798 : Row) =>
  if 0 ≤ (IntKind.i64.wrap (t20_744 + 1)) then
  if (IntKind.i64.wrap (t20_744 + 1)) ≤ (t_689.Rows.length : Int) then
  (LoopF (ordering_Violation_l3 t_689 d_690 t20_744 x_798) 0).bind (fun o => match o with
  | .inl () =>
  some (.next (IntKind.i64.wrap (t20_744 + 1)))
  | .inr r_840 =>
  some (.done (.inr r_840)))
  else none
  else none
  else
  some (.done (.inl ()))
noncomputable def ordering_Violation (t_689 : Table) (d_690 : OD) : Option (Int × Int × Int × Bool) :=
  (ordering_check t_689 (fun (y_691 : Int) => ordering_Violation_1 y_691 d_690)).bind fun (r_692 : Int) =>
  if (r_692 != 0) = true then
  some (0, 0, 0, false)
  else
  (LoopF (ordering_Violation_l4 t_689 d_690) 0).bind (fun o => match o with
  | .inl () =>
  some (0, 0, 0, false)
  | .inr r_845 =>
  some r_845)
noncomputable def ordering_Holds_1 (n_849 : Int) (c_850 : OD) : Option (Bool) :=
  (ordering_Valid n_849 c_850).bind fun (r_851 : Bool) =>
  some r_851
noncomputable def ordering_Holds (t_854 : Table) (d_855 : OD) : Option (Bool × Int) :=
  (ordering_check t_854 (fun (y_859 : Int) => ordering_Holds_1 y_859 d_855)).bind fun (r_860 : Int) =>
  if (r_860 != 0) = true then
  some (false, r_860)
  else
  (ordering_Violation t_854 d_855).bind fun (r_863 : Int × Int × Int × Bool) =>
  some ((!r_863.2.2.2), 0)
noncomputable def drossref01_List_l1 (codes_866 : List Int) : (List Value × Int) → Option (LS (List Value × Int) (List Value)) := fun (out_873, i_874) =>
  if i_874 < (codes_866.length : Int) then
  (idx codes_866 i_874).bind fun (x_883 : Int) =>
  (drossref01_Of x_883).bind fun (r_885 : Value) =>
  if roomB (out_873.length + 1) 32 = true then
  some (.next ((out_873 ++ [r_885]), (IntKind.i64.wrap (i_874 + 1))))
  else none
  else
  some (.done out_873)
noncomputable def drossref01_List (codes_866 : List Int) : Option (List Value) :=
  (LoopF (drossref01_List_l1 codes_866) ([], 0)).bind (fun out_881 =>
  some out_881)
noncomputable def drosslaw17_example_l1 (l_892 : List (List Int)) : (List Row × Int) → Option (LS (List Row × Int) (List Row)) := fun (t_901, t11_902) =>
  if t11_902 < 3 then
  (idx l_892 t11_902).bind fun (x_917 : List Int) =>
  (drossref01_List x_917).bind fun (r_919 : List Value) =>
  if roomB (t_901.length + 1) 32 = true then
  some (.next ((t_901 ++ [(Row.mk (IntKind.i64.wrap (t11_902 + 1)) r_919)]), (IntKind.i64.wrap (t11_902 + 1))))
  else none
  else
  some (.done t_901)
noncomputable def drosslaw17_example : Option (Table) :=
  (some ([[1, 1], [2, 11], [11, 2]] : List (List Int))).bind fun (l_892 : List (List Int)) =>
  (LoopF (drosslaw17_example_l1 l_892) ([], 0)).bind (fun t_912 =>
  some (Table.mk [116] [[97], [98]] t_912))
noncomputable def slices_Index_int_l1 (s_926 : List Int) (v_927 : Int) : Int → Option (LS (Int) ((Unit) ⊕ (Int))) := fun t8_933 =>
  if t8_933 < (s_926.length : Int) then
  (idx s_926 t8_933).bind fun (x_941 : Int) =>
  if (v_927 == x_941) = true then
  some (.done (.inr t8_933))
  else
  some (.next (IntKind.i64.wrap (t8_933 + 1)))
  else
  some (.done (.inl ()))
noncomputable def slices_Index_int (s_926 : List Int) (v_927 : Int) : Option (Int) :=
  (LoopF (slices_Index_int_l1 s_926 v_927) 0).bind (fun o => match o with
  | .inl () =>
  some (-1)
  | .inr r_946 =>
  some r_946)
noncomputable def slices_Contains_int (s_950 : List Int) (v_951 : Int) : Option (Bool) :=
  (slices_Index_int s_950 v_951).bind fun (r_952 : Int) =>
  some (decide (r_952 ≥ 0))
noncomputable def ordering_once_l1 (l_955 : List Int) : (List Int × Int) → Option (LS (List Int × Int) (List Int)) := fun (out_968, t8_969) =>
  if t8_969 < (l_955.length : Int) then
  (idx l_955 t8_969).bind fun (x_987 : Int) =>
  (slices_Contains_int out_968 x_987).bind fun (r_991 : Bool) =>
  if r_991 = true then
  some (.next (out_968, (IntKind.i64.wrap (t8_969 + 1))))
  else
  if roomB (out_968.length + 1) 8 = true then
  some (.next ((out_968 ++ [x_987]), (IntKind.i64.wrap (t8_969 + 1))))
  else none
  else
  some (.done out_968)
noncomputable def ordering_once (l_955 : List Int) : Option (List Int) :=
  (LoopF (ordering_once_l1 l_955) ([], 0)).bind (fun out_982 =>
  some out_982)
noncomputable def slices_Index_Canonical_l1 (s_999 : List Canonical) (v_1000 : Canonical) : Int → Option (LS (Int) ((Unit) ⊕ (Int))) := fun t8_1006 =>
  if t8_1006 < (s_999.length : Int) then
  (idx s_999 t8_1006).bind fun (x_1014 : Canonical) =>
  if ((v_1000.Context == x_1014.Context) && ((v_1000.A == x_1014.A) && (v_1000.B == x_1014.B))) = true then
  some (.done (.inr t8_1006))
  else
  some (.next (IntKind.i64.wrap (t8_1006 + 1)))
  else
  some (.done (.inl ()))
noncomputable def slices_Index_Canonical (s_999 : List Canonical) (v_1000 : Canonical) : Option (Int) :=
  (LoopF (slices_Index_Canonical_l1 s_999 v_1000) 0).bind (fun o => match o with
  | .inl () =>
  some (-1)
  | .inr r_1019 =>
  some r_1019)
noncomputable def slices_Contains_Canonical (s_1023 : List Canonical) (v_1024 : Canonical) : Option (Bool) :=
  (slices_Index_Canonical s_1023 v_1024).bind fun (r_1025 : Int) =>
  some (decide (r_1025 ≥ 0))
noncomputable def slices_Sorted_int (seq_1160 : List Int) : Option (List Int) :=
  if seq_1160.length ≤ 1000000000000 then
  (srtIF seq_1160).bind fun (l_1163 : List Int) =>
  some l_1163
  else none
noncomputable def slices_Values_int (l : List Int) : Option (List Int) := some l
noncomputable def ordering_set_l1 (l_1167 : List Int) : (Int × Int) → Option (LS (Int × Int) (Int)) := fun (s_1175, t8_1176) =>
  if t8_1176 < (l_1167.length : Int) then
  (idx l_1167 t8_1176).bind fun (x_1189 : Int) =>
  if x_1189 < 0 then none else
  some (.next ((IntKind.u32.wrap ((BitVec.ofInt 32 s_1175 ||| (BitVec.ofInt 32 (IntKind.u32.wrap (1 * 2 ^ (min (x_1189).toNat 32))))).toNat : Int)), (IntKind.i64.wrap (t8_1176 + 1))))
  else
  some (.done s_1175)
noncomputable def ordering_set (l_1167 : List Int) : Option (Int) :=
  (LoopF (ordering_set_l1 l_1167) (0, 0)).bind (fun s_1184 =>
  some s_1184)
noncomputable def ordering_Canonical_l1 (r_1204 : List Int) (r_1214 : List Int) : (List Canonical × Int) → Option (LS (List Canonical × Int) (List Canonical)) := fun (out_1250, t28_1251) =>
  if t28_1251 < (r_1214.length : Int) then
  (idx r_1214 t28_1251).bind fun (x_1291 : Int) =>
  (ordering_set r_1204).bind fun (r_1293 : Int) =>
  (show Option (Bool) from
  if (x_1291 == (-1)) = true then
  some true
  else
  if x_1291 < 0 then none else
  if ((IntKind.u32.wrap ((BitVec.ofInt 32 (Int.fdiv r_1293 (2 ^ (min (x_1291).toNat 32))) &&& (1#32)).toNat : Int)) == 1) = true then
  some true
  else
  some false).bind (fun trivial_1301 =>
  (show Option (Bool) from
  if trivial_1301 = true then
  some false
  else
  (slices_Contains_Canonical out_1250 (Canonical.mk r_1293 x_1291 (-1))).bind fun (r_1315 : Bool) =>
  some (!r_1315)).bind (fun t39_1311 =>
  if t39_1311 = true then
  if roomB (out_1250.length + 1) 24 = true then
  some (.next ((out_1250 ++ [(Canonical.mk r_1293 x_1291 (-1))]), (IntKind.i64.wrap (t28_1251 + 1))))
  else none
  else
  some (.next (out_1250, (IntKind.i64.wrap (t28_1251 + 1))))))
  else
  some (.done out_1250)
noncomputable def ordering_Canonical_l4 (r_1204 : List Int) (r_1206 : List Int) (t41_1470 : Int) (x_1625 : Int) : (List Canonical × Int) → Option (LS (List Canonical × Int) (List Canonical)) := fun (out_1672, t48_1673) =>
  if t48_1673 < (r_1206.length : Int) then
  (idx r_1206 t48_1673).bind fun (x_1725 : Int) =>
  if (0 : Int) ≤ t41_1470 then
  if t41_1470 ≤ (r_1204.length : Int) then
  (ordering_set (r_1204.take (t41_1470.toNat))).bind fun (r_1729 : Int) =>
  if (0 : Int) ≤ t48_1673 then
  if t48_1673 ≤ (r_1206.length : Int) then
  (ordering_set (r_1206.take (t48_1673.toNat))).bind fun (r_1733 : Int) =>
  (show Option (Bool) from
  if ((if x_1725 < x_1625 then x_1725 else x_1625) == (if x_1725 > x_1625 then x_1725 else x_1625)) = true then
  some true
  else
  if (if x_1725 < x_1625 then x_1725 else x_1625) < 0 then none else
  if ((IntKind.u32.wrap ((BitVec.ofInt 32 (Int.fdiv (IntKind.u32.wrap ((BitVec.ofInt 32 r_1729 ||| (BitVec.ofInt 32 r_1733)).toNat : Int)) (2 ^ (min ((if x_1725 < x_1625 then x_1725 else x_1625)).toNat 32))) &&& (1#32)).toNat : Int)) == 1) = true then
  some true
  else
  if (if x_1725 > x_1625 then x_1725 else x_1625) ≥ 0 then
  if (if x_1725 > x_1625 then x_1725 else x_1625) < 0 then none else
  some ((IntKind.u32.wrap ((BitVec.ofInt 32 (Int.fdiv (IntKind.u32.wrap ((BitVec.ofInt 32 r_1729 ||| (BitVec.ofInt 32 r_1733)).toNat : Int)) (2 ^ (min ((if x_1725 > x_1625 then x_1725 else x_1625)).toNat 32))) &&& (1#32)).toNat : Int)) == 1)
  else
  some false).bind (fun trivial_1744 =>
  (show Option (Bool) from
  if trivial_1744 = true then
  some false
  else
  (slices_Contains_Canonical out_1672 (Canonical.mk (IntKind.u32.wrap ((BitVec.ofInt 32 r_1729 ||| (BitVec.ofInt 32 r_1733)).toNat : Int)) (if x_1725 < x_1625 then x_1725 else x_1625) (if x_1725 > x_1625 then x_1725 else x_1625))).bind fun (r_1761 : Bool) =>
  some (!r_1761)).bind (fun t39_1757 =>
  if t39_1757 = true then
  if roomB (out_1672.length + 1) 24 = true then
  some (.next ((out_1672 ++ [(Canonical.mk (IntKind.u32.wrap ((BitVec.ofInt 32 r_1729 ||| (BitVec.ofInt 32 r_1733)).toNat : Int)) (if x_1725 < x_1625 then x_1725 else x_1625) (if x_1725 > x_1625 then x_1725 else x_1625))]), (IntKind.i64.wrap (t48_1673 + 1))))
  else none
  else
  some (.next (out_1672, (IntKind.i64.wrap (t48_1673 + 1))))))
  else none
  else none
  else none
  else none
  else
  some (.done out_1672)
noncomputable def ordering_Canonical_l5 (r_1204 : List Int) (r_1206 : List Int) : (List Canonical × Int) → Option (LS (List Canonical × Int) (List Canonical)) := fun (out_1469, t41_1470) =>
  if t41_1470 < (r_1204.length : Int) then
  (idx r_1204 t41_1470).bind fun (x_1625 : Int) =>
  (LoopF (ordering_Canonical_l4 r_1204 r_1206 t41_1470 x_1625) (out_1469, 0)).bind (fun out_1720 =>
  some (.next (out_1720, (IntKind.i64.wrap (t41_1470 + 1)))))
  else
  some (.done out_1469)
noncomputable def ordering_Canonical (d_1196 : OD) : Option (List Canonical × Int) :=
  (ordering_Valid 16 d_1196).bind fun (r_1197 : Bool) =>
  if r_1197 = true then
  (ordering_once d_1196.Lhs).bind fun (r_1204 : List Int) =>
  (ordering_once d_1196.Rhs).bind fun (r_1206 : List Int) =>
  (slices_Values_int r_1206).bind fun (r_1212 : List Int) =>
  (slices_Sorted_int r_1212).bind fun (r_1214 : List Int) =>
  (LoopF (ordering_Canonical_l1 r_1204 r_1214) ([], 0)).bind (fun out_1286 =>
  (LoopF (ordering_Canonical_l5 r_1204 r_1206) (out_1286, 0)).bind (fun out_1620 =>
  some (out_1620, 0)))
  else
  some ([], 1)
noncomputable def slices_Equal_Canonical_l1 (s1_1775 : List Canonical) (s2_1776 : List Canonical) : Int → Option (LS (Int) ((Unit) ⊕ (Bool))) := fun t13_1785 =>
  if t13_1785 < (s1_1775.length : Int) then
  (idx s1_1775 t13_1785).bind fun (x_1795 : Canonical) =>
  (idx s2_1776 t13_1785).bind fun (x_1797 : Canonical) =>
  if ((x_1795.Context == x_1797.Context) && ((x_1795.A == x_1797.A) && (x_1795.B == x_1797.B))) = true then
  some (.next (IntKind.i64.wrap (t13_1785 + 1)))
  else
  some (.done (.inr false))
  else
  some (.done (.inl ()))
noncomputable def slices_Equal_Canonical (s1_1775 : List Canonical) (s2_1776 : List Canonical) : Option (Bool) :=
  if ((s1_1775.length : Int) != (s2_1776.length : Int)) = true then
  some false
  else
  (LoopF (slices_Equal_Canonical_l1 s1_1775 s2_1776) 0).bind (fun o => match o with
  | .inl () =>
  some true
  | .inr r_1802 =>
  some r_1802)
noncomputable def drosslaw17_awake : Option (Bool) :=
  (drosslaw17_example ).bind fun (r_1808 : Table) =>
  (ordering_Holds r_1808 (OD.mk [0] [0])).bind fun (r_1812 : Bool × Int) =>
  (ordering_Violation r_1808 (OD.mk [0] [1])).bind fun (r_1816 : Int × Int × Int × Bool) =>
  (ordering_Violation r_1808 (OD.mk [] [0])).bind fun (r_1820 : Int × Int × Int × Bool) =>
  (ordering_Canonical (OD.mk [0, 1] [2, 0])).bind fun (r_1824 : List Canonical × Int) =>
  if (r_1812.2 == 0) = true then
  if r_1812.1 = true then
  if r_1816.2.2.2 = true then
  if (r_1816.1 == 2) = true then
  if (r_1816.2.1 == 3) = true then
  if (r_1816.2.2.1 == 2) = true then
  if r_1820.2.2.2 = true then
  if (r_1820.1 == 1) = true then
  if (r_1820.2.1 == 2) = true then
  if (r_1820.2.2.1 == 1) = true then
  if (r_1824.2 == 0) = true then
  (slices_Equal_Canonical r_1824.1 [(Canonical.mk 3 2 (-1)), (Canonical.mk 0 0 2), (Canonical.mk 1 1 2)]).bind fun (r_1837 : Bool) =>
  some r_1837
  else
  some false
  else
  some false
  else
  some false
  else
  some false
  else
  some false
  else
  some false
  else
  some false
  else
  some false
  else
  some false
  else
  some false
  else
  some false
noncomputable def drossref17_members_l1 (n_1840 : Int) (l_1841 : List Int) : (List Int × Int) → Option (LS (List Int × Int) (List Int)) := fun (out_1848, i_1849) =>
  if i_1849 < (l_1841.length : Int) then
  if i_1849 < 5 then
  if n_1840 > 0 then
  (idx l_1841 i_1849).bind fun (x_1861 : Int) =>
  if n_1840 = 0 then none else
  if roomB (out_1848.length + 1) 8 = true then
  some (.next ((out_1848 ++ [(Int.tmod (IntKind.i64.wrap x_1861) n_1840)]), (IntKind.i64.wrap (i_1849 + 1))))
  else none
  else
  some (.done out_1848)
  else
  some (.done out_1848)
  else
  some (.done out_1848)
noncomputable def drossref17_members (n_1840 : Int) (l_1841 : List Int) : Option (List Int) :=
  (LoopF (drossref17_members_l1 n_1840 l_1841) ([], 0)).bind (fun out_1857 =>
  some out_1857)
noncomputable def drossref17_Of (n_1869 : Int) (x_1870 : Drossref17_Lists) : Option (OD) :=
  (drossref17_members n_1869 x_1870.X).bind fun (r_1871 : List Int) =>
  (drossref17_members n_1869 x_1870.Y).bind fun (r_1873 : List Int) =>
  some (OD.mk r_1871 r_1873)
noncomputable def ordering_Sorted_1 (n_1876 : Int) (c_1877 : List Int) : Option (Bool) :=
  (ordering_list n_1876 c_1877).bind fun (r_1878 : Bool) =>
  some r_1878
noncomputable def slices_SortedFunc_Row (seq_1978 : List Row) (cmp_1979 : Row → Row → Option (Int)) : Option (List Row) :=
  if seq_1978.length ≤ 1000000000000 then
  (srtF cmp_1979 seq_1978).bind fun (l_1985 : List Row) =>
  some l_1985
  else none
noncomputable def slices_Values_Row (l : List Row) : Option (List Row) := some l
noncomputable def ordering_Sorted_2 (a_1989 : Row) (b_1990 : Row) (c_1991 : List Int) : Option (Int) :=
  (ordering_compare a_1989 b_1990 c_1991).bind fun (r_1992 : Int) =>
  (cmp_Compare_int64 a_1989.ID b_1990.ID).bind fun (r_1994 : Int) =>
  (cmp_Or_int [r_1992, r_1994]).bind fun (r_1996 : Int) =>
  some r_1996
noncomputable def ordering_Sorted_l1 (r_2018 : List Row) : (List Int × Int) → Option (LS (List Int × Int) (List Int)) := fun (out_2027, t24_2028) =>
  if t24_2028 < (r_2018.length : Int) then
  (idx r_2018 t24_2028).bind fun (x_2041 : Row) =>
  if roomB (out_2027.length + 1) 8 = true then
  some (.next ((out_2027 ++ [x_2041.ID]), (IntKind.i64.wrap (t24_2028 + 1))))
  else none
  else
  some (.done out_2027)
noncomputable def ordering_Sorted (t_1999 : Table) (l_2000 : List Int) : Option (List Int × Int) :=
  (ordering_check t_1999 (fun (y_2004 : Int) => ordering_Sorted_1 y_2004 l_2000)).bind fun (r_2005 : Int) =>
  if (r_2005 != 0) = true then
  some ([], r_2005)
  else
  (slices_Values_Row t_1999.Rows).bind fun (r_2014 : List Row) =>
  (slices_SortedFunc_Row r_2014 (fun (y_2016 : Row) (y_2017 : Row) => ordering_Sorted_2 y_2016 y_2017 l_2000)).bind fun (r_2018 : List Row) =>
  (LoopF (ordering_Sorted_l1 r_2018) ([], 0)).bind (fun out_2036 =>
  some (out_2036, 0))
noncomputable def drossref01_sign (a_2048 : Int) (b_2049 : Int) : Option (Int) :=
  if a_2048 < b_2049 then
  some (-1)
  else
  if a_2048 > b_2049 then
  some 1
  else
  some 0
noncomputable def drossref01_strings_l1 (a_2053 : List UInt8) (b_2054 : List UInt8) : Int → Option (LS (Int) ((Unit) ⊕ (Int))) := fun i_2068 =>
  if i_2068 < (a_2053.length : Int) then
  if i_2068 < (b_2054.length : Int) then
  (idx a_2053 i_2068).bind fun (c_2088 : UInt8) =>
  (idx b_2054 i_2068).bind fun (c_2090 : UInt8) =>
  if (((c_2088.toNat : Nat) : Int) != ((c_2090.toNat : Nat) : Int)) = true then
  (drossref01_sign (IntKind.i64.wrap ((c_2088.toNat : Nat) : Int)) (IntKind.i64.wrap ((c_2090.toNat : Nat) : Int))).bind fun (r_2093 : Int) =>
  some (.done (.inr r_2093))
  else
  some (.next (IntKind.i64.wrap (i_2068 + 1)))
  else
  some (.done (.inl ()))
  else
  some (.done (.inl ()))
noncomputable def drossref01_strings (a_2053 : List UInt8) (b_2054 : List UInt8) : Option (Int) :=
  (LoopF (drossref01_strings_l1 a_2053 b_2054) 0).bind (fun o => match o with
  | .inl () =>
  (drossref01_sign (a_2053.length : Int) (b_2054.length : Int)).bind fun (r_2097 : Int) =>
  some r_2097
  | .inr r_2099 =>
  some r_2099)
noncomputable def drossref01_Compare (a_2103 : Value) (b_2104 : Value) : Option (Int) :=
  (drossref01_sign a_2103.Kind b_2104.Kind).bind fun (r_2105 : Int) =>
  if (r_2105 != 0) = true then
  some r_2105
  else
  (drossref01_sign a_2103.Num b_2104.Num).bind fun (r_2108 : Int) =>
  if (r_2108 != 0) = true then
  some r_2108
  else
  (drossref01_strings a_2103.Str b_2104.Str).bind fun (r_2111 : Int) =>
  some r_2111
noncomputable def drossref17_Compare_l1 (a_2114 : Row) (b_2115 : Row) (l_2116 : List Int) : Int → Option (LS (Int) ((Unit) ⊕ (Int))) := fun i_2127 =>
  if i_2127 < (l_2116.length : Int) then
  (idx l_2116 i_2127).bind fun (x_2139 : Int) =>
  (idx a_2114.Values x_2139).bind fun (x_2141 : Value) =>
  (idx b_2115.Values x_2139).bind fun (x_2143 : Value) =>
  (drossref01_Compare x_2141 x_2143).bind fun (r_2145 : Int) =>
  if (r_2145 != 0) = true then
  some (.done (.inr r_2145))
  else
  some (.next (IntKind.i64.wrap (i_2127 + 1)))
  else
  some (.done (.inl ()))
noncomputable def drossref17_Compare (a_2114 : Row) (b_2115 : Row) (l_2116 : List Int) : Option (Int) :=
  (LoopF (drossref17_Compare_l1 a_2114 b_2115 l_2116) 0).bind (fun o => match o with
  | .inl () =>
  some 0
  | .inr r_2150 =>
  some r_2150)
noncomputable def drossref03_letter (c_2154 : Int) : Option (Bool) :=
  if c_2154 ≥ 97 then
  if c_2154 ≤ 122 then
  some true
  else
  if c_2154 ≥ 65 then
  if c_2154 ≤ 90 then
  some true
  else
  some (c_2154 == 95)
  else
  some (c_2154 == 95)
  else
  if c_2154 ≥ 65 then
  if c_2154 ≤ 90 then
  some true
  else
  some (c_2154 == 95)
  else
  some (c_2154 == 95)
noncomputable def drossref03_Name_l1 (s_2162 : List UInt8) : Int → Option (LS (Int) ((Unit) ⊕ (Bool))) := fun i_2181 =>
  if i_2181 < (s_2162.length : Int) then
  (idx s_2162 i_2181).bind fun (c_2191 : UInt8) =>
  (drossref03_letter ((c_2191.toNat : Nat) : Int)).bind fun (r_2193 : Bool) =>
  if r_2193 = true then
  some (.next (IntKind.i64.wrap (i_2181 + 1)))
  else
  if ((c_2191.toNat : Nat) : Int) < 48 then
  some (.done (.inr false))
  else
  if ((c_2191.toNat : Nat) : Int) > 57 then
  some (.done (.inr false))
  else
  some (.next (IntKind.i64.wrap (i_2181 + 1)))
  else
  some (.done (.inl ()))
noncomputable def drossref03_Name (s_2162 : List UInt8) : Option (Bool) :=
  if ((s_2162.length : Int) == 0) = true then
  some false
  else
  if (s_2162.length : Int) > 24 then
  some false
  else
  (s_2162[0]?).bind fun (c_2167 : UInt8) =>
  (drossref03_letter ((c_2167.toNat : Nat) : Int)).bind fun (r_2169 : Bool) =>
  if r_2169 = true then
  if (s_2162 == [110, 117, 108, 108]) = true then
  some false
  else
  (LoopF (drossref03_Name_l1 s_2162) 0).bind (fun o => match o with
  | .inl () =>
  some true
  | .inr r_2200 =>
  some r_2200)
  else
  some false
noncomputable def drossref03_Attr_l1 (l_2204 : List (List UInt8)) (name_2205 : List UInt8) : Int → Option (LS (Int) ((Unit) ⊕ (Int))) := fun i_2210 =>
  if i_2210 < (l_2204.length : Int) then
  (idx l_2204 i_2210).bind fun (x_2216 : List UInt8) =>
  if (x_2216 == name_2205) = true then
  some (.done (.inr i_2210))
  else
  some (.next (IntKind.i64.wrap (i_2210 + 1)))
  else
  some (.done (.inl ()))
noncomputable def drossref03_Attr (l_2204 : List (List UInt8)) (name_2205 : List UInt8) : Option (Int) :=
  (LoopF (drossref03_Attr_l1 l_2204 name_2205) 0).bind (fun o => match o with
  | .inl () =>
  some (-1)
  | .inr r_2221 =>
  some r_2221)
noncomputable def drossref03_Names_l1 (l_2225 : List (List UInt8)) : Int → Option (LS (Int) ((Unit) ⊕ (Bool))) := fun i_2237 =>
  if i_2237 < (l_2225.length : Int) then
  (idx l_2225 i_2237).bind fun (x_2252 : List UInt8) =>
  (drossref03_Name x_2252).bind fun (r_2254 : Bool) =>
  if r_2254 = true then
  if (0 : Int) ≤ i_2237 then
  if i_2237 ≤ (l_2225.length : Int) then
  (drossref03_Attr (l_2225.take (i_2237.toNat)) x_2252).bind fun (r_2261 : Int) =>
  if r_2261 ≥ 0 then
  some (.done (.inr false))
  else
  some (.next (IntKind.i64.wrap (i_2237 + 1)))
  else none
  else none
  else
  some (.done (.inr false))
  else
  some (.done (.inl ()))
noncomputable def drossref03_Names (l_2225 : List (List UInt8)) : Option (Bool) :=
  (LoopF (drossref03_Names_l1 l_2225) 0).bind (fun o => match o with
  | .inl () =>
  some true
  | .inr r_2266 =>
  some r_2266)
noncomputable def drossref01_Valid (v_2270 : Value) : Option (Bool) :=
  if (v_2270.Kind == 0) = true then
  if (v_2270.Num == 0) = true then
  some (v_2270.Str == [])
  else
  some false
  else
  if (v_2270.Kind == 1) = true then
  some (v_2270.Str == [])
  else
  if (v_2270.Kind == 2) = true then
  if (v_2270.Num == 0) = true then
  some (decide ((v_2270.Str.length : Int) ≤ 200))
  else
  some false
  else
  if (v_2270.Kind == 3) = true then
  if v_2270.Num ≥ 1 then
  some (v_2270.Str == [])
  else
  some false
  else
  some false
noncomputable def drossref01_Valids_l1 (l_2279 : List Value) : Int → Option (LS (Int) ((Unit) ⊕ (Bool))) := fun i_2286 =>
  if i_2286 < (l_2279.length : Int) then
  (idx l_2279 i_2286).bind fun (x_2294 : Value) =>
  (drossref01_Valid x_2294).bind fun (r_2296 : Bool) =>
  if r_2296 = true then
  some (.next (IntKind.i64.wrap (i_2286 + 1)))
  else
  some (.done (.inr false))
  else
  some (.done (.inl ()))
noncomputable def drossref01_Valids (l_2279 : List Value) : Option (Bool) :=
  (LoopF (drossref01_Valids_l1 l_2279) 0).bind (fun o => match o with
  | .inl () =>
  some true
  | .inr r_2301 =>
  some r_2301)
noncomputable def drossref03_Valid_l1 (t_2305 : Table) : (Int × Int) → Option (LS (Int × Int) ((Unit) ⊕ (Int))) := fun (before_2324, i_2325) =>
  if i_2325 < (t_2305.Rows.length : Int) then
  (idx t_2305.Rows i_2325).bind fun (x_2339 : Row) =>
  if x_2339.ID ≤ before_2324 then
  some (.done (.inr 1))
  else
  if ((x_2339.Values.length : Int) != (t_2305.Attrs.length : Int)) = true then
  some (.done (.inr 6))
  else
  (drossref01_Valids x_2339.Values).bind fun (r_2343 : Bool) =>
  if r_2343 = true then
  some (.next (x_2339.ID, (IntKind.i64.wrap (i_2325 + 1))))
  else
  some (.done (.inr 1))
  else
  some (.done (.inl ()))
noncomputable def drossref03_Valid (t_2305 : Table) : Option (Int) :=
  (drossref03_Name t_2305.Name).bind fun (r_2306 : Bool) =>
  if r_2306 = true then
  if (t_2305.Attrs.length : Int) > 16 then
  some 3
  else
  if (t_2305.Rows.length : Int) > 1000 then
  some 3
  else
  (drossref03_Names t_2305.Attrs).bind fun (r_2311 : Bool) =>
  if r_2311 = true then
  (LoopF (drossref03_Valid_l1 t_2305) (0, 0)).bind (fun o => match o with
  | .inl () =>
  some 0
  | .inr r_2348 =>
  some r_2348)
  else
  some 1
  else
  some 1
noncomputable def drossref17_list_l1 (n_2352 : Int) (l_2353 : List Int) : Int → Option (LS (Int) ((Unit) ⊕ (Bool))) := fun i_2359 =>
  if i_2359 < (l_2353.length : Int) then
  (idx l_2353 i_2359).bind fun (x_2366 : Int) =>
  if x_2366 < 0 then
  some (.done (.inr false))
  else
  if x_2366 ≥ n_2352 then
  some (.done (.inr false))
  else
  some (.next (IntKind.i64.wrap (i_2359 + 1)))
  else
  some (.done (.inl ()))
noncomputable def drossref17_list (n_2352 : Int) (l_2353 : List Int) : Option (Bool) :=
  (LoopF (drossref17_list_l1 n_2352 l_2353) 0).bind (fun o => match o with
  | .inl () =>
  some (decide ((l_2353.length : Int) ≤ 8))
  | .inr r_2372 =>
  some r_2372)
noncomputable def drossref17_Valid (n_2376 : Int) (d_2377 : OD) : Option (Bool) :=
  (drossref17_list n_2376 d_2377.Lhs).bind fun (r_2378 : Bool) =>
  if r_2378 = true then
  (drossref17_list n_2376 d_2377.Rhs).bind fun (r_2381 : Bool) =>
  some r_2381
  else
  some false
noncomputable def drossref17_Error (t_2384 : Table) (d_2385 : OD) : Option (Int) :=
  (drossref03_Valid t_2384).bind fun (r_2386 : Int) =>
  if (r_2386 != 0) = true then
  some r_2386
  else
  (drossref17_Valid (t_2384.Attrs.length : Int) d_2385).bind fun (r_2389 : Bool) =>
  if r_2389 = true then
  some 0
  else
  some 1
noncomputable def drossref17_Sorted_l3 (l_2394 : List Int) (rows_2446 : List Row) : (Int × Int) → Option (LS (Int × Int) (Int)) := fun (best_2500, i_2501) =>
  if i_2501 < (rows_2446.length : Int) then
  (idx rows_2446 i_2501).bind fun (x_2512 : Row) =>
  (idx rows_2446 best_2500).bind fun (x_2514 : Row) =>
  (drossref17_Compare x_2512 x_2514 l_2394).bind fun (r_2516 : Int) =>
  if r_2516 < 0 then
  some (.next (i_2501, (IntKind.i64.wrap (i_2501 + 1))))
  else
  some (.next (best_2500, (IntKind.i64.wrap (i_2501 + 1))))
  else
  some (.done best_2500)
noncomputable def drossref17_Sorted_l4 (l_2394 : List Int) : (List Row × List Int) → Option (LS (List Row × List Int) (List Int)) := fun (rows_2446, out_2447) =>
  if (rows_2446.length : Int) > 0 then
  (LoopF (drossref17_Sorted_l3 l_2394 rows_2446) (0, 1)).bind (fun best_2510 =>
  (idx rows_2446 best_2510).bind fun (x_2524 : Row) =>
  if roomB (out_2447.length + 1) 8 = true then
  if 0 ≤ best_2510 then
  if best_2510 ≤ (rows_2446.length : Int) then
  if 0 ≤ (IntKind.i64.wrap (best_2510 + 1)) then
  if (IntKind.i64.wrap (best_2510 + 1)) ≤ (rows_2446.length : Int) then
  if roomB ((rows_2446.take best_2510.toNat).length + ((rows_2446.drop (IntKind.i64.wrap (best_2510 + 1)).toNat).take (rows_2446.length - (IntKind.i64.wrap (best_2510 + 1)).toNat)).length) 32 = true then
  some (.next (((rows_2446.take best_2510.toNat) ++ ((rows_2446.drop (IntKind.i64.wrap (best_2510 + 1)).toNat).take (rows_2446.length - (IntKind.i64.wrap (best_2510 + 1)).toNat))), (out_2447 ++ [x_2524.ID])))
  else none
  else none
  else none
  else none
  else none
  else none)
  else
  some (.done out_2447)
noncomputable def drossref17_Sorted (t_2393 : Table) (l_2394 : List Int) : Option (List Int × Int) :=
  (drossref17_Error t_2393 (OD.mk l_2394 [])).bind fun (r_2397 : Int) =>
  if (r_2397 != 0) = true then
  some ([], r_2397)
  else
  if roomB t_2393.Rows.length 32 = true then
  (LoopF (drossref17_Sorted_l4 l_2394) (t_2393.Rows, [])).bind (fun out_2490 =>
  some (out_2490, 0))
  else none
noncomputable def drossref03_IDs_l1 (a_2537 : List Int) (b_2538 : List Int) : Int → Option (LS (Int) ((Unit) ⊕ (Bool))) := fun i_2546 =>
  if i_2546 < (a_2537.length : Int) then
  (idx a_2537 i_2546).bind fun (x_2554 : Int) =>
  (idx b_2538 i_2546).bind fun (x_2556 : Int) =>
  if (x_2554 != x_2556) = true then
  some (.done (.inr false))
  else
  some (.next (IntKind.i64.wrap (i_2546 + 1)))
  else
  some (.done (.inl ()))
noncomputable def drossref03_IDs (a_2537 : List Int) (b_2538 : List Int) : Option (Bool) :=
  if ((a_2537.length : Int) != (b_2538.length : Int)) = true then
  some false
  else
  (LoopF (drossref03_IDs_l1 a_2537 b_2538) 0).bind (fun o => match o with
  | .inl () =>
  some true
  | .inr r_2561 =>
  some r_2561)
noncomputable def drossref03_Find_l1 (t_2565 : Table) (id_2566 : Int) : Int → Option (LS (Int) ((Unit) ⊕ (Int × Bool))) := fun i_2571 =>
  if i_2571 < (t_2565.Rows.length : Int) then
  (idx t_2565.Rows i_2571).bind fun (x_2577 : Row) =>
  if (x_2577.ID == id_2566) = true then
  some (.done (.inr (i_2571, true)))
  else
  some (.next (IntKind.i64.wrap (i_2571 + 1)))
  else
  some (.done (.inl ()))
noncomputable def drossref03_Find (t_2565 : Table) (id_2566 : Int) : Option (Int × Bool) :=
  (LoopF (drossref03_Find_l1 t_2565 id_2566) 0).bind (fun o => match o with
  | .inl () =>
  some (0, false)
  | .inr r_2582 =>
  some r_2582)
noncomputable def drosslaw17_OrderingSorted_l1 (r_2590 : Table × Bool) (r_2606 : OD) (r_2610 : List Int × Int) : Int → Option (LS (Int) ((Unit) ⊕ (Bool))) := fun i_2663 =>
  if i_2663 < (r_2610.1.length : Int) then
  (idx r_2610.1 (IntKind.i64.wrap (i_2663 - 1))).bind fun (x_2706 : Int) =>
  (drossref03_Find r_2590.1 x_2706).bind fun (r_2708 : Int × Bool) =>
  (idx r_2610.1 i_2663).bind fun (x_2714 : Int) =>
  (drossref03_Find r_2590.1 x_2714).bind fun (r_2716 : Int × Bool) =>
  (idx r_2590.1.Rows r_2708.1).bind fun (x_2726 : Row) =>
  (idx r_2590.1.Rows r_2716.1).bind fun (x_2728 : Row) =>
  (drossref17_Compare x_2726 x_2728 r_2606.Lhs).bind fun (r_2730 : Int) =>
  (drossref17_Compare x_2726 x_2728 r_2606.Rhs).bind fun (r_2732 : Int) =>
  if r_2730 > 0 then
  some (.done (.inr false))
  else
  if r_2732 > 0 then
  some (.done (.inr false))
  else
  if (r_2730 == 0) = true then
  if (r_2732 != 0) = true then
  some (.done (.inr false))
  else
  some (.next (IntKind.i64.wrap (i_2663 + 1)))
  else
  some (.next (IntKind.i64.wrap (i_2663 + 1)))
  else
  some (.done (.inl ()))
noncomputable def drosslaw17_OrderingSorted (x_2586 : Drossref03_Recipe) (l_2587 : Drossref17_Lists) : Option (Bool) :=
  (drossref03_Table x_2586 8).bind fun (r_2590 : Table × Bool) =>
  (show Option (Bool) from
  (drosslaw17_awake ).bind fun (r_2598 : Bool) =>
  if r_2598 = true then
  some (!r_2590.2)
  else
  some true).bind (fun t31_2595 =>
  if t31_2595 = true then
  (drosslaw17_awake ).bind fun (r_2602 : Bool) =>
  some r_2602
  else
  (drossref17_Of (r_2590.1.Attrs.length : Int) l_2587).bind fun (r_2606 : OD) =>
  (ordering_Sorted r_2590.1 r_2606.Lhs).bind fun (r_2610 : List Int × Int) =>
  (drossref17_Sorted r_2590.1 r_2606.Lhs).bind fun (r_2614 : List Int × Int) =>
  if (r_2610.2 != 0) = true then
  some false
  else
  (drossref03_IDs r_2610.1 r_2614.1).bind fun (r_2617 : Bool) =>
  if r_2617 = true then
  (ordering_Holds r_2590.1 r_2606).bind fun (r_2622 : Bool × Int) =>
  if (r_2622.2 != 0) = true then
  some (r_2622.2 == 0)
  else
  if r_2622.1 = true then
  (LoopF (drosslaw17_OrderingSorted_l1 r_2590 r_2606 r_2610) 1).bind (fun o => match o with
  | .inl () =>
  some true
  | .inr r_2740 =>
  some r_2740)
  else
  some (r_2622.2 == 0)
  else
  some false)
end Go.Proofs.YtimfcgdnogjlhaaGreat
/- Loops over lists, in plain Lean. -/
set_option linter.unusedVariables false
set_option linter.unusedSimpArgs false
namespace Go.Ab
open Go

/-- a loop over a list: f says how to go on or how it ends -/
def foldR {α β τ : Type} (f : β → α → β ⊕ τ) (fin : β → τ) : List α → β → τ
  | [], b => fin b
  | x :: r, b => match f b x with
    | .inl b' => foldR f fin r b'
    | .inr t => t

theorem LoopF_foldR {α β σ τ : Type} (l : List α) (S : β → Int → σ) (B : σ → Option (LS σ τ)) (f : β → α → β ⊕ τ) (fin : β → τ) (I : Nat → β → Prop)
    (hs : ∀ (k : Nat) b x, l[k]? = some x → I k b → (∀ b', f b x = .inl b' → B (S b k) = some (.next (S b' (k + 1 : Nat))) ∧ I (k + 1) b') ∧ (∀ t, f b x = .inr t → B (S b k) = some (.done t)))
    (he : ∀ b, I l.length b → B (S b l.length) = some (.done (fin b))) :
    ∀ (r : List α) (k : Nat) (b : β), l.drop k = r → k ≤ l.length → I k b → LoopF B (S b k) = some (foldR f fin r b) := by
  intro r
  induction r with
  | nil =>
    intro k b hd hk hI
    have : k = l.length := by
      have := congrArg List.length hd
      simp at this; omega
    subst this
    exact Loop_done (he b hI)
  | cons x r ih =>
    intro k b hd hk hI
    have hx : l[k]? = some x := by
      have := congrArg (·[0]?) hd
      simpa [List.getElem?_drop] using this
    have hlt : k < l.length := (List.getElem?_eq_some_iff.1 hx).1
    have hd' : l.drop (k + 1) = r := by
      rw [← List.drop_drop, hd]; rfl
    obtain ⟨h1, h2⟩ := hs k b x hx hI
    cases hf : f b x with
    | inl b' =>
      obtain ⟨h3, h4⟩ := h1 b' hf
      rw [Loop_next h3, ih (k + 1) b' hd' hlt h4]
      simp [foldR, hf]
    | inr t =>
      rw [Loop_done (h2 t hf)]
      simp [foldR, hf]

theorem LoopF_list {α β σ τ : Type} (l : List α) (S : β → Int → σ) (B : σ → Option (LS σ τ)) (f : β → α → β ⊕ τ) (fin : β → τ) (I : Nat → β → Prop) {b0 : β} {s0 : σ} (h0 : s0 = S b0 0) (hI : I 0 b0)
    (hs : ∀ (k : Nat) b x, l[k]? = some x → k < l.length → I k b → (∀ b', f b x = .inl b' → B (S b k) = some (.next (S b' (k + 1 : Nat))) ∧ I (k + 1) b') ∧ (∀ t, f b x = .inr t → B (S b k) = some (.done t)))
    (he : ∀ b, I l.length b → B (S b l.length) = some (.done (fin b))) : LoopF B s0 = some (foldR f fin l b0) := by
  subst h0
  exact LoopF_foldR l S B f fin I (fun k b x hx => hs k b x hx (lt_of_get hx)) he l 0 b0 rfl (Nat.zero_le _) hI

theorem wrap_succ {k n : Nat} (h : k < n) (hn : n ≤ 4611686018427387904) : IntKind.i64.wrap ((k : Int) + 1) = ((k + 1 : Nat) : Int) := by
  rw [wrap_i64 (by omega) (by omega)]; omega
theorem wrap_nat {k : Nat} (h : k < 4611686018427387904) : IntKind.i64.wrap ((k : Int) + 1) = ((k + 1 : Nat) : Int) := by
  rw [wrap_i64 (by omega) (by omega)]; omega
theorem wrap_u8 (c : UInt8) : IntKind.i64.wrap ((c.toNat : Nat) : Int) = ((c.toNat : Nat) : Int) := by
  have := c.toNat_lt
  exact wrap_i64 (by omega) (by omega)
theorem room_le {n b : Nat} (h : n ≤ 1073741824) (hb : b ≤ 65536) : roomB n b = true := by
  unfold roomB
  have : n * b ≤ 1073741824 * 65536 := Nat.mul_le_mul h hb
  simp only [decide_eq_true_eq]
  omega
theorem idx_get {α : Type} {l : List α} {k : Nat} {x : α} (h : l[k]? = some x) : idx l (k : Int) = some x := by rw [idx_nat, h]
theorem lt_true {α : Type} {l : List α} {k : Nat} {x : α} (h : l[k]? = some x) : ((k : Int) < (l.length : Int)) := by have := lt_of_get h; omega

/-! ### kinds of loops -/
theorem foldR_all {α : Type} (p : α → Bool) : ∀ l : List α, foldR (fun (_ : Unit) x => if p x then Sum.inl () else Sum.inr (Sum.inr false)) (fun _ => (Sum.inl () : Unit ⊕ Bool)) l () = if l.all p then .inl () else .inr false
  | [] => rfl
  | x :: r => by
    simp only [foldR, List.all_cons]
    rcases Bool.eq_false_or_eq_true (p x) with h | h <;> simp [h, foldR_all p r]
theorem foldl_of' {α β τ : Type} (g : β → α → β) (fin : β → τ) : ∀ (l : List α) (b : β), foldR (fun b x => (Sum.inl (g b x) : β ⊕ τ)) fin l b = fin (l.foldl g b)
  | [], _ => rfl
  | x :: r, b => by simp only [foldR, List.foldl_cons]; exact foldl_of' g fin r _
end Go.Ab
namespace Go.Ab
open Go
theorem LoopF_all {α ρ : Type} (l : List α) (B : Int → Option (LS Int (Unit ⊕ ρ))) (p : α → Bool) (bad : ρ)
    (h1 : ∀ (k : Nat) x, l[k]? = some x → k < l.length → p x = true → B k = some (.next (k + 1 : Nat))) (h2 : ∀ (k : Nat) x, l[k]? = some x → p x = false → B k = some (.done (.inr bad))) (h3 : B l.length = some (.done (.inl ()))) :
    LoopF B 0 = some (if l.all p then .inl () else .inr bad) := by
  have h := LoopF_list l (fun (_ : Unit) i => i) B (fun (_ : Unit) x => if p x then Sum.inl () else Sum.inr (Sum.inr bad)) (fun _ => Sum.inl ()) (fun _ _ => True) (b0 := ()) (s0 := 0) rfl trivial
    (fun k b x hx hk _ => by
      constructor
      · intro b' hf
        refine ⟨?_, trivial⟩
        rcases Bool.eq_false_or_eq_true (p x) with hp | hp
        · exact h1 k x hx hk hp
        · simp [hp] at hf
      · intro t hf
        rcases Bool.eq_false_or_eq_true (p x) with hp | hp
        · simp [hp] at hf
        · simp [hp] at hf; subst hf; exact h2 k x hx hp)
    (fun b _ => h3)
  rw [h]
  congr 1
  clear h h1 h2 h3
  induction l with
  | nil => rfl
  | cons x r ih => rcases Bool.eq_false_or_eq_true (p x) with hp | hp <;> simp [foldR, hp, ih]
theorem LoopF_find {α : Type} (l : List α) (B : Int → Option (LS Int (Unit ⊕ Int))) (p : α → Bool)
    (h1 : ∀ (k : Nat) x, l[k]? = some x → k < l.length → p x = false → B k = some (.next (k + 1 : Nat))) (h2 : ∀ (k : Nat) x, l[k]? = some x → p x = true → B k = some (.done (.inr k))) (h3 : B l.length = some (.done (.inl ()))) :
    LoopF B 0 = some (match l.findIdx? p with | some i => .inr (i : Int) | none => .inl ()) := by
  have key : ∀ (r : List α) (k : Nat), l.drop k = r → k ≤ l.length → LoopF B (k : Int) = some (match r.findIdx? p with | some i => .inr ((k + i : Nat) : Int) | none => .inl ()) := by
    intro r
    induction r with
    | nil =>
      intro k hd hk
      have : k = l.length := by
        have := congrArg List.length hd
        simp at this; omega
      subst this
      exact Loop_done h3
    | cons x r ih =>
      intro k hd hk
      have hx : l[k]? = some x := by
        have := congrArg (·[0]?) hd
        simpa [List.getElem?_drop] using this
      have hd' : l.drop (k + 1) = r := by rw [← List.drop_drop, hd]; rfl
      rcases Bool.eq_false_or_eq_true (p x) with hp | hp
      · rw [Loop_done (h2 k x hx hp)]
        simp [List.findIdx?_cons, hp]
      · rw [Loop_next (h1 k x hx (lt_of_get hx) hp), ih (k + 1) hd' (lt_of_get hx)]
        simp only [List.findIdx?_cons, hp]
        cases r.findIdx? p with
        | none => rfl
        | some i => simp; omega
  have := key l 0 (by simp) (Nat.zero_le _)
  simpa using this
/-- a loop that goes to the end of a list -/
theorem LoopF_foldl {α β σ τ : Type} (l : List α) (S : β → Int → σ) (B : σ → Option (LS σ τ)) (g : β → α → β) (fin : β → τ) (I : Nat → β → Prop) {b0 : β} {s0 : σ} (h0 : s0 = S b0 0) (hI : I 0 b0)
    (hs : ∀ (k : Nat) b x, l[k]? = some x → k < l.length → I k b → B (S b k) = some (.next (S (g b x) (k + 1 : Nat))) ∧ I (k + 1) (g b x))
    (he : ∀ b, I l.length b → B (S b l.length) = some (.done (fin b))) : LoopF B s0 = some (fin (l.foldl g b0)) := by
  rw [LoopF_list l S B (fun b x => Sum.inl (g b x)) fin I h0 hI (fun k b x hx hk hi => ⟨fun b' hb => by cases hb; exact hs k b x hx hk hi, fun t ht => by cases ht⟩) he, foldl_of']
end Go.Ab
namespace Go.Ab
open Go
/-! ### what is known of the arguments -/
def okI (k : IntKind) (n : Int) : Prop := (Lit.int k n).wf = true
def okS (s : List UInt8) : Prop := s.length ≤ 1048576
def okL {α : Type} (ok : α → Prop) (l : List α) : Prop := l.length ≤ 1048576 ∧ ∀ x ∈ l, ok x
end Go.Ab
namespace Go.Ab
open Go
/-- all elements, with their places -/
def allFrom {α : Type} (p : Nat → α → Bool) : Nat → List α → Bool
  | _, [] => true
  | k, x :: r => p k x && allFrom p (k + 1) r
theorem LoopF_allk {α ρ : Type} (l : List α) (B : Int → Option (LS Int (Unit ⊕ ρ))) (p : Nat → α → Bool) (bad : ρ)
    (h1 : ∀ (k : Nat) x, l[k]? = some x → k < l.length → p k x = true → B k = some (.next (k + 1 : Nat))) (h2 : ∀ (k : Nat) x, l[k]? = some x → p k x = false → B k = some (.done (.inr bad))) (h3 : B l.length = some (.done (.inl ()))) :
    ∀ (r : List α) (k : Nat), l.drop k = r → k ≤ l.length → LoopF B (k : Int) = some (if allFrom p k r then .inl () else .inr bad) := by
  intro r
  induction r with
  | nil =>
    intro k hd hk
    have : k = l.length := by
      have := congrArg List.length hd
      simp at this; omega
    subst this
    exact Loop_done h3
  | cons x r ih =>
    intro k hd hk
    have hx : l[k]? = some x := by
      have := congrArg (·[0]?) hd
      simpa [List.getElem?_drop] using this
    have hd' : l.drop (k + 1) = r := by rw [← List.drop_drop, hd]; rfl
    rcases Bool.eq_false_or_eq_true (p k x) with hp | hp
    · rw [Loop_next (h1 k x hx (lt_of_get hx) hp), ih (k + 1) hd' (lt_of_get hx)]
      simp [allFrom, hp]
    · rw [Loop_done (h2 k x hx hp)]
      simp [allFrom, hp]
theorem allFrom_all {α : Type} (q : α → Bool) : ∀ (l : List α) (k : Nat), allFrom (fun _ x => q x) k l = l.all q
  | [], _ => rfl
  | x :: r, k => by simp [allFrom, allFrom_all q r]
theorem allFrom_congr {α : Type} {p q : Nat → α → Bool} : ∀ (l : List α) (k : Nat), (∀ j x, k ≤ j → x ∈ l → p j x = q j x) → allFrom p k l = allFrom q k l
  | [], _, _ => rfl
  | x :: r, k, h => by
    simp only [allFrom]
    rw [h k x (Nat.le_refl _) (by simp), allFrom_congr r (k + 1) (fun j y hj hy => h j y (by omega) (by simp [hy]))]
end Go.Ab
set_option linter.unusedVariables false
namespace Go.Proofs.YtimfcgdnogjlhaaGreat
open Go Go.Ab
def okValue (x : Value) : Prop := (okI .i64) x.Kind ∧ (okI .i64) x.Num ∧ okS x.Str
def okRow (x : Row) : Prop := (okI .i64) x.ID ∧ (okL okValue) x.Values
def okDrossref03_Recipe (x : Drossref03_Recipe) : Prop := (okI .u8) x.Attrs ∧ (okI .u8) x.Gap ∧ (okL (okL (okI .u8))) x.Rows
def okTable (x : Table) : Prop := okS x.Name ∧ (okL okS) x.Attrs ∧ (okL okRow) x.Rows
def okOD (x : OD) : Prop := (okL (okI .i64)) x.Lhs ∧ (okL (okI .i64)) x.Rhs
def okCanonical (x : Canonical) : Prop := (okI .u32) x.Context ∧ (okI .i64) x.A ∧ (okI .i64) x.B
def okDrossref17_Lists (x : Drossref17_Lists) : Prop := (okL (okI .u8)) x.X ∧ (okL (okI .u8)) x.Y
end Go.Proofs.YtimfcgdnogjlhaaGreat
/- Sets of attributes: numbers of 32 bits. -/
set_option linter.unusedVariables false
set_option linter.unusedSimpArgs false
namespace Go.Ab
open Go
end Go.Ab
/- The values of the program and of the reference: valid ones, their order. -/
set_option linter.unusedVariables false
set_option linter.unusedSimpArgs false
namespace Go.Proofs.YtimfcgdnogjlhaaGreat
open Go Go.Ab

def valid (v : Value) : Bool := decide ((v.Kind = 0 ∧ v.Num = 0 ∧ v.Str = []) ∨ (v.Kind = 1 ∧ v.Str = []) ∨ (v.Kind = 2 ∧ v.Num = 0 ∧ v.Str.length ≤ 200) ∨ (v.Kind = 3 ∧ 1 ≤ v.Num ∧ v.Str = []))
theorem value_Valid_eq (v : Value) : value_Valid v = some (valid v) := by
  simp only [value_Valid, valid]
  repeat' split
  all_goals simp_all
  all_goals (try omega)
  all_goals (try (rw [Bool.eq_iff_iff]; simp <;> omega))
theorem ref_Valid_eq (v : Value) : drossref01_Valid v = some (valid v) := by
  simp only [drossref01_Valid, valid]
  repeat' split
  all_goals simp_all
  all_goals (try omega)
  all_goals (try (rw [Bool.eq_iff_iff]; simp <;> omega))

theorem ref_Valids_eq (l : List Value) (hl : l.length ≤ 1073741824) : drossref01_Valids l = some (l.all valid) := by
  have h := LoopF_list l (fun (_ : Unit) i => i) (drossref01_Valids_l1 l) (fun (_ : Unit) x => if valid x then Sum.inl () else Sum.inr (Sum.inr false)) (fun _ => Sum.inl ()) (fun _ _ => True) (b0 := ()) (s0 := 0) rfl trivial
    (fun k b x hx hk _ => by
      constructor
      · intro b' hf
        refine ⟨?_, trivial⟩
        have hv : valid x = true := by
          by_cases hc : valid x = true
          · exact hc
          · simp [hc] at hf
        simp [drossref01_Valids_l1, lt_true hx, idx_get hx, ref_Valid_eq, hv, wrap_succ hk (by omega)]
      · intro t hf
        have hv : valid x = false := by
          by_cases hc : valid x = true
          · simp [hc] at hf
          · simpa using hc
        simp [hv] at hf
        subst hf
        simp [drossref01_Valids_l1, lt_true hx, idx_get hx, ref_Valid_eq, hv])
    (fun b _ => by simp [drossref01_Valids_l1])
  simp only [drossref01_Valids]
  rw [h, foldR_all]
  cases h2 : l.all valid <;> simp [h2]

def sgn (a b : Int) : Int := if a < b then -1 else if b < a then 1 else 0
theorem ref_sign_eq (a b : Int) : drossref01_sign a b = some (sgn a b) := by
  simp only [drossref01_sign, sgn]
  split <;> (try split) <;> simp_all
theorem cmp_int_eq (a b : Int) : cmp_Compare_int a b = some (sgn a b) := by
  simp only [cmp_Compare_int, cmp_isNaN_int, sgn]
  simp
  split <;> (try split) <;> simp_all
theorem cmp_int64_eq (a b : Int) : cmp_Compare_int64 a b = some (sgn a b) := by
  simp only [cmp_Compare_int64, cmp_isNaN_int64, sgn]
  simp
  split <;> (try split) <;> simp_all

def strc : List UInt8 → List UInt8 → Int
  | [], [] => 0
  | [], _ :: _ => -1
  | _ :: _, [] => 1
  | a :: x, b :: y => if a = b then strc x y else sgn a.toNat b.toNat
theorem compareBytes_eq : ∀ a b : List UInt8, Lib.compareBytes a b = strc a b
  | [], [] => rfl
  | [], _ :: _ => rfl
  | _ :: _, [] => rfl
  | x :: a, y :: b => by
    simp only [Lib.compareBytes, strc, sgn, compareBytes_eq a b, UInt8.lt_iff_toNat_lt, ← UInt8.toNat_inj]
    split <;> split <;> (try split) <;> (try split) <;> omega
theorem strings_Compare_eq (a b : List UInt8) : strings_Compare a b = some (strc a b) := by
  simp [strings_Compare, bytealg_CompareString, compareBytes_eq]
theorem sgn_ne {a b : Int} (h : a ≠ b) : sgn a b ≠ 0 := by
  unfold sgn; split <;> (try split) <;> omega
/-- what the reference's loop finds in two strings -/
theorem strings_loop (a b : List UInt8) (ha : a.length ≤ 1073741824) : ∀ (r : List UInt8) (k : Nat), a.drop k = r → k ≤ a.length → k ≤ b.length → 
    (∃ o, LoopF (drossref01_strings_l1 a b) (k : Int) = some o ∧ (match o with | .inl () => sgn (r.length) ((b.drop k).length) = strc r (b.drop k) | .inr z => z = strc r (b.drop k))) := by
  intro r
  induction r with
  | nil =>
    intro k hd hk hkb
    have hk' : k = a.length := by
      have := congrArg List.length hd
      simp at this; omega
    subst hk'
    refine ⟨.inl (), Loop_done (by simp [drossref01_strings_l1]), ?_⟩
    cases hb : b.drop a.length with
    | nil => rfl
    | cons y s => simp [strc, sgn]
  | cons x r ih =>
    intro k hd hk hkb
    have hx : a[k]? = some x := by
      have := congrArg (·[0]?) hd
      simpa [List.getElem?_drop] using this
    have hd' : a.drop (k + 1) = r := by rw [← List.drop_drop, hd]; rfl
    have hlt := lt_of_get hx
    cases hb : b.drop k with
    | nil =>
      have hkb' : k = b.length := by
        have := congrArg List.length hb
        simp at this; omega
      subst hkb'
      refine ⟨.inl (), Loop_done (by simp [drossref01_strings_l1]), ?_⟩
      simp [strc, sgn]; omega
    | cons y s =>
      have hy : b[k]? = some y := by
        have := congrArg (·[0]?) hb
        simpa [List.getElem?_drop] using this
      have hb' : b.drop (k + 1) = s := by rw [← List.drop_drop, hb]; rfl
      by_cases hxy : x = y
      · subst hxy
        have h1 : drossref01_strings_l1 a b (k : Int) = some (.next ((k + 1 : Nat) : Int)) := by
          simp [drossref01_strings_l1, lt_true hx, lt_true hy, idx_get hx, idx_get hy, wrap_succ hlt (by omega)]
        obtain ⟨o, h2, h3⟩ := ih (k + 1) hd' hlt (lt_of_get hy)
        refine ⟨o, by rw [Loop_next h1]; exact h2, ?_⟩
        rw [hb'] at h3
        cases o with
        | inl u =>
          simp only at h3 ⊢
          rw [strc, if_pos rfl, ← h3]
          simp only [List.length_cons, sgn]
          split <;> split <;> (try split) <;> (try split) <;> omega
        | inr z =>
          simp only at h3 ⊢
          rw [strc, if_pos rfl, ← h3]
      · have hne : (((x.toNat : Nat) : Int) != ((y.toNat : Nat) : Int)) = true := by
          simp only [bne_iff_ne, ne_eq, Int.natCast_inj, UInt8.toNat_inj]
          exact hxy
        refine ⟨.inr (sgn x.toNat y.toNat), Loop_done ?_, ?_⟩
        · simp only [drossref01_strings_l1, if_pos (lt_true hx), if_pos (lt_true hy), idx_get hx, idx_get hy, Option.bind_some, if_pos hne, wrap_u8, ref_sign_eq]
        · simp only [strc, if_neg hxy]
theorem ref_strings_eq (a b : List UInt8) (ha : a.length ≤ 1073741824) : drossref01_strings a b = some (strc a b) := by
  obtain ⟨o, h1, h2⟩ := strings_loop a b ha a 0 (by simp) (Nat.zero_le _) (Nat.zero_le _)
  simp only [drossref01_strings]
  have h1' : LoopF (drossref01_strings_l1 a b) 0 = some o := h1
  rw [h1']
  cases o with
  | inl u =>
    simp only [List.drop_zero] at h2
    simp [ref_sign_eq, h2]
  | inr z =>
    simp only [List.drop_zero] at h2
    simp [h2]

def vcmp (a b : Value) : Int := if sgn a.Kind b.Kind ≠ 0 then sgn a.Kind b.Kind else if sgn a.Num b.Num ≠ 0 then sgn a.Num b.Num else strc a.Str b.Str
theorem ref_Compare_eq (a b : Value) (ha : a.Str.length ≤ 1073741824) : drossref01_Compare a b = some (vcmp a b) := by
  simp only [drossref01_Compare, ref_sign_eq, ref_strings_eq _ _ ha, vcmp, Option.bind_some]
  split <;> (try split) <;> (try split) <;> simp_all
theorem Or3_eq (a b c : Int) : cmp_Or_int [a, b, c] = some (if a ≠ 0 then a else if b ≠ 0 then b else c) := by
  simp only [cmp_Or_int]
  have w0 : IntKind.i64.wrap 1 = 1 := by decide
  have w1 : IntKind.i64.wrap 2 = 2 := by decide
  have w2 : IntKind.i64.wrap 3 = 3 := by decide
  by_cases h1 : a = 0
  · by_cases h2 : b = 0
    · by_cases h3 : c = 0
      · rw [Loop_next (s' := 1) (by simp [cmp_Or_int_l1, idx, h1, w0]), Loop_next (s' := 2) (by simp [cmp_Or_int_l1, idx, h2, w1]), Loop_next (s' := 3) (by simp [cmp_Or_int_l1, idx, h3, w2]), Loop_done (t := .inl ()) (by simp [cmp_Or_int_l1])]
        simp [h1, h2, h3]
      · rw [Loop_next (s' := 1) (by simp [cmp_Or_int_l1, idx, h1, w0]), Loop_next (s' := 2) (by simp [cmp_Or_int_l1, idx, h2, w1]), Loop_done (t := .inr c) (by simp [cmp_Or_int_l1, idx, h3])]
        simp [h1, h2]
    · rw [Loop_next (s' := 1) (by simp [cmp_Or_int_l1, idx, h1, w0]), Loop_done (t := .inr b) (by simp [cmp_Or_int_l1, idx, h2])]
      simp [h1, h2]
  · rw [Loop_done (t := .inr a) (by simp [cmp_Or_int_l1, idx, h1])]
    simp [h1]
theorem value_Compare_eq (a b : Value) : value_Compare a b = some (vcmp a b) := by
  simp only [value_Compare, cmp_int_eq, cmp_int64_eq, strings_Compare_eq, Option.bind_some, Or3_eq, vcmp]

theorem strc_eq : ∀ a b : List UInt8, strc a b = 0 ↔ a = b
  | [], [] => by simp [strc]
  | [], _ :: _ => by simp [strc]
  | _ :: _, [] => by simp [strc]
  | x :: a, y :: b => by
    simp only [strc]
    by_cases h : x = y
    · subst h; simp [strc_eq a b]
    · have : sgn x.toNat y.toNat ≠ 0 := sgn_ne (by simpa [Int.natCast_inj, UInt8.toNat_inj] using h)
      simp [h, this]
theorem sgn_zero (a b : Int) : sgn a b = 0 ↔ a = b := by
  unfold sgn; split <;> (try split) <;> omega
theorem vcmp_eq (a b : Value) : vcmp a b = 0 ↔ a = b := by
  unfold vcmp
  cases a; cases b
  simp only [Value.mk.injEq]
  split
  · rename_i h; simp only [ne_eq, sgn_zero] at h; simp [sgn_zero, h]
  · rename_i h; simp only [ne_eq, sgn_zero, Decidable.not_not] at h
    split
    · rename_i h2; simp only [ne_eq, sgn_zero] at h2; simp [sgn_zero, h2]
    · rename_i h2; simp only [ne_eq, sgn_zero, Decidable.not_not] at h2
      simp [strc_eq, h, h2]
def veq (a b : Value) : Bool := (a.Kind == b.Kind) && ((a.Num == b.Num) && (a.Str == b.Str))
end Go.Proofs.YtimfcgdnogjlhaaGreat
/- Sets in order: all subsets of the first attributes. -/
set_option linter.unusedVariables false
set_option linter.unusedSimpArgs false
namespace Go.Proofs.YtimfcgdnogjlhaaGreat
open Go Go.Ab

theorem Or2_eq (a b : Int) : cmp_Or_int [a, b] = some (if a ≠ 0 then a else b) := by
  simp only [cmp_Or_int]
  have w0 : IntKind.i64.wrap 1 = 1 := by decide
  have w1 : IntKind.i64.wrap 2 = 2 := by decide
  have s2 : cmp_Or_int_l1 [a, b] 2 = some (.done (.inl ())) := by simp [cmp_Or_int_l1]
  by_cases ha : a = 0
  · have s0 : cmp_Or_int_l1 [a, b] 0 = some (.next 1) := by simp [cmp_Or_int_l1, idx, ha, w0]
    rw [Loop_next s0]
    by_cases hb : b = 0
    · have s1 : cmp_Or_int_l1 [a, b] 1 = some (.next 2) := by simp [cmp_Or_int_l1, idx, hb, w1]
      rw [Loop_next s1, Loop_done s2]; simp [ha, hb]
    · have s1 : cmp_Or_int_l1 [a, b] 1 = some (.done (.inr b)) := by simp [cmp_Or_int_l1, idx, hb]
      rw [Loop_done s1]; simp [ha]
  · have s0 : cmp_Or_int_l1 [a, b] 0 = some (.done (.inr a)) := by simp [cmp_Or_int_l1, idx, ha]
    rw [Loop_done s0]; simp [ha]
def lexN (x y : Nat) : Prop := ones32 x < ones32 y ∨ (ones32 x = ones32 y ∧ x < y)
instance (x y : Nat) : Decidable (lexN x y) := by unfold lexN; exact inferInstance
end Go.Proofs.YtimfcgdnogjlhaaGreat
/- The lowest member of a set. -/
set_option linter.unusedVariables false
set_option linter.unusedSimpArgs false
namespace Go.Ab
open Go
end Go.Ab
/- The rows of the merging. -/
set_option linter.unusedVariables false
set_option linter.unusedSimpArgs false
namespace Go.Proofs.YtimfcgdnogjlhaaGreat
open Go Go.Ab

def rowsErr : List Row → Int
  | [] => 12
  | r :: l => if (r :: l).all (fun x => x.Values.length == r.Values.length) then 0 else 6
theorem IndexFunc_Value_eq (l : List Value) (f : Value → Option Bool) (p : Value → Bool) (hf : ∀ x ∈ l, f x = some (p x)) (hl : l.length ≤ 1073741824) : slices_IndexFunc_Value l f = some (match l.findIdx? p with | some i => (i : Int) | none => -1) := by
  have h := LoopF_find l (slices_IndexFunc_Value_l1 l f) p
    (fun k x hx hk hp => by simp [slices_IndexFunc_Value_l1, lt_true hx, idx_get hx, hf x (List.mem_of_getElem? hx), hp, wrap_succ hk (by omega)])
    (fun k x hx hp => by simp [slices_IndexFunc_Value_l1, lt_true hx, idx_get hx, hf x (List.mem_of_getElem? hx), hp])
    (by simp [slices_IndexFunc_Value_l1])
  simp only [slices_IndexFunc_Value, h, Option.bind_some]
  cases l.findIdx? p <;> rfl
theorem findIdx_any {α : Type} (p : α → Bool) (l : List α) : decide ((match l.findIdx? p with | some i => ((i : Nat) : Int) | none => -1) ≥ 0) = l.any p := by
  cases h : l.findIdx? p with
  | none =>
    rw [List.findIdx?_eq_none_iff] at h
    have : l.any p = false := by rw [List.any_eq_false]; intro x hx; simp [h x hx]
    rw [this]; rfl
  | some i =>
    have : l.any p = true := by
      rw [List.findIdx?_eq_some_iff_getElem] at h
      obtain ⟨hi, hp, _⟩ := h
      rw [List.any_eq_true]
      exact ⟨_, List.getElem_mem hi, hp⟩
    rw [this]; simp
theorem ContainsFunc_Value_eq (l : List Value) (f : Value → Option Bool) (p : Value → Bool) (hf : ∀ x ∈ l, f x = some (p x)) (hl : l.length ≤ 1073741824) : slices_ContainsFunc_Value l f = some (l.any p) := by
  simp only [slices_ContainsFunc_Value, IndexFunc_Value_eq l f p hf hl, Option.bind_some, findIdx_any]

/-- the IDs ascend from a number on, and all values are valid -/
def okRows : Int → List Row → Bool
  | _, [] => true
  | a, r :: l => decide (a < r.ID) && r.Values.all valid && okRows r.ID l
end Go.Proofs.YtimfcgdnogjlhaaGreat
/- The choice of a value. -/
set_option linter.unusedVariables false
set_option linter.unusedSimpArgs false
namespace Go.Proofs.YtimfcgdnogjlhaaGreat
open Go Go.Ab

/-! ### the order of values -/
theorem sgn_lt (a b : Int) : sgn a b < 0 ↔ a < b := by unfold sgn; split <;> (try split) <;> omega
theorem sgn_neg (a b : Int) : sgn b a = - sgn a b := by unfold sgn; split <;> (try split) <;> (try split) <;> omega
theorem strc_neg : ∀ a b : List UInt8, strc b a = - strc a b
  | [], [] => rfl
  | [], _ :: _ => rfl
  | _ :: _, [] => rfl
  | x :: a, y :: b => by
    simp only [strc]
    by_cases h : x = y
    · subst h; simp [strc_neg a b]
    · have h' : ¬ y = x := fun e => h e.symm
      simp only [if_neg h, if_neg h']; exact sgn_neg _ _
theorem strc_trans : ∀ a b c : List UInt8, strc a b < 0 → strc b c < 0 → strc a c < 0
  | [], [], _, h, _ => by simp [strc] at h
  | [], _ :: _, [], _, h => by simp [strc] at h
  | [], _ :: _, _ :: _, _, _ => by simp [strc]
  | _ :: _, [], _, h, _ => by simp [strc] at h
  | _ :: _, _ :: _, [], _, h => by simp [strc] at h
  | x :: a, y :: b, z :: c, h1, h2 => by
    simp only [strc] at h1 h2 ⊢
    have ix : ∀ p q : UInt8, p = q ↔ (p.toNat : Int) = q.toNat := fun p q => by rw [Int.natCast_inj, UInt8.toNat_inj]
    by_cases hxy : x = y
    · subst hxy
      by_cases hxz : x = z
      · subst hxz
        simp only [if_pos] at h1 h2 ⊢
        exact strc_trans a b c h1 h2
      · simp only [if_neg hxz] at h2 ⊢
        exact h2
    · simp only [if_neg hxy, sgn_lt] at h1
      by_cases hyz : y = z
      · subst hyz
        simp only [if_neg hxy, sgn_lt]; exact h1
      · simp only [if_neg hyz, sgn_lt] at h2
        have hxz : ¬ x = z := by rw [ix]; omega
        simp only [if_neg hxz, sgn_lt]; omega
theorem vcmp_lt (a b : Value) : vcmp a b < 0 ↔ a.Kind < b.Kind ∨ (a.Kind = b.Kind ∧ (a.Num < b.Num ∨ (a.Num = b.Num ∧ strc a.Str b.Str < 0))) := by
  unfold vcmp
  split
  · rename_i h; rw [ne_eq, sgn_zero] at h; rw [sgn_lt]; omega
  · rename_i h; rw [ne_eq, sgn_zero, Decidable.not_not] at h
    split
    · rename_i h2; rw [ne_eq, sgn_zero] at h2; rw [sgn_lt]; omega
    · rename_i h2; rw [ne_eq, sgn_zero, Decidable.not_not] at h2
      constructor
      · intro h3; exact .inr ⟨h, .inr ⟨h2, h3⟩⟩
      · rintro (h3 | ⟨_, h3 | ⟨_, h3⟩⟩)
        · omega
        · omega
        · exact h3
theorem vcmp_trans (a b c : Value) (h1 : vcmp a b < 0) (h2 : vcmp b c < 0) : vcmp a c < 0 := by
  rw [vcmp_lt] at *
  rcases h1 with h1 | ⟨h1, h1' | ⟨h1', h1''⟩⟩ <;> rcases h2 with h2 | ⟨h2, h2' | ⟨h2', h2''⟩⟩ <;> try omega
  exact .inr ⟨by omega, .inr ⟨by omega, strc_trans _ _ _ h1'' h2''⟩⟩
theorem vcmp_neg (a b : Value) : vcmp b a = - vcmp a b := by
  unfold vcmp
  rw [sgn_neg a.Kind, sgn_neg a.Num, strc_neg a.Str]
  split <;> (try split) <;> (try split) <;> (try split) <;> omega
/-! ### which value is preferred -/
def betterB (cnt : Value → Int) (rule : Int) (v b : Value) : Bool :=
  if rule = 2 then decide (cnt v > cnt b) else if rule = 3 then decide (v.Kind = 2) && (decide (b.Kind ≠ 2) || decide ((v.Str.length : Int) > b.Str.length))
  else if rule = 4 then decide (vcmp v b < 0) else if rule = 5 then decide (vcmp v b > 0) else false
def cellV (r : Row) (a : Nat) : Value := r.Values.getD a ⟨0, 0, []⟩
def Short (rows : List Row) : Prop := ∀ r ∈ rows, ∀ v ∈ r.Values, v.Str.length ≤ 1073741824

end Go.Proofs.YtimfcgdnogjlhaaGreat
/- Choose is the reference's Choose. -/
set_option linter.unusedVariables false
set_option linter.unusedSimpArgs false
namespace Go.Proofs.YtimfcgdnogjlhaaGreat
open Go Go.Ab

/-- the greatest element that comes first, with the place where it was found -/
def pickF {β : Type} (B : Value → Value → Bool) (o : Value × β) (x : Value × β) : Value × β := if B x.1 o.1 then x else o
def nn (rows : List Row) (a : Nat) : List Row := rows.filter fun r => (cellV r a).Kind != 0
/-- the outcome of both -/
def chosen (rows : List Row) (a : Nat) (rule : Int) : Value × Int :=
  match nn rows a with
  | [] => (⟨0, 0, []⟩, (rows[0]?.map (·.ID)).getD 0)
  | r :: l => (l.map fun x => (cellV x a, x.ID)).foldl (pickF (betterB (fun x => (((rows.map (cellV · a)).countP (veq · x) : Nat) : Int)) rule)) (cellV r a, r.ID)

end Go.Proofs.YtimfcgdnogjlhaaGreat
/- Choose is the reference's Choose, second part. -/
set_option linter.unusedVariables false
set_option linter.unusedSimpArgs false
namespace Go.Proofs.YtimfcgdnogjlhaaGreat
open Go Go.Ab

/-- what both answer -/
def choice (rows : List Row) (attr rule : Int) : Value × Int × Int :=
  if rowsErr rows ≠ 0 then (⟨0, 0, []⟩, 0, rowsErr rows)
  else if attr < 0 ∨ ((rows[0]?.map (·.Values.length)).getD 0 : Nat) ≤ attr then (⟨0, 0, []⟩, 0, 6)
  else if okRows 0 rows = false ∨ rule < 1 ∨ 5 < rule then (⟨0, 0, []⟩, 0, 1)
  else ((chosen rows attr.toNat rule).1, (chosen rows attr.toNat rule).2, 0)
end Go.Proofs.YtimfcgdnogjlhaaGreat
/- Merge is the reference's Merge. -/
set_option linter.unusedVariables false
set_option linter.unusedSimpArgs false
namespace Go.Proofs.YtimfcgdnogjlhaaGreat
open Go Go.Ab

def okRule (r : Int) : Bool := decide (1 ≤ r) && decide (r ≤ 5)
theorem IndexFunc_int_eq (l : List Int) (f : Int → Option Bool) (p : Int → Bool) (hf : ∀ x ∈ l, f x = some (p x)) (hl : l.length ≤ 1073741824) : slices_IndexFunc_int l f = some (match l.findIdx? p with | some i => (i : Int) | none => -1) := by
  have h := LoopF_find l (slices_IndexFunc_int_l1 l f) p
    (fun k x hx hk hp => by simp [slices_IndexFunc_int_l1, lt_true hx, idx_get hx, hf x (List.mem_of_getElem? hx), hp, wrap_succ hk (show l.length ≤ 4611686018427387904 by omega)])
    (fun k x hx hp => by simp [slices_IndexFunc_int_l1, lt_true hx, idx_get hx, hf x (List.mem_of_getElem? hx), hp])
    (by simp [slices_IndexFunc_int_l1])
  simp only [slices_IndexFunc_int, h, Option.bind_some]
  cases l.findIdx? p <;> rfl
theorem ContainsFunc_int_eq (l : List Int) (f : Int → Option Bool) (p : Int → Bool) (hf : ∀ x ∈ l, f x = some (p x)) (hl : l.length ≤ 1073741824) : slices_ContainsFunc_int l f = some (l.any p) := by
  simp only [slices_ContainsFunc_int, IndexFunc_int_eq l f p hf hl, Option.bind_some]
  exact congrArg some (findIdx_any p l)

/-- the merged values and origins -/
def stepM (rows : List Row) (b : List Value × List Int) (rule : Int) : List Value × List Int := (b.1 ++ [(chosen rows b.1.length rule).1], b.2 ++ [(chosen rows b.1.length rule).2])
def mergedV (rows : List Row) (rules : List Int) : List Value × List Int := rules.foldl (stepM rows) ([], [])
/-- what both answer -/
def merging (rows : List Row) (rules : List Int) : (Row × List Int) × Int :=
  if rowsErr rows ≠ 0 then ((⟨0, []⟩, []), rowsErr rows)
  else if rules.length ≠ (rows[0]?.map (·.Values.length)).getD 0 then ((⟨0, []⟩, []), 6)
  else if okRows 0 rows = false ∨ rules.all okRule = false then ((⟨0, []⟩, []), 1)
  else ((⟨(rows[0]?.map (·.ID)).getD 0, (mergedV rows rules).1⟩, (mergedV rows rules).2), 0)
theorem any_not_all {α : Type} (p : α → Bool) (l : List α) : (l.any fun x => !p x) = !l.all p := by simp [List.all_eq_not_any_not]
end Go.Proofs.YtimfcgdnogjlhaaGreat
/- Tables: names, validity, finding a row. -/
set_option linter.unusedVariables false
set_option linter.unusedSimpArgs false
namespace Go.Proofs.YtimfcgdnogjlhaaGreat
open Go Go.Ab

def letter (c : Int) : Bool := (decide (97 ≤ c) && decide (c ≤ 122)) || ((decide (65 ≤ c) && decide (c ≤ 90)) || c == 95)
theorem letter_shape (c : Int) : (show Option Bool from
            if c ≥ 97 then
              if c ≤ 122 then some true
              else if c ≥ 65 then if c ≤ 90 then some true else some (c == 95) else some (c == 95)
            else if c ≥ 65 then if c ≤ 90 then some true else some (c == 95) else some (c == 95)) = some (letter c) := by
  simp only [letter]
  by_cases h1 : 97 ≤ c <;> by_cases h2 : c ≤ 122 <;> by_cases h3 : 65 ≤ c <;> by_cases h4 : c ≤ 90 <;> simp [h1, h2, h3, h4]
theorem letter_eq (c : Int) : drossref03_letter c = some (letter c) := by
  simp only [drossref03_letter, letter]
  by_cases h1 : 97 ≤ c <;> by_cases h2 : c ≤ 122 <;> by_cases h3 : 65 ≤ c <;> by_cases h4 : c ≤ 90 <;> simp [h1, h2, h3, h4]
def lod (c : UInt8) : Bool := letter c.toNat || (decide (48 ≤ (c.toNat : Int)) && decide ((c.toNat : Int) ≤ 57))
def nameB : List UInt8 → Bool
  | [] => false
  | c :: r => decide (r.length < 24) && letter c.toNat && !((c :: r) == [110, 117, 108, 108]) && r.all lod
theorem Name_eq (s : List UInt8) : drossref03_Name s = some (nameB s) := by
  cases s with
  | nil => rfl
  | cons c r =>
    have hn : ¬ ((((c :: r).length : Int) == 0) = true) := by simp; omega
    simp only [drossref03_Name, if_neg hn]
    by_cases h24 : ((c :: r).length : Int) > 24
    · have : ¬ r.length < 24 := by simp at h24; omega
      rw [if_pos h24]; simp [nameB, this]
    · have h24' : r.length < 24 := by simp at h24; omega
      rw [if_neg h24]
      simp only [List.getElem?_cons_zero, Option.bind_some, letter_eq]
      by_cases hl : letter c.toNat = true
      · simp only [hl, if_true]
        by_cases hnull : ((c :: r) == [110, 117, 108, 108]) = true
        · simp only [hnull, if_true, nameB]; simp
        · simp only [Bool.not_eq_true] at hnull
          have h := LoopF_all (c :: r) (drossref03_Name_l1 (c :: r)) lod false
            (fun k x hx hk hp => by
              simp only [drossref03_Name_l1, if_pos (lt_true hx), idx_get hx, Option.bind_some, letter_eq, wrap_succ hk (by simp; omega)]
              by_cases hx1 : letter x.toNat = true
              · simp [hx1]
              · simp only [Bool.not_eq_true] at hx1
                simp only [lod, hx1, Bool.false_or, Bool.and_eq_true, decide_eq_true_eq] at hp
                have e1 : ¬ (x.toNat : Int) < 48 := by omega
                have e2 : ¬ (x.toNat : Int) > 57 := by omega
                simp [hx1, e1, e2])
            (fun k x hx hp => by
              simp only [drossref03_Name_l1, if_pos (lt_true hx), idx_get hx, Option.bind_some, letter_eq]
              simp only [lod, Bool.or_eq_false_iff, Bool.and_eq_false_iff, decide_eq_false_iff_not] at hp
              simp only [hp.1, Bool.false_eq_true, if_false]
              by_cases e1 : (x.toNat : Int) < 48
              · simp [e1]
              · have e2 : (x.toNat : Int) > 57 := by omega
                simp [e1, e2])
            (by simp [drossref03_Name_l1])
          simp only [hnull, Bool.false_eq_true, if_false, h, Option.bind_some]
          have hlc : lod c = true := by simp [lod, hl]
          simp only [List.all_cons, hlc, Bool.true_and, nameB, h24', decide_true, hl, hnull, Bool.not_false]
          cases r.all lod <;> rfl
      · simp only [Bool.not_eq_true] at hl
        simp [hl, nameB]
theorem isName_eq (s : List UInt8) : table_isName s = some (nameB s) := by
  cases s with
  | nil => rfl
  | cons c r =>
    have hn : ¬ (((c :: r) == []) = true) := by simp
    simp only [table_isName, if_neg hn]
    by_cases h24 : ((c :: r).length : Int) > 24
    · have : ¬ r.length < 24 := by simp at h24; omega
      rw [if_pos h24]; simp [nameB, this]
    · have h24' : r.length < 24 := by simp at h24; omega
      rw [if_neg h24]
      by_cases hnull : ((c :: r) == [110, 117, 108, 108]) = true
      · simp only [hnull, if_true, nameB]; simp
      · simp only [Bool.not_eq_true] at hnull
        have hlet : ∀ x : UInt8, (show Option Bool from
            if ((x.toNat : Nat) : Int) ≥ 97 then
              if ((x.toNat : Nat) : Int) ≤ 122 then some true
              else if ((x.toNat : Nat) : Int) ≥ 65 then if ((x.toNat : Nat) : Int) ≤ 90 then some true else some (((x.toNat : Nat) : Int) == 95) else some (((x.toNat : Nat) : Int) == 95)
            else if ((x.toNat : Nat) : Int) ≥ 65 then if ((x.toNat : Nat) : Int) ≤ 90 then some true else some (((x.toNat : Nat) : Int) == 95) else some (((x.toNat : Nat) : Int) == 95)) = some (letter x.toNat) := fun x => letter_shape x.toNat
        have h := LoopF_allk (c :: r) (table_isName_l1 (c :: r)) (fun k x => letter x.toNat || (decide (k ≠ 0) && (decide (48 ≤ (x.toNat : Int)) && decide ((x.toNat : Int) ≤ 57)))) false
          (fun k x hx hk hp => by
            simp only [table_isName_l1, if_pos (lt_true hx), idx_get hx, Option.bind_some, hlet, wrap_succ hk (by simp; omega)]
            by_cases hx1 : letter x.toNat = true
            · simp [hx1]
            · simp only [Bool.not_eq_true] at hx1
              simp only [hx1, Bool.false_or, Bool.and_eq_true, decide_eq_true_eq] at hp
              have e0 : ¬ (((k : Int) == 0) = true) := by simp; omega
              have e1 : ¬ (x.toNat : Int) < 48 := by omega
              have e2 : ¬ (x.toNat : Int) > 57 := by omega
              simp [hx1, e0, e1, e2])
          (fun k x hx hp => by
            simp only [table_isName_l1, if_pos (lt_true hx), idx_get hx, Option.bind_some, hlet]
            simp only [Bool.or_eq_false_iff, Bool.and_eq_false_iff, decide_eq_false_iff_not] at hp
            simp only [hp.1, Bool.false_eq_true, if_false]
            by_cases e0 : k = 0
            · simp [e0]
            · have e0' : ¬ (((k : Int) == 0) = true) := by simp; omega
              by_cases e1 : (x.toNat : Int) < 48
              · simp [e1]
              · have e2 : (x.toNat : Int) > 57 := by
                  rcases hp.2 with h | h | h
                  · exact absurd e0 h
                  · omega
                  · omega
                simp [e1, e2])
          (by simp [table_isName_l1]) (c :: r) 0 rfl (Nat.zero_le _)
        simp only [Int.natCast_zero] at h
        simp only [hnull, Bool.false_eq_true, if_false, h, Option.bind_some]
        have e : allFrom (fun k x => letter x.toNat || (decide (k ≠ 0) && (decide (48 ≤ (x.toNat : Int)) && decide ((x.toNat : Int) ≤ 57)))) 0 (c :: r) = (letter c.toNat && r.all lod) := by
          simp only [allFrom]
          rw [allFrom_congr (q := fun _ x => lod x) r 1 (fun j x hj _ => by
            have hj0 : j ≠ 0 := by omega
            simp [lod, hj0]), allFrom_all]
          simp
        rw [e]
        simp only [nameB, h24', decide_true, Bool.true_and, hnull, Bool.not_false, Bool.and_true]
        cases letter c.toNat <;> cases r.all lod <;> rfl

def posI : Option Nat → Int
  | some i => i
  | none => -1
theorem posI_any {α : Type} (p : α → Bool) (l : List α) : decide (posI (l.findIdx? p) ≥ 0) = l.any p := by
  rw [← findIdx_any]
  cases l.findIdx? p <;> rfl
theorem Index_string_eq (l : List (List UInt8)) (s : List UInt8) (hl : l.length ≤ 1073741824) : slices_Index_string l s = some (posI (l.findIdx? (fun x => s == x))) := by
  have h := LoopF_find l (slices_Index_string_l1 l s) (fun x => s == x)
    (fun k x hx hk hp => by simp only [slices_Index_string_l1, if_pos (lt_true hx), idx_get hx, Option.bind_some, hp, Bool.false_eq_true, if_false, if_true, wrap_succ hk (show l.length ≤ 4611686018427387904 by omega)])
    (fun k x hx hp => by simp only [slices_Index_string_l1, if_pos (lt_true hx), idx_get hx, Option.bind_some, hp, if_true])
    (by simp [slices_Index_string_l1])
  simp only [slices_Index_string, h, Option.bind_some]
  cases l.findIdx? (fun x => s == x) <;> rfl
theorem Contains_string_eq (l : List (List UInt8)) (s : List UInt8) (hl : l.length ≤ 1073741824) : slices_Contains_string l s = some (l.any fun x => s == x) := by
  simp only [slices_Contains_string, Index_string_eq l s hl, Option.bind_some]
  exact congrArg some (posI_any _ l)
theorem Attr_eq (l : List (List UInt8)) (s : List UInt8) (hl : l.length ≤ 1073741824) : drossref03_Attr l s = some (posI (l.findIdx? (fun x => x == s))) := by
  have h := LoopF_find l (drossref03_Attr_l1 l s) (fun x => x == s)
    (fun k x hx hk hp => by simp only [drossref03_Attr_l1, if_pos (lt_true hx), idx_get hx, Option.bind_some, hp, Bool.false_eq_true, if_false, if_true, wrap_succ hk (show l.length ≤ 4611686018427387904 by omega)])
    (fun k x hx hp => by simp only [drossref03_Attr_l1, if_pos (lt_true hx), idx_get hx, Option.bind_some, hp, if_true])
    (by simp [drossref03_Attr_l1])
  simp only [drossref03_Attr, h, Option.bind_some]
  cases l.findIdx? (fun x => x == s) <;> rfl

def namesB (l : List (List UInt8)) : Bool := allFrom (fun k x => nameB x && !(l.take k).any fun y => x == y) 0 l
theorem Names_eq (l : List (List UInt8)) (hl : l.length ≤ 1073741824) : drossref03_Names l = some (namesB l) := by
  have key : ∀ (k : Nat) (x : List UInt8), k < l.length → drossref03_Attr (l.take ((k : Int).toNat)) x = some (posI ((l.take k).findIdx? (fun y => y == x))) := by
    intro k x hk
    rw [Int.toNat_natCast]
    exact Attr_eq _ _ (by simp; omega)
  have any_sym : ∀ (k : Nat) (x : List UInt8), ((l.take k).any fun y => y == x) = (l.take k).any fun y => x == y := by
    intro k x
    congr 1
    funext y
    rw [Bool.eq_iff_iff, beq_iff_eq, beq_iff_eq]; exact eq_comm
  have h := LoopF_allk l (drossref03_Names_l1 l) (fun k x => nameB x && !(l.take k).any fun y => x == y) false
    (fun k x hx hk hp => by
      simp only [Bool.and_eq_true, Bool.not_eq_true'] at hp
      have hany := posI_any (fun y => y == x) (l.take k)
      rw [any_sym, hp.2] at hany
      have h0 : ((0 : Int) ≤ (k : Int)) := by omega
      have h1 : ((k : Int) ≤ (l.length : Int)) := by omega
      simp only [drossref03_Names_l1, if_pos (lt_true hx), idx_get hx, Option.bind_some, Name_eq, hp.1, if_true, if_pos h0, if_pos h1, key k x hk, if_neg (of_decide_eq_false hany), wrap_succ hk (show l.length ≤ 4611686018427387904 by omega)])
    (fun k x hx hp => by
      have hk := lt_of_get hx
      have h0 : ((0 : Int) ≤ (k : Int)) := by omega
      have h1 : ((k : Int) ≤ (l.length : Int)) := by omega
      simp only [drossref03_Names_l1, if_pos (lt_true hx), idx_get hx, Option.bind_some, Name_eq, if_pos h0, if_pos h1, key k x hk]
      rcases Bool.eq_false_or_eq_true (nameB x) with hn | hn
      · simp only [hn, Bool.true_and, Bool.not_eq_false'] at hp
        have hany := posI_any (fun y => y == x) (l.take k)
        rw [any_sym, hp] at hany
        simp only [hn, if_true, if_pos (of_decide_eq_true hany)]
      · simp [hn])
    (by simp [drossref03_Names_l1]) l 0 rfl (Nat.zero_le _)
  simp only [Int.natCast_zero] at h
  simp only [drossref03_Names, h, Option.bind_some]
  unfold namesB
  cases allFrom (fun k x => nameB x && !(l.take k).any fun y => x == y) 0 l <;> rfl

def rowsCode (n : Nat) : Int → List Row → Int
  | _, [] => 0
  | a, r :: l => if r.ID ≤ a then 1 else if r.Values.length ≠ n then 6 else if r.Values.all valid then rowsCode n r.ID l else 1
def tableErr (t : Table) : Int :=
  if nameB t.Name = false then 1 else if t.Attrs.length > 16 then 3 else if t.Rows.length > 1000 then 3 else if namesB t.Attrs = false then 1 else rowsCode t.Attrs.length 0 t.Rows
theorem validValues_eq (l : List Value) (hl : l.length ≤ 1073741824) : table_validValues l = some (l.all valid) := by
  simp only [table_validValues, ContainsFunc_Value_eq l (fun y => table_validValues_1 y) (fun v => !valid v) (fun y _ => by simp [table_validValues_1, value_Valid_eq]) hl, Option.bind_some, any_not_all, Bool.not_not]

theorem rows_loop {B : Int × Int → Option (LS (Int × Int) (Unit ⊕ Int))} (rows : List Row) (n : Nat)
    (hB : ∀ (k : Nat) (a : Int) x, rows[k]? = some x → k < rows.length → B (a, (k : Int)) = if x.ID ≤ a then some (.done (.inr 1)) else if x.Values.length ≠ n then some (.done (.inr 6)) else if x.Values.all valid then some (.next (x.ID, ((k + 1 : Nat) : Int))) else some (.done (.inr 1)))
    (hE : ∀ a, B (a, (rows.length : Int)) = some (.done (.inl ()))) : ∀ (r : List Row) (k : Nat) (a : Int), rows.drop k = r → k ≤ rows.length → ∃ o, LoopF B (a, (k : Int)) = some o ∧ (match o with | .inl () => rowsCode n a r = 0 | .inr z => rowsCode n a r = z ∧ z ≠ 0) := by
  intro r
  induction r with
  | nil =>
    intro k a hd hk
    have : k = rows.length := by
      have := congrArg List.length hd
      simp at this; omega
    subst this
    exact ⟨.inl (), Loop_done (hE a), rfl⟩
  | cons x r ih =>
    intro k a hd hk
    have hx : rows[k]? = some x := by
      have := congrArg (·[0]?) hd
      simpa [List.getElem?_drop] using this
    have hd' : rows.drop (k + 1) = r := by rw [← List.drop_drop, hd]; rfl
    have hlt := lt_of_get hx
    have hb := hB k a x hx hlt
    by_cases h1 : x.ID ≤ a
    · rw [if_pos h1] at hb
      exact ⟨_, Loop_done hb, by simp [rowsCode, h1]⟩
    · rw [if_neg h1] at hb
      by_cases h2 : x.Values.length ≠ n
      · rw [if_pos h2] at hb
        exact ⟨_, Loop_done hb, by simp [rowsCode, h1, h2]⟩
      · rw [if_neg h2] at hb
        by_cases h3 : x.Values.all valid = true
        · rw [if_pos h3] at hb
          obtain ⟨o, h4, h5⟩ := ih (k + 1) x.ID hd' hlt
          refine ⟨o, by rw [Loop_next hb]; exact h4, ?_⟩
          have e : rowsCode n a (x :: r) = rowsCode n x.ID r := by
            simp only [rowsCode, if_neg h1, if_neg h2, if_pos h3]
          rw [e]; exact h5
        · rw [if_neg h3] at hb
          exact ⟨_, Loop_done hb, by simp only [rowsCode, if_neg h1, if_neg h2, if_neg h3]; exact ⟨trivial, by omega⟩⟩

structure TabOk (t : Table) : Prop where
  attrs : t.Attrs.length ≤ 1073741824
  rows : t.Rows.length ≤ 1073741824
  vals : ∀ r ∈ t.Rows, r.Values.length ≤ 1073741824
  short : Short t.Rows
theorem ref_Valid_table (t : Table) (H : TabOk t) : drossref03_Valid t = some (tableErr t) := by
  simp only [drossref03_Valid, Name_eq, Option.bind_some, tableErr]
  by_cases h1 : nameB t.Name = true
  · by_cases h2 : t.Attrs.length > 16
    · have : (t.Attrs.length : Int) > 16 := by omega
      simp [h1, h2, this]
    · have h2' : ¬ (t.Attrs.length : Int) > 16 := by omega
      by_cases h3 : t.Rows.length > 1000
      · have : (t.Rows.length : Int) > 1000 := by omega
        simp [h1, h2, h2', h3, this]
      · have h3' : ¬ (t.Rows.length : Int) > 1000 := by omega
        simp only [h1, if_true, if_neg h2', if_neg h3', Names_eq t.Attrs H.attrs, Option.bind_some, Bool.true_eq_false, if_false, if_neg h2, if_neg h3]
        by_cases h4 : namesB t.Attrs = true
        · obtain ⟨o, h5, h6⟩ := rows_loop (B := drossref03_Valid_l1 t) t.Rows t.Attrs.length (fun k a x hx hk => by
              simp only [drossref03_Valid_l1, if_pos (lt_true hx), idx_get hx, Option.bind_some, ref_Valids_eq _ (H.vals x (List.mem_of_getElem? hx)), wrap_succ hk (show t.Rows.length ≤ 4611686018427387904 by have := H.rows; omega)]
              by_cases e1 : x.ID ≤ a
              · simp [e1]
              · by_cases e2 : x.Values.length = t.Attrs.length
                · simp [e1, e2]
                · have : ¬ ((x.Values.length : Int) = t.Attrs.length) := by omega
                  simp [e1, e2, this]) (fun a => by simp [drossref03_Valid_l1]) t.Rows 0 0 rfl (Nat.zero_le _)
          simp only [Int.natCast_zero] at h5
          simp only [h4, if_true, h5, Option.bind_some, Bool.true_eq_false, if_false]
          cases o with
          | inl u => simp only at h6 ⊢; rw [h6]
          | inr z => simp only at h6 ⊢; rw [h6.1]
        · simp only [Bool.not_eq_true] at h4
          simp [h4]
  · simp only [Bool.not_eq_true] at h1
    simp [h1]

theorem table_Valid_table (t : Table) (H : TabOk t) : table_Valid t = some (tableErr t) := by
  simp only [table_Valid, isName_eq, Option.bind_some, tableErr]
  by_cases h1 : nameB t.Name = true
  · by_cases h2 : t.Attrs.length > 16
    · have : (t.Attrs.length : Int) > 16 := by omega
      simp [h1, h2, this]
    · have h2' : ¬ (t.Attrs.length : Int) > 16 := by omega
      by_cases h3 : t.Rows.length > 1000
      · have : (t.Rows.length : Int) > 1000 := by omega
        simp [h1, h2, h2', h3, this]
      · have h3' : ¬ (t.Rows.length : Int) > 1000 := by omega
        have hN := LoopF_allk t.Attrs (table_Valid_l1 t) (fun k x => nameB x && !(t.Attrs.take k).any fun y => x == y) 1
          (fun k x hx hk hp => by
            simp only [Bool.and_eq_true, Bool.not_eq_true'] at hp
            have h0 : ((0 : Int) ≤ (k : Int)) := by omega
            have h1 : ((k : Int) ≤ (t.Attrs.length : Int)) := by omega
            have hA := H.attrs
            simp only [table_Valid_l1, if_pos (lt_true hx), idx_get hx, Option.bind_some, isName_eq, hp.1, if_true, if_pos h0, if_pos h1, Int.toNat_natCast, Contains_string_eq _ x (show (t.Attrs.take k).length ≤ 1073741824 by simp; omega), hp.2, Bool.false_eq_true, if_false,
              wrap_succ hk (show t.Attrs.length ≤ 4611686018427387904 by omega)])
          (fun k x hx hp => by
            have hk := lt_of_get hx
            have h0 : ((0 : Int) ≤ (k : Int)) := by omega
            have h1 : ((k : Int) ≤ (t.Attrs.length : Int)) := by omega
            have hA := H.attrs
            simp only [table_Valid_l1, if_pos (lt_true hx), idx_get hx, Option.bind_some, isName_eq, if_pos h0, if_pos h1, Int.toNat_natCast, Contains_string_eq _ x (show (t.Attrs.take k).length ≤ 1073741824 by simp; omega)]
            rcases Bool.eq_false_or_eq_true (nameB x) with hn | hn
            · simp only [hn, Bool.true_and, Bool.not_eq_false'] at hp
              simp only [hn, if_true, hp]
            · simp [hn])
          (by simp [table_Valid_l1]) t.Attrs 0 rfl (Nat.zero_le _)
        simp only [Int.natCast_zero] at hN
        simp only [h1, if_true, if_neg h2', if_neg h3', hN, Option.bind_some, Bool.true_eq_false, if_false, if_neg h2, if_neg h3]
        have hNe : namesB t.Attrs = allFrom (fun k x => nameB x && !(t.Attrs.take k).any fun y => x == y) 0 t.Attrs := rfl
        rw [← hNe]
        by_cases h4 : namesB t.Attrs = true
        · obtain ⟨o, h5, h6⟩ := rows_loop (B := table_Valid_l2 t) t.Rows t.Attrs.length (fun k a x hx hk => by
              simp only [table_Valid_l2, if_pos (lt_true hx), idx_get hx, Option.bind_some, validValues_eq _ (H.vals x (List.mem_of_getElem? hx)), wrap_succ hk (show t.Rows.length ≤ 4611686018427387904 by have := H.rows; omega)]
              by_cases e1 : x.ID ≤ a
              · simp [e1]
              · by_cases e2 : x.Values.length = t.Attrs.length
                · simp [e1, e2]
                · have : ¬ ((x.Values.length : Int) = t.Attrs.length) := by omega
                  simp [e1, e2, this]) (fun a => by simp [table_Valid_l2]) t.Rows 0 0 rfl (Nat.zero_le _)
          simp only [Int.natCast_zero] at h5
          simp only [h4, if_true, h5, Option.bind_some, Bool.true_eq_false, if_false]
          cases o with
          | inl u => simp only at h6 ⊢; rw [h6]
          | inr z => simp only at h6 ⊢; rw [h6.1]
        · simp only [Bool.not_eq_true] at h4
          simp [h4]
  · simp only [Bool.not_eq_true] at h1
    simp [h1]

/-- the place of a row -/
def findB (t : Table) (id : Int) : Int × Bool := match t.Rows.findIdx? (fun r => r.ID == id) with | some i => ((i : Int), true) | none => (0, false)
theorem ref_Find_eq (t : Table) (id : Int) (H : t.Rows.length ≤ 1073741824) : drossref03_Find t id = some (findB t id) := by
  have key : ∀ (r : List Row) (k : Nat), t.Rows.drop k = r → k ≤ t.Rows.length → LoopF (drossref03_Find_l1 t id) (k : Int) = some (match r.findIdx? (fun r => r.ID == id) with | some i => .inr (((k + i : Nat) : Int), true) | none => .inl ()) := by
    intro r
    induction r with
    | nil =>
      intro k hd hk
      have : k = t.Rows.length := by
        have := congrArg List.length hd
        simp at this; omega
      subst this
      exact Loop_done (by simp [drossref03_Find_l1])
    | cons x r ih =>
      intro k hd hk
      have hx : t.Rows[k]? = some x := by
        have := congrArg (·[0]?) hd
        simpa [List.getElem?_drop] using this
      have hd' : t.Rows.drop (k + 1) = r := by rw [← List.drop_drop, hd]; rfl
      have hlt := lt_of_get hx
      by_cases hp : (x.ID == id) = true
      · rw [Loop_done (t := .inr ((k : Int), true)) (by simp only [drossref03_Find_l1, if_pos (lt_true hx), idx_get hx, Option.bind_some, if_pos hp])]
        simp [List.findIdx?_cons, hp]
      · rw [Loop_next (s' := ((k + 1 : Nat) : Int)) (by simp only [drossref03_Find_l1, if_pos (lt_true hx), idx_get hx, Option.bind_some, if_neg hp, wrap_succ hlt (show t.Rows.length ≤ 4611686018427387904 by omega)]), ih (k + 1) hd' hlt]
        simp only [Bool.not_eq_true] at hp
        simp only [List.findIdx?_cons, hp]
        cases r.findIdx? (fun r => r.ID == id) with
        | none => rfl
        | some i => simp; omega
  have h := key t.Rows 0 rfl (Nat.zero_le _)
  simp only [Int.natCast_zero] at h
  simp only [drossref03_Find, h, Option.bind_some, findB]
  cases t.Rows.findIdx? (fun r => r.ID == id) <;> simp
end Go.Proofs.YtimfcgdnogjlhaaGreat
/- Well-formed merged tables. -/
set_option linter.unusedVariables false
set_option linter.unusedSimpArgs false
namespace Go.Proofs.YtimfcgdnogjlhaaGreat
open Go Go.Ab

/-! ### no ID in two clusters -/
/-- a map holds exactly some IDs -/
def Holds (m : List (Int × Bool)) (all : List Int) : Prop := ∀ x, mget m x = if x ∈ all then some true else none

/-! ### well-formed -/
end Go.Proofs.YtimfcgdnogjlhaaGreat
/- Ordering: lists of attributes, what they name, and what is left of them. -/
set_option linter.unusedVariables false
set_option linter.unusedSimpArgs false
namespace Go.Proofs.YtimfcgdnogjlhaaGreat
open Go Go.Ab

theorem Index_int_eq (l : List Int) (x : Int) (hl : l.length ≤ 1073741824) : slices_Index_int l x = some (posI (l.findIdx? (fun y => x == y))) := by
  have h := LoopF_find l (slices_Index_int_l1 l x) (fun y => x == y)
    (fun k y hx hk hp => by simp only [slices_Index_int_l1, if_pos (lt_true hx), idx_get hx, Option.bind_some, hp, Bool.false_eq_true, if_false, if_true, wrap_succ hk (show l.length ≤ 4611686018427387904 by omega)])
    (fun k y hx hp => by simp only [slices_Index_int_l1, if_pos (lt_true hx), idx_get hx, Option.bind_some, hp, if_true])
    (by simp [slices_Index_int_l1])
  simp only [slices_Index_int, h, Option.bind_some]
  cases l.findIdx? (fun y => x == y) <;> rfl
theorem Contains_int_eq (l : List Int) (x : Int) (hl : l.length ≤ 1073741824) : slices_Contains_int l x = some (decide (x ∈ l)) := by
  simp only [slices_Contains_int, Index_int_eq l x hl, Option.bind_some]
  rw [posI_any]
  congr 1
  rw [Bool.eq_iff_iff]
  simp
/-- a list names attributes -/
def listB (n : Int) (l : List Int) : Bool := decide (l.length ≤ 8) && l.all fun a => decide (0 ≤ a) && decide (a < n)
def validB (n : Int) (d : OD) : Bool := listB n d.Lhs && listB n d.Rhs
theorem list_eq (n : Int) (l : List Int) (hl : l.length ≤ 1073741824) : ordering_list n l = some (listB n l) := by
  have h := ContainsFunc_int_eq l (fun y => ordering_list_1 y n) (fun a => decide (a < 0) || decide (n ≤ a)) (fun x _ => by
    simp only [ordering_list_1]
    by_cases h : x < 0 <;> simp [h]) hl
  simp only [ordering_list, h, Option.bind_some, listB]
  by_cases hc : (l.length : Int) ≤ 8
  · rw [if_pos hc, decide_eq_true (show l.length ≤ 8 by omega), Bool.true_and]
    congr 1
    rw [Bool.eq_iff_iff]
    simp only [Bool.not_eq_true', List.any_eq_false, List.all_eq_true, Bool.or_eq_true, decide_eq_true_eq, Bool.and_eq_true, not_or]
    exact ⟨fun h x hx => by have := h x hx; omega, fun h x hx => by have := h x hx; omega⟩
  · rw [if_neg hc, decide_eq_false (show ¬ l.length ≤ 8 by omega)]; rfl
theorem ref_list_eq (n : Int) (l : List Int) (hl : l.length ≤ 1073741824) : drossref17_list n l = some (listB n l) := by
  have h := LoopF_all l (drossref17_list_l1 n l) (fun a => decide (0 ≤ a) && decide (a < n)) false
    (fun k x hx hk hp => by
      simp only [Bool.and_eq_true, decide_eq_true_eq] at hp
      simp only [drossref17_list_l1, if_pos (lt_true hx), idx_get hx, Option.bind_some, if_neg (show ¬ x < 0 by omega), if_neg (show ¬ x ≥ n by omega), wrap_succ hk (show l.length ≤ 4611686018427387904 by omega)])
    (fun k x hx hp => by
      simp only [Bool.and_eq_false_iff, decide_eq_false_iff_not] at hp
      simp only [drossref17_list_l1, if_pos (lt_true hx), idx_get hx, Option.bind_some]
      by_cases h0 : x < 0
      · rw [if_pos h0]
      · rw [if_neg h0, if_pos (show x ≥ n by omega)])
    (by simp [drossref17_list_l1])
  simp only [drossref17_list, h, Option.bind_some, listB]
  cases l.all (fun a => decide (0 ≤ a) && decide (a < n))
  · simp
  · have : decide ((l.length : Int) ≤ 8) = decide (l.length ≤ 8) := by
      rw [Bool.eq_iff_iff]; simp only [decide_eq_true_eq]; omega
    simp [this]
theorem Valid_eq (n : Int) (d : OD) (h1 : d.Lhs.length ≤ 1073741824) (h2 : d.Rhs.length ≤ 1073741824) : ordering_Valid n d = some (validB n d) := by
  simp only [ordering_Valid, list_eq n _ h1, list_eq n _ h2, Option.bind_some, validB]
  cases listB n d.Lhs <;> simp
theorem ref_Valid_eq17 (n : Int) (d : OD) (h1 : d.Lhs.length ≤ 1073741824) (h2 : d.Rhs.length ≤ 1073741824) : drossref17_Valid n d = some (validB n d) := by
  simp only [drossref17_Valid, ref_list_eq n _ h1, ref_list_eq n _ h2, Option.bind_some, validB]
  cases listB n d.Lhs <;> simp

/-- without repetitions -/
def onceF (out : List Int) (a : Int) : List Int := if a ∈ out then out else out ++ [a]
def onceL (l : List Int) : List Int := l.foldl onceF []
theorem onceF_len (out : List Int) (a : Int) : (onceF out a).length ≤ out.length + 1 := by unfold onceF; split <;> simp
theorem once_eq17 (l : List Int) (hl : l.length ≤ 1048576) : ordering_once l = some (onceL l) := by
  have h := LoopF_foldl l (fun (o : List Int) i => (o, i)) (ordering_once_l1 l) onceF id (fun k o => o.length ≤ k) (b0 := []) (s0 := ([], 0)) rfl (Nat.le_refl 0)
    (fun k o x hx hk hI => by
      refine ⟨?_, Nat.le_trans (onceF_len o x) (by omega)⟩
      simp only [ordering_once_l1, if_pos (lt_true hx), idx_get hx, Option.bind_some, Contains_int_eq o x (by omega), wrap_succ hk (show l.length ≤ 4611686018427387904 by omega), onceF]
      by_cases hm : x ∈ o
      · simp [hm]
      · simp [hm, room_le (show o.length + 1 ≤ 1073741824 by omega) (show 8 ≤ 65536 by omega)])
    (fun o _ => by simp [ordering_once_l1])
  simp only [ordering_once, h, id, Option.bind_some]; rfl
end Go.Proofs.YtimfcgdnogjlhaaGreat
/- Ordering: the order of two rows on a list, and the kind of a violation. -/
set_option linter.unusedVariables false
set_option linter.unusedSimpArgs false
namespace Go.Proofs.YtimfcgdnogjlhaaGreat
open Go Go.Ab

/-- a row has a value for each member of a list -/
def Fits (a : Row) (l : List Int) : Prop := ∀ i ∈ l, 0 ≤ i ∧ i < (a.Values.length : Int)
theorem fits_idx {a : Row} {l : List Int} (h : Fits a l) {i : Int} (hi : i ∈ l) : idx a.Values i = some (cellV a i.toNat) := by
  obtain ⟨h1, h2⟩ := h i hi
  have hg : a.Values[i.toNat]? = some (cellV a i.toNat) := by
    have hlt : i.toNat < a.Values.length := by omega
    simp [cellV, List.getD, List.getElem?_eq_getElem hlt]
  have := idx_get hg
  rwa [Int.toNat_of_nonneg h1] at this
def ShortR (a : Row) : Prop := ∀ v ∈ a.Values, v.Str.length ≤ 1073741824
theorem fits_short {a : Row} {l : List Int} (h : Fits a l) (hs : ShortR a) {i : Int} (hi : i ∈ l) : (cellV a i.toNat).Str.length ≤ 1073741824 := by
  obtain ⟨h1, h2⟩ := h i hi
  have hlt : i.toNat < a.Values.length := by omega
  refine hs _ ?_
  have : cellV a i.toNat = a.Values[i.toNat] := by simp [cellV, List.getD, List.getElem?_eq_getElem hlt]
  rw [this]; exact List.getElem_mem hlt
def cmpL (a b : Row) : List Int → Int
  | [] => 0
  | i :: l => if vcmp (cellV a i.toNat) (cellV b i.toNat) ≠ 0 then vcmp (cellV a i.toNat) (cellV b i.toNat) else cmpL a b l
theorem cmpL_foldR (a b : Row) : ∀ l : List Int, foldR (fun (_ : Unit) i => if vcmp (cellV a i.toNat) (cellV b i.toNat) ≠ 0 then Sum.inr (Sum.inr (vcmp (cellV a i.toNat) (cellV b i.toNat)) : Unit ⊕ Int) else Sum.inl ()) (fun _ => Sum.inl ()) l () = if cmpL a b l ≠ 0 then .inr (cmpL a b l) else .inl ()
  | [] => rfl
  | i :: l => by
    simp only [foldR, cmpL]
    by_cases h : vcmp (cellV a i.toNat) (cellV b i.toNat) ≠ 0
    · simp [h]
    · simp only [if_neg h]; exact cmpL_foldR a b l
theorem compare_eq (a b : Row) (l : List Int) (ha : Fits a l) (hb : Fits b l) (hl : l.length ≤ 1073741824) : ordering_compare a b l = some (cmpL a b l) := by
  have h := LoopF_list l (fun (_ : Unit) i => i) (ordering_compare_l1 a b l) (fin := fun _ => Sum.inl ()) (I := fun _ _ => True) (b0 := ()) (s0 := 0) rfl trivial
    (f := fun (_ : Unit) i => if vcmp (cellV a i.toNat) (cellV b i.toNat) ≠ 0 then Sum.inr (Sum.inr (vcmp (cellV a i.toNat) (cellV b i.toNat)) : Unit ⊕ Int) else Sum.inl ())
    (fun k u i hx hk _ => by
      have hm := List.mem_of_getElem? hx
      have e : ordering_compare_l1 a b l (k : Int) = if (vcmp (cellV a i.toNat) (cellV b i.toNat) != 0) = true then some (.done (.inr (vcmp (cellV a i.toNat) (cellV b i.toNat)))) else some (.next ((k + 1 : Nat) : Int)) := by
        simp only [ordering_compare_l1, if_pos (lt_true hx), idx_get hx, fits_idx ha hm, fits_idx hb hm, value_Compare_eq, Option.bind_some, wrap_succ hk (show l.length ≤ 4611686018427387904 by omega)]
      rw [e]
      by_cases h0 : vcmp (cellV a i.toNat) (cellV b i.toNat) = 0
      · simp [h0]
      · simp [h0])
    (fun _ _ => by simp [ordering_compare_l1])
  rw [cmpL_foldR] at h
  simp only [ordering_compare, h, Option.bind_some]
  by_cases h0 : cmpL a b l = 0 <;> simp [h0]
theorem ref_Compare17_eq (a b : Row) (l : List Int) (ha : Fits a l) (hb : Fits b l) (hs : ShortR a) (hl : l.length ≤ 1073741824) : drossref17_Compare a b l = some (cmpL a b l) := by
  have h := LoopF_list l (fun (_ : Unit) i => i) (drossref17_Compare_l1 a b l) (fin := fun _ => Sum.inl ()) (I := fun _ _ => True) (b0 := ()) (s0 := 0) rfl trivial
    (f := fun (_ : Unit) i => if vcmp (cellV a i.toNat) (cellV b i.toNat) ≠ 0 then Sum.inr (Sum.inr (vcmp (cellV a i.toNat) (cellV b i.toNat)) : Unit ⊕ Int) else Sum.inl ())
    (fun k u i hx hk _ => by
      have hm := List.mem_of_getElem? hx
      have e : drossref17_Compare_l1 a b l (k : Int) = if (vcmp (cellV a i.toNat) (cellV b i.toNat) != 0) = true then some (.done (.inr (vcmp (cellV a i.toNat) (cellV b i.toNat)))) else some (.next ((k + 1 : Nat) : Int)) := by
        simp only [drossref17_Compare_l1, if_pos (lt_true hx), idx_get hx, fits_idx ha hm, fits_idx hb hm, ref_Compare_eq _ _ (fits_short ha hs hm), Option.bind_some, wrap_succ hk (show l.length ≤ 4611686018427387904 by omega)]
      rw [e]
      by_cases h0 : vcmp (cellV a i.toNat) (cellV b i.toNat) = 0
      · simp [h0]
      · simp [h0])
    (fun _ _ => by simp [drossref17_Compare_l1])
  rw [cmpL_foldR] at h
  simp only [drossref17_Compare, h, Option.bind_some]
  by_cases h0 : cmpL a b l = 0 <;> simp [h0]

theorem sgn_range (a b : Int) : sgn a b = -1 ∨ sgn a b = 0 ∨ sgn a b = 1 := by
  unfold sgn
  by_cases h : a < b
  · simp [h]
  · by_cases k : b < a <;> simp [h, k]
theorem strc_range : ∀ a b : List UInt8, strc a b = -1 ∨ strc a b = 0 ∨ strc a b = 1
  | [], [] => by simp [strc]
  | [], _ :: _ => by simp [strc]
  | _ :: _, [] => by simp [strc]
  | x :: a, y :: b => by
    simp only [strc]
    by_cases h : x = y
    · rw [if_pos h]; exact strc_range a b
    · rw [if_neg h]; exact sgn_range _ _
theorem vcmp_range (a b : Value) : vcmp a b = -1 ∨ vcmp a b = 0 ∨ vcmp a b = 1 := by
  unfold vcmp
  split; · exact sgn_range _ _
  split; · exact sgn_range _ _
  exact strc_range _ _
theorem cmpL_range (a b : Row) : ∀ l : List Int, cmpL a b l = -1 ∨ cmpL a b l = 0 ∨ cmpL a b l = 1
  | [] => by simp [cmpL]
  | i :: l => by
    simp only [cmpL]
    split
    · exact vcmp_range _ _
    · exact cmpL_range a b l
def kindB (a b : Row) (d : OD) : Int := if cmpL a b d.Lhs = 0 ∧ cmpL a b d.Rhs ≠ 0 then 1 else if cmpL a b d.Lhs * cmpL a b d.Rhs < 0 then 2 else 0
structure FitsD (a : Row) (d : OD) : Prop where
  lhs : Fits a d.Lhs
  rhs : Fits a d.Rhs
structure LenD (d : OD) : Prop where
  lhs : d.Lhs.length ≤ 1073741824
  rhs : d.Rhs.length ≤ 1073741824
theorem wrap_mul (a b : Row) (d : OD) : IntKind.i64.wrap (cmpL a b d.Lhs * cmpL a b d.Rhs) = cmpL a b d.Lhs * cmpL a b d.Rhs := by
  rcases cmpL_range a b d.Lhs with h | h | h <;> rcases cmpL_range a b d.Rhs with k | k | k <;> rw [h, k] <;> rfl
theorem kind_eq (a b : Row) (d : OD) (ha : FitsD a d) (hb : FitsD b d) (hl : LenD d) : ordering_kind a b d = some (kindB a b d) := by
  simp only [ordering_kind, compare_eq a b _ ha.lhs hb.lhs hl.lhs, compare_eq a b _ ha.rhs hb.rhs hl.rhs, Option.bind_some, wrap_mul, kindB]
  by_cases h : cmpL a b d.Lhs = 0
  · by_cases k : cmpL a b d.Rhs = 0 <;> simp [h, k]
  · by_cases k : cmpL a b d.Lhs * cmpL a b d.Rhs < 0 <;> simp [h, k]
end Go.Proofs.YtimfcgdnogjlhaaGreat
/- Ordering: all violations, and the first one. -/
set_option linter.unusedVariables false
set_option linter.unusedSimpArgs false
namespace Go.Proofs.YtimfcgdnogjlhaaGreat
open Go Go.Ab

theorem drop_take {α : Type} (l : List α) (n : Nat) : (l.drop n).take (l.length - n) = l.drop n := by
  apply List.take_of_length_le; rw [List.length_drop]; exact Nat.le_refl _
theorem toNat_nat (k : Nat) : ((k : Int)).toNat = k := Int.toNat_natCast k

structure RowsD (rows : List Row) (d : OD) : Prop where
  len : rows.length ≤ 1000
  fits : ∀ r ∈ rows, FitsD r d
  short : ∀ r ∈ rows, ShortR r
  lenD : LenD d
end Go.Proofs.YtimfcgdnogjlhaaGreat
/- Ordering: errors, Violations, Violation. -/
set_option linter.unusedVariables false
set_option linter.unusedSimpArgs false
namespace Go.Proofs.YtimfcgdnogjlhaaGreat
open Go Go.Ab

/-- the error of a table and a dependency -/
def odErr (t : Table) (d : OD) : Int := if tableErr t ≠ 0 then tableErr t else if validB t.Attrs.length d = true then 0 else 1
theorem check_eq (t : Table) (d : OD) (H : TabOk t) (hl : LenD d) (f : Int → Option Bool) (hf : f (t.Attrs.length : Int) = some (validB t.Attrs.length d)) : ordering_check t f = some (odErr t d) := by
  simp only [ordering_check, table_Valid_table t H, Option.bind_some, hf, odErr]
  by_cases h : tableErr t = 0
  · simp only [h, bne_self_eq_false, Bool.false_eq_true, if_false, ne_eq, not_true_eq_false]
    cases validB t.Attrs.length d <;> simp
  · simp [h]
theorem ref_Error_eq (t : Table) (d : OD) (H : TabOk t) (hl : LenD d) : drossref17_Error t d = some (odErr t d) := by
  simp only [drossref17_Error, ref_Valid_table t H, Option.bind_some, ref_Valid_eq17 _ d hl.lhs hl.rhs, odErr]
  by_cases h : tableErr t = 0
  · simp only [h, bne_self_eq_false, Bool.false_eq_true, if_false, ne_eq, not_true_eq_false]
    cases validB t.Attrs.length d <;> simp
  · simp [h]
theorem rowsCode_all : ∀ (n : Nat) (a : Int) (l : List Row), rowsCode n a l = 0 → (∀ r ∈ l, r.Values.length = n ∧ r.Values.all valid = true ∧ a < r.ID) ∧ l.Pairwise (fun x y => x.ID < y.ID)
  | n, a, [], _ => ⟨fun r hr => (by cases hr), List.Pairwise.nil⟩
  | n, a, x :: l, h => by
    simp only [rowsCode] at h
    by_cases h1 : x.ID ≤ a
    · simp [h1] at h
    by_cases h2 : x.Values.length ≠ n
    · simp [h1, h2] at h
    by_cases h3 : x.Values.all valid = true
    · rw [if_neg h1, if_neg h2, if_pos h3] at h
      obtain ⟨k1, k2⟩ := rowsCode_all n x.ID l h
      refine ⟨fun r hr => ?_, List.Pairwise.cons (fun y hy => (k1 y hy).2.2) k2⟩
      rcases List.mem_cons.1 hr with rfl | hr
      · exact ⟨by omega, h3, by omega⟩
      · have := k1 r hr; exact ⟨this.1, this.2.1, by omega⟩
    · rw [if_neg h1, if_neg h2, if_neg h3] at h; cases h
theorem tableErr_z17 {t : Table} (h : tableErr t = 0) : t.Attrs.length ≤ 16 ∧ t.Rows.length ≤ 1000 ∧ rowsCode t.Attrs.length 0 t.Rows = 0 := by
  unfold tableErr at h
  by_cases h1 : nameB t.Name = false
  · simp [h1] at h
  by_cases h2 : t.Attrs.length > 16
  · rw [if_neg h1, if_pos h2] at h; cases h
  by_cases h3 : t.Rows.length > 1000
  · rw [if_neg h1, if_neg h2, if_pos h3] at h; cases h
  by_cases h4 : namesB t.Attrs = false
  · rw [if_neg h1, if_neg h2, if_neg h3, if_pos h4] at h; cases h
  rw [if_neg h1, if_neg h2, if_neg h3, if_neg h4] at h
  exact ⟨by omega, by omega, h⟩
theorem odErr_zero {t : Table} {d : OD} (h : odErr t d = 0) : tableErr t = 0 ∧ validB t.Attrs.length d = true := by
  unfold odErr at h
  by_cases h1 : tableErr t ≠ 0
  · rw [if_pos h1] at h; exact absurd h h1
  · rw [if_neg h1] at h
    by_cases h2 : validB t.Attrs.length d = true
    · exact ⟨by omega, h2⟩
    · rw [if_neg h2] at h; cases h
theorem fits_of {n : Nat} {l : List Int} {a : Row} (h : listB n l = true) (ha : a.Values.length = n) : Fits a l := by
  intro i hi
  simp only [listB, Bool.and_eq_true, List.all_eq_true, decide_eq_true_eq] at h
  have := h.2 i hi
  omega
theorem rowsD_of {t : Table} {d : OD} (h : odErr t d = 0) (H : TabOk t) (hl : LenD d) : RowsD t.Rows d := by
  obtain ⟨h1, h2⟩ := odErr_zero h
  obtain ⟨_, h3, h4⟩ := tableErr_z17 h1
  simp only [validB, Bool.and_eq_true] at h2
  exact ⟨h3, fun r hr => ⟨fits_of h2.1 ((rowsCode_all _ _ _ h4).1 r hr).1, fits_of h2.2 ((rowsCode_all _ _ _ h4).1 r hr).1⟩, fun r hr => H.short r hr, hl⟩
theorem foldR_find {α ρ : Type} (p : α → Bool) (g : α → ρ) : ∀ l : List α, foldR (fun (_ : Unit) x => if p x = true then Sum.inr (Sum.inr (g x) : Unit ⊕ ρ) else Sum.inl ()) (fun _ => Sum.inl ()) l () = match l.find? p with | some x => .inr (g x) | none => .inl ()
  | [] => rfl
  | x :: l => by
    simp only [foldR, List.find?_cons]
    by_cases h : p x = true
    · simp [h]
    · simp only [Bool.not_eq_true] at h; simp only [h, Bool.false_eq_true, if_false]; exact foldR_find p g l
/-- the first violation -/
def firstV (d : OD) : List Row → Option (Row × Row)
  | [] => none
  | a :: r => match r.find? (fun b => kindB a b d != 0) with
    | some b => some (a, b)
    | none => firstV d r
theorem first_inner (t : Table) (d : OD) (H : RowsD t.Rows d) (k : Nat) (a : Row) (hk : t.Rows[k]? = some a) :
    LoopF (ordering_Violation_l3 t d k a) 0 = some (match (t.Rows.drop (k + 1)).find? (fun b => kindB a b d != 0) with | some b => .inr (a.ID, b.ID, kindB a b d, true) | none => .inl ()) := by
  have hkl := lt_of_get hk
  have hlen := H.len
  have h := LoopF_list (t.Rows.drop (k + 1)) (fun (_ : Unit) i => i) (ordering_Violation_l3 t d k a) (fin := fun _ => Sum.inl ()) (I := fun _ _ => True) (b0 := ()) (s0 := 0) rfl trivial
    (f := fun (_ : Unit) b => if (kindB a b d != 0) = true then Sum.inr (Sum.inr (a.ID, b.ID, kindB a b d, true) : Unit ⊕ (Int × Int × Int × Bool)) else Sum.inl ())
    (fun j u b hx hj _ => by
      have hb : b ∈ t.Rows := List.mem_of_mem_drop (List.mem_of_getElem? hx)
      have ha : a ∈ t.Rows := List.mem_of_getElem? hk
      have hjl : j < 1000 := by rw [List.length_drop] at hj; omega
      have e : ordering_Violation_l3 t d k a (j : Int) = if (kindB a b d != 0) = true then some (.done (.inr (a.ID, b.ID, kindB a b d, true))) else some (.next ((j + 1 : Nat) : Int)) := by
        simp only [ordering_Violation_l3, wrap_nat (show k < 4611686018427387904 by omega), toNat_nat, drop_take, if_pos (lt_true hx), idx_get hx, Option.bind_some, kind_eq a b d (H.fits a ha) (H.fits b hb) H.lenD, wrap_nat (show j < 4611686018427387904 by omega)]
      rw [e]
      by_cases h0 : (kindB a b d != 0) = true
      · simp [h0]
      · simp [h0])
    (fun _ _ => by
      simp only [ordering_Violation_l3, wrap_nat (show k < 4611686018427387904 by omega), toNat_nat, drop_take]
      simp)
  rw [h, foldR_find (fun b => kindB a b d != 0) (fun b => (a.ID, b.ID, kindB a b d, true))]
  cases List.find? (fun b => kindB a b d != 0) (List.drop (k + 1) t.Rows) <;> rfl
theorem first_outer (t : Table) (d : OD) (H : RowsD t.Rows d) : ∀ (r : List Row) (k : Nat), t.Rows.drop k = r → k ≤ t.Rows.length →
    LoopF (ordering_Violation_l4 t d) (k : Int) = some (match firstV d r with | some (a, b) => .inr (a.ID, b.ID, kindB a b d, true) | none => .inl ())
  | [], k, hd, hk => by
    have : k = t.Rows.length := by have := congrArg List.length hd; simp at this; omega
    subst this
    exact Loop_done (by simp [ordering_Violation_l4, firstV])
  | a :: r, k, hd, hk => by
    have hx : t.Rows[k]? = some a := by
      have := congrArg (·[0]?) hd
      simpa [List.getElem?_drop] using this
    have hkl := lt_of_get hx
    have hlen := H.len
    have hd' : t.Rows.drop (k + 1) = r := by rw [← List.drop_drop, hd]; rfl
    have hin := first_inner t d H k a hx
    rw [hd'] at hin
    simp only [firstV]
    cases hf : r.find? (fun b => kindB a b d != 0) with
    | some b =>
      rw [hf] at hin
      refine Loop_done ?_
      simp only [ordering_Violation_l4, if_pos (lt_true hx), idx_get hx, Option.bind_some, wrap_nat (show k < 4611686018427387904 by omega), if_pos (show (0 : Int) ≤ ((k + 1 : Nat) : Int) by omega), if_pos (show ((k + 1 : Nat) : Int) ≤ (t.Rows.length : Int) by omega), hin]
    | none =>
      rw [hf] at hin
      have hstep : ordering_Violation_l4 t d (k : Int) = some (.next ((k + 1 : Nat) : Int)) := by
        simp only [ordering_Violation_l4, if_pos (lt_true hx), idx_get hx, Option.bind_some, wrap_nat (show k < 4611686018427387904 by omega), if_pos (show (0 : Int) ≤ ((k + 1 : Nat) : Int) by omega), if_pos (show ((k + 1 : Nat) : Int) ≤ (t.Rows.length : Int) by omega), hin]
      rw [Loop_next hstep, first_outer t d H r (k + 1) hd' hkl]
/-- what Violation answers -/
def violation (t : Table) (d : OD) : Int × Int × Int × Bool :=
  if odErr t d = 0 then match firstV d t.Rows with | some (a, b) => (a.ID, b.ID, kindB a b d, true) | none => (0, 0, 0, false) else (0, 0, 0, false)
theorem Violation_eq (t : Table) (d : OD) (H : TabOk t) (hl : LenD d) : ordering_Violation t d = some (violation t d) := by
  simp only [ordering_Violation, check_eq t d H hl (fun y => ordering_Violation_1 y d) (show ordering_Violation_1 (t.Attrs.length : Int) d = _ by simp only [ordering_Violation_1, Valid_eq _ d hl.lhs hl.rhs, Option.bind_some]), Option.bind_some, violation]
  by_cases h : odErr t d = 0
  · have := first_outer t d (rowsD_of h H hl) t.Rows 0 rfl (Nat.zero_le _)
    simp only [h, bne_self_eq_false, Bool.false_eq_true, if_false, if_true]
    rw [show (0 : Int) = ((0 : Nat) : Int) from rfl, this]
    cases firstV d t.Rows with
    | none => rfl
    | some ab => obtain ⟨a, b⟩ := ab; rfl
  · simp [h]
theorem Holds_eq (t : Table) (d : OD) (H : TabOk t) (hl : LenD d) : ordering_Holds t d = some (if odErr t d = 0 then (!(violation t d).2.2.2, 0) else (false, odErr t d)) := by
  simp only [ordering_Holds, check_eq t d H hl (fun y => ordering_Holds_1 y d) (show ordering_Holds_1 (t.Attrs.length : Int) d = _ by simp only [ordering_Holds_1, Valid_eq _ d hl.lhs hl.rhs, Option.bind_some]), Option.bind_some, Violation_eq t d H hl]
  by_cases h : odErr t d = 0
  · simp [h]
  · simp [h]
end Go.Proofs.YtimfcgdnogjlhaaGreat
/- Ordering: canonical statements. -/
set_option linter.unusedVariables false
set_option linter.unusedSimpArgs false
namespace Go.Proofs.YtimfcgdnogjlhaaGreat
open Go Go.Ab

def setF (s x : Int) : Int := IntKind.u32.wrap ((BitVec.ofInt 32 s ||| (BitVec.ofInt 32 (IntKind.u32.wrap (1 * 2 ^ (min x.toNat 32))))).toNat : Int)
def setL (l : List Int) : Int := l.foldl setF 0
def orS (a b : Int) : Int := IntKind.u32.wrap ((BitVec.ofInt 32 a ||| (BitVec.ofInt 32 b)).toNat : Int)
def hasB (s i : Int) : Bool := (IntKind.u32.wrap ((BitVec.ofInt 32 (Int.fdiv s (2 ^ (min i.toNat 32))) &&& (1#32)).toNat : Int)) == 1
theorem set_eq (l : List Int) (hl : l.length ≤ 1073741824) (h0 : ∀ x ∈ l, 0 ≤ x) : ordering_set l = some (setL l) := by
  have h := LoopF_foldl l (fun (s : Int) i => (s, i)) (ordering_set_l1 l) setF id (fun _ _ => True) (b0 := 0) (s0 := (0, 0)) rfl trivial
    (fun k s x hx hk _ => by
      refine ⟨?_, trivial⟩
      have := h0 x (List.mem_of_getElem? hx)
      simp only [ordering_set_l1, if_pos (lt_true hx), idx_get hx, Option.bind_some, if_neg (show ¬ x < 0 by omega), wrap_succ hk (show l.length ≤ 4611686018427387904 by omega), setF])
    (fun s _ => by simp [ordering_set_l1])
  simp only [ordering_set, h, id, Option.bind_some]; rfl
def ceq (x y : Canonical) : Bool := (x.Context == y.Context) && ((x.A == y.A) && (x.B == y.B))
theorem ceq_iff (x y : Canonical) : ceq x y = true ↔ x = y := by
  obtain ⟨a, b, c⟩ := x; obtain ⟨d, e, f⟩ := y
  simp [ceq]
theorem Index_Canonical_eq (l : List Canonical) (c : Canonical) (hl : l.length ≤ 1073741824) : slices_Index_Canonical l c = some (posI (l.findIdx? (fun y => ceq c y))) := by
  have h := LoopF_find l (slices_Index_Canonical_l1 l c) (fun y => ceq c y)
    (fun k y hx hk hp => by
      unfold ceq at hp
      simp only [slices_Index_Canonical_l1, if_pos (lt_true hx), idx_get hx, Option.bind_some, hp, Bool.false_eq_true, if_false, if_true, wrap_succ hk (show l.length ≤ 4611686018427387904 by omega)])
    (fun k y hx hp => by
      unfold ceq at hp
      simp only [slices_Index_Canonical_l1, if_pos (lt_true hx), idx_get hx, Option.bind_some, hp, if_true])
    (by simp [slices_Index_Canonical_l1])
  simp only [slices_Index_Canonical, h, Option.bind_some]
  cases l.findIdx? (fun y => ceq c y) <;> rfl
theorem Contains_Canonical_eq (l : List Canonical) (c : Canonical) (hl : l.length ≤ 1073741824) : slices_Contains_Canonical l c = some (decide (c ∈ l)) := by
  simp only [slices_Contains_Canonical, Index_Canonical_eq l c hl, Option.bind_some]
  rw [posI_any]
  congr 1
  rw [Bool.eq_iff_iff, List.any_eq_true, decide_eq_true_eq]
  exact ⟨fun ⟨x, hx, h⟩ => by rw [ceq_iff] at h; rw [h]; exact hx, fun h => ⟨c, h, (ceq_iff c c).2 rfl⟩⟩

def trivB (c : Canonical) : Bool := (c.A == c.B) || (hasB c.Context c.A || (decide (0 ≤ c.B) && hasB c.Context c.B))
def putB (out : List Canonical) (c : Canonical) : List Canonical := if trivB c = true then out else if c ∈ out then out else out ++ [c]
theorem putB_len (out : List Canonical) (c : Canonical) : (putB out c).length ≤ out.length + 1 := by
  unfold putB; split; · omega
  split <;> simp

/-- the first statements: x is constant where -/
def out1 (x : List Int) (ys : List Int) : List Canonical := ys.foldl (fun o a => putB o ⟨setL x, a, -1⟩) []
theorem Canonical_l1_eq (x ys : List Int) (hx : x.length ≤ 1073741824) (hy : ys.length ≤ 1000) (h0 : ∀ a ∈ x, 0 ≤ a) (hy0 : ∀ a ∈ ys, 0 ≤ a) : LoopF (ordering_Canonical_l1 x ys) ([], 0) = some (out1 x ys) := by
  exact LoopF_foldl ys (fun (o : List Canonical) i => (o, i)) (ordering_Canonical_l1 x ys) (fun o a => putB o ⟨setL x, a, -1⟩) id (fun k o => o.length ≤ k) (b0 := []) (s0 := ([], 0)) rfl (Nat.le_refl 0)
    (fun k o a ha hk hI => by
      refine ⟨?_, Nat.le_trans (putB_len o _) (by omega)⟩
      have ha0 := hy0 a (List.mem_of_getElem? ha)
      have hne : ¬ (a == (-1 : Int)) = true := by simp; omega
      simp only [ordering_Canonical_l1, if_pos (lt_true ha), idx_get ha, Option.bind_some, set_eq x hx h0, if_neg hne, if_neg (show ¬ a < 0 by omega), Contains_Canonical_eq o _ (show o.length ≤ 1073741824 by omega), wrap_succ hk (show ys.length ≤ 4611686018427387904 by omega), room_le (show o.length + 1 ≤ 1073741824 by omega) (show 24 ≤ 65536 by omega), if_true]
      have e : trivB ⟨setL x, a, -1⟩ = hasB (setL x) a := by
        unfold trivB
        rw [Bool.eq_false_iff.2 hne, decide_eq_false (show ¬ (0 : Int) ≤ -1 by omega)]; simp
      have hd : ((IntKind.u32.wrap ((BitVec.ofInt 32 (Int.fdiv (setL x) (2 ^ (min a.toNat 32))) &&& (1#32)).toNat : Int)) == 1) = hasB (setL x) a := rfl
      rw [hd]
      unfold putB
      rw [e]
      cases hasB (setL x) a
      · by_cases hm : (⟨setL x, a, -1⟩ : Canonical) ∈ o <;> simp [hm]
      · simp)
    (fun o _ => by simp [ordering_Canonical_l1])
end Go.Proofs.YtimfcgdnogjlhaaGreat
/- Ordering: canonical statements, second part. -/
set_option linter.unusedVariables false
set_option linter.unusedSimpArgs false
namespace Go.Proofs.YtimfcgdnogjlhaaGreat
open Go Go.Ab

def mn (a b : Int) : Int := if b < a then b else a
def mx (a b : Int) : Int := if b > a then b else a
def inn (x y : List Int) (i : Nat) (a : Int) : Nat → List Int → List Canonical → List Canonical
  | _, [], o => o
  | k, b :: r, o => inn x y i a (k + 1) r (putB o ⟨orS (setL (x.take i)) (setL (y.take k)), mn a b, mx a b⟩)
def outr (x y : List Int) : Nat → List Int → List Canonical → List Canonical
  | _, [], o => o
  | i, a :: r, o => outr x y (i + 1) r (inn x y i a 0 y o)
theorem inn_len (x y : List Int) (i : Nat) (a : Int) : ∀ (r : List Int) (k : Nat) (o : List Canonical), (inn x y i a k r o).length ≤ o.length + r.length
  | [], _, o => Nat.le_refl _
  | b :: r, k, o => by
    simp only [inn, List.length_cons]
    have h1 := inn_len x y i a r (k + 1) (putB o ⟨orS (setL (x.take i)) (setL (y.take k)), mn a b, mx a b⟩)
    have h2 := putB_len o ⟨orS (setL (x.take i)) (setL (y.take k)), mn a b, mx a b⟩
    omega
theorem Canonical_l4_eq (x y : List Int) (i : Nat) (a : Int) (hi : i ≤ x.length) (hx : x.length ≤ 1000) (hy : y.length ≤ 1000) (ha : 0 ≤ a) (hx0 : ∀ z ∈ x, 0 ≤ z) (hy0 : ∀ z ∈ y, 0 ≤ z) :
    ∀ (r : List Int) (k : Nat) (o : List Canonical), y.drop k = r → k ≤ y.length → o.length + r.length ≤ 2000000 → LoopF (ordering_Canonical_l4 x y (i : Int) a) (o, (k : Int)) = some (inn x y i a k r o)
  | [], k, o, hd, hk, ho => by
    have : k = y.length := by have := congrArg List.length hd; simp at this; omega
    subst this
    exact Loop_done (by simp [ordering_Canonical_l4, inn])
  | b :: r, k, o, hd, hk, ho => by
    have hb : y[k]? = some b := by
      have := congrArg (·[0]?) hd
      simpa [List.getElem?_drop] using this
    have hkl := lt_of_get hb
    have hd' : y.drop (k + 1) = r := by rw [← List.drop_drop, hd]; rfl
    have hb0 := hy0 b (List.mem_of_getElem? hb)
    have hmn : ¬ mn a b < 0 := by unfold mn; split <;> omega
    have hmx : ¬ mx a b < 0 := by unfold mx; split <;> omega
    have hs1 : ordering_set (x.take i) = some (setL (x.take i)) := set_eq _ (by rw [List.length_take]; omega) (fun z hz => hx0 z (List.mem_of_mem_take hz))
    have hs2 : ordering_set (y.take k) = some (setL (y.take k)) := set_eq _ (by rw [List.length_take]; omega) (fun z hz => hy0 z (List.mem_of_mem_take hz))
    simp only [List.length_cons] at ho
    have hstep : ordering_Canonical_l4 x y (i : Int) a (o, (k : Int)) = some (.next (putB o ⟨orS (setL (x.take i)) (setL (y.take k)), mn a b, mx a b⟩, ((k + 1 : Nat) : Int))) := by
      have emn : (if b < a then b else a) = mn a b := rfl
      have emx : (if b > a then b else a) = mx a b := rfl
      have eor : (IntKind.u32.wrap ((BitVec.ofInt 32 (setL (x.take i)) ||| (BitVec.ofInt 32 (setL (y.take k)))).toNat : Int)) = orS (setL (x.take i)) (setL (y.take k)) := rfl
      have eh : ∀ s z : Int, ((IntKind.u32.wrap ((BitVec.ofInt 32 (Int.fdiv s (2 ^ (min z.toNat 32))) &&& (1#32)).toNat : Int)) == 1) = hasB s z := fun _ _ => rfl
      simp only [ordering_Canonical_l4, if_pos (lt_true hb), idx_get hb, Option.bind_some, if_pos (show (0 : Int) ≤ (i : Int) by omega), if_pos (show (i : Int) ≤ (x.length : Int) by omega), toNat_nat, hs1, hs2, if_pos (show (0 : Int) ≤ (k : Int) by omega), if_pos (show (k : Int) ≤ (y.length : Int) by omega), emn, emx, eor, eh, if_neg hmn, if_neg hmx, if_pos (show mx a b ≥ 0 by omega), Contains_Canonical_eq o _ (show o.length ≤ 1073741824 by omega), wrap_nat (show k < 4611686018427387904 by omega), room_le (show o.length + 1 ≤ 1073741824 by omega) (show 24 ≤ 65536 by omega), if_true]
      generalize orS (setL (x.take i)) (setL (y.take k)) = s
      have e : trivB ⟨s, mn a b, mx a b⟩ = ((mn a b == mx a b) || (hasB s (mn a b) || hasB s (mx a b))) := by
        unfold trivB
        rw [decide_eq_true (show (0 : Int) ≤ mx a b by omega)]; simp
      unfold putB
      rw [e]
      cases h1 : (mn a b == mx a b)
      · cases h2 : hasB s (mn a b)
        · cases h3 : hasB s (mx a b)
          · by_cases hm : (⟨s, mn a b, mx a b⟩ : Canonical) ∈ o <;> simp [hm]
          · simp
        · simp
      · simp
    rw [Loop_next hstep]
    have hp := putB_len o ⟨orS (setL (x.take i)) (setL (y.take k)), mn a b, mx a b⟩
    rw [Canonical_l4_eq x y i a hi hx hy ha hx0 hy0 r (k + 1) _ hd' hkl (by omega)]
    simp [inn]
theorem Canonical_l5_eq (x y : List Int) (hx : x.length ≤ 1000) (hy : y.length ≤ 1000) (hx0 : ∀ z ∈ x, 0 ≤ z) (hy0 : ∀ z ∈ y, 0 ≤ z) :
    ∀ (r : List Int) (i : Nat) (o : List Canonical), x.drop i = r → i ≤ x.length → o.length ≤ 1000 + i * 1000 → LoopF (ordering_Canonical_l5 x y) (o, (i : Int)) = some (outr x y i r o)
  | [], i, o, hd, hk, ho => by
    have : i = x.length := by have := congrArg List.length hd; simp at this; omega
    subst this
    exact Loop_done (by simp [ordering_Canonical_l5, outr])
  | a :: r, i, o, hd, hk, ho => by
    have hb : x[i]? = some a := by
      have := congrArg (·[0]?) hd
      simpa [List.getElem?_drop] using this
    have hkl := lt_of_get hb
    have hd' : x.drop (i + 1) = r := by rw [← List.drop_drop, hd]; rfl
    have ha0 := hx0 a (List.mem_of_getElem? hb)
    have hin := Canonical_l4_eq x y i a (by omega) hx hy ha0 hx0 hy0 y 0 o rfl (Nat.zero_le _) (by omega)
    have hstep : ordering_Canonical_l5 x y (o, (i : Int)) = some (.next (inn x y i a 0 y o, ((i + 1 : Nat) : Int))) := by
      rw [show ((0 : Nat) : Int) = 0 from rfl] at hin
      simp only [ordering_Canonical_l5, if_pos (lt_true hb), idx_get hb, Option.bind_some, hin, wrap_nat (show i < 4611686018427387904 by omega)]
    rw [Loop_next hstep]
    have := inn_len x y i a y 0 o
    rw [Canonical_l5_eq x y hx hy hx0 hy0 r (i + 1) _ hd' hkl (by omega)]
    simp [outr]
end Go.Proofs.YtimfcgdnogjlhaaGreat
/- Ordering: canonical statements of the reference. -/
set_option linter.unusedVariables false
set_option linter.unusedSimpArgs false
namespace Go.Proofs.YtimfcgdnogjlhaaGreat
open Go Go.Ab

end Go.Proofs.YtimfcgdnogjlhaaGreat
/- Ordering: both Canonicals answer the same. -/
set_option linter.unusedVariables false
set_option linter.unusedSimpArgs false
namespace Go.Proofs.YtimfcgdnogjlhaaGreat
open Go Go.Ab

theorem onceF_fold_mem (z : Int) : ∀ (l out : List Int), z ∈ l.foldl onceF out ↔ z ∈ out ∨ z ∈ l
  | [], out => by simp
  | a :: l, out => by
    rw [List.foldl_cons, onceF_fold_mem z l]
    unfold onceF
    by_cases h : a ∈ out
    · rw [if_pos h]
      refine ⟨fun h => h.imp id (List.mem_cons_of_mem _), fun h' => ?_⟩
      rcases h' with h' | h'
      · exact .inl h'
      · rcases List.mem_cons.1 h' with rfl | h'
        · exact .inl h
        · exact .inr h'
    · rw [if_neg h]
      simp only [List.mem_append, List.mem_cons, List.not_mem_nil, or_false, or_assoc]
theorem onceF_fold_nodup : ∀ (l out : List Int), out.Nodup → (l.foldl onceF out).Nodup
  | [], out, h => h
  | a :: l, out, h => by
    rw [List.foldl_cons]
    refine onceF_fold_nodup l _ ?_
    unfold onceF
    by_cases hm : a ∈ out
    · rw [if_pos hm]; exact h
    · rw [if_neg hm, List.nodup_append]
      refine ⟨h, by simp, fun x hx y hy => ?_⟩
      simp only [List.mem_singleton] at hy
      subst hy
      intro e; subst e; exact hm hx
theorem onceF_fold_len : ∀ (l out : List Int), (l.foldl onceF out).length ≤ out.length + l.length
  | [], out => Nat.le_refl _
  | a :: l, out => by
    rw [List.foldl_cons, List.length_cons]
    have := onceF_fold_len l (onceF out a)
    have := onceF_len out a
    omega
theorem mem_onceL (l : List Int) (z : Int) : z ∈ onceL l ↔ z ∈ l := by unfold onceL; rw [onceF_fold_mem]; simp
theorem onceL_nodup (l : List Int) : (onceL l).Nodup := onceF_fold_nodup l [] List.nodup_nil
theorem onceL_len (l : List Int) : (onceL l).length ≤ l.length := by have := onceF_fold_len l []; simpa [onceL] using this

def upto16 (y : List Int) : List Int := ((List.range 16).map fun (k : Nat) => (k : Int)).filter fun z => decide (z ∈ y)
theorem srtI_upto (y : List Int) (hn : y.Nodup) (h : ∀ z ∈ y, 0 ≤ z ∧ z < 16) : srtI y = upto16 y := by
  have hr : (((List.range 16).map fun (k : Nat) => (k : Int))).Pairwise (· < ·) := by
    rw [List.pairwise_map]
    exact (List.pairwise_lt_range (n := 16)).imp (fun h => by omega)
  have hs : (upto16 y).Pairwise (· < ·) := hr.sublist List.filter_sublist
  have hp : (srtI y).Perm (upto16 y) := by
    refine (srtI_perm y).trans ?_
    refine (List.perm_ext_iff_of_nodup hn (hs.imp (fun h => by omega))).2 fun z => ?_
    unfold upto16
    rw [List.mem_filter, decide_eq_true_eq, List.mem_map]
    refine ⟨fun hz => ⟨⟨z.toNat, ?_, ?_⟩, hz⟩, fun hz => hz.2⟩
    · have := h z hz; rw [List.mem_range]; omega
    · have := h z hz; omega
  exact hp.eq_of_pairwise (fun a b _ _ h1 h2 => Int.le_antisymm h1 h2) (srtI_sorted y) (hs.imp (fun h => by omega))
/-- what both answer -/
def canon (d : OD) : List Canonical := outr (onceL d.Lhs) (onceL d.Rhs) 0 (onceL d.Lhs) (out1 (onceL d.Lhs) (upto16 (onceL d.Rhs)))
theorem listB_mem {n : Int} {l : List Int} (h : listB n l = true) : l.length ≤ 8 ∧ ∀ z ∈ l, 0 ≤ z ∧ z < n := by
  simp only [listB, Bool.and_eq_true, decide_eq_true_eq, List.all_eq_true] at h
  exact h
theorem out1_len (x : List Int) : ∀ (ys : List Int) (o : List Canonical), (ys.foldl (fun o a => putB o ⟨setL x, a, -1⟩) o).length ≤ o.length + ys.length
  | [], o => Nat.le_refl _
  | a :: ys, o => by
    rw [List.foldl_cons, List.length_cons]
    have := out1_len x ys (putB o ⟨setL x, a, -1⟩)
    have := putB_len o ⟨setL x, a, -1⟩
    omega
theorem Canonical_eq (d : OD) (h1 : d.Lhs.length ≤ 1048576) (h2 : d.Rhs.length ≤ 1048576) : ordering_Canonical d = some (if validB 16 d = true then (canon d, 0) else ([], 1)) := by
  simp only [ordering_Canonical, Valid_eq 16 d (by omega) (by omega), Option.bind_some]
  by_cases h : validB 16 d = true
  · rw [if_pos h, if_pos h]
    simp only [validB, Bool.and_eq_true] at h
    obtain ⟨l1, m1⟩ := listB_mem h.1
    obtain ⟨l2, m2⟩ := listB_mem h.2
    have hx := onceL_len d.Lhs
    have hy := onceL_len d.Rhs
    have hx0 : ∀ z ∈ onceL d.Lhs, 0 ≤ z ∧ z < 16 := fun z hz => m1 z ((mem_onceL _ _).1 hz)
    have hy0 : ∀ z ∈ onceL d.Rhs, 0 ≤ z ∧ z < 16 := fun z hz => m2 z ((mem_onceL _ _).1 hz)
    have hs := srtI_upto (onceL d.Rhs) (onceL_nodup _) hy0
    have hsl : (srtI (onceL d.Rhs)).length ≤ 8 := by rw [(srtI_perm _).length_eq]; omega
    have hlt : (onceL d.Rhs).length < 4611686018427387904 := by omega
    have e1 := Canonical_l1_eq (onceL d.Lhs) (srtI (onceL d.Rhs)) (by omega) (by omega) (fun z hz => (hx0 z hz).1) (fun z hz => (hy0 z ((srtI_perm _).mem_iff.1 hz)).1)
    have e2 := Canonical_l5_eq (onceL d.Lhs) (onceL d.Rhs) (by omega) (by omega) (fun z hz => (hx0 z hz).1) (fun z hz => (hy0 z hz).1) (onceL d.Lhs) 0 (out1 (onceL d.Lhs) (srtI (onceL d.Rhs))) rfl (Nat.zero_le _) (by
      have := out1_len (onceL d.Lhs) (srtI (onceL d.Rhs)) []
      unfold out1; simp only [List.length_nil] at this; omega)
    simp only [once_eq17 _ h1, once_eq17 _ h2, slices_Values_int, slices_Sorted_int, srtIF, if_pos hlt, if_pos (show (onceL d.Rhs).length ≤ 1000000000000 by omega), Option.bind_some, e1]
    rw [show (0 : Int) = ((0 : Nat) : Int) from rfl, e2, hs]
    rfl
  · simp only [Bool.not_eq_true] at h
    simp [h]
end Go.Proofs.YtimfcgdnogjlhaaGreat
/- SurvivorChoose answers true. -/
set_option linter.unusedVariables false
namespace Go.Proofs.YtimfcgdnogjlhaaGreat
open Go Go.Ab
end Go.Proofs.YtimfcgdnogjlhaaGreat
/- SurvivorSource answers true. -/
set_option linter.unusedVariables false
set_option linter.unusedSimpArgs false
namespace Go.Proofs.YtimfcgdnogjlhaaGreat
open Go Go.Ab
end Go.Proofs.YtimfcgdnogjlhaaGreat
/- Which merged tables merge a table: both ways of telling agree. -/
set_option linter.unusedVariables false
set_option linter.unusedSimpArgs false
namespace Go.Proofs.YtimfcgdnogjlhaaGreat
open Go Go.Ab
/-! ### the two ways of dividing agree for a table whose IDs ascend -/
end Go.Proofs.YtimfcgdnogjlhaaGreat
/- SurvivorMerge answers true. -/
set_option linter.unusedVariables false
namespace Go.Proofs.YtimfcgdnogjlhaaGreat
open Go Go.Ab
end Go.Proofs.YtimfcgdnogjlhaaGreat
/- The merged table: sorting, keeping. -/
set_option linter.unusedVariables false
set_option linter.unusedSimpArgs false
namespace Go.Proofs.YtimfcgdnogjlhaaGreat
open Go Go.Ab
/-! ### both sort by insertion -/
/-! ### the rows of some IDs -/
end Go.Proofs.YtimfcgdnogjlhaaGreat
/- The merged table: its rows. -/
set_option linter.unusedVariables false
set_option linter.unusedSimpArgs false
namespace Go.Proofs.YtimfcgdnogjlhaaGreat
open Go Go.Ab
end Go.Proofs.YtimfcgdnogjlhaaGreat
/- Two merged tables that are the same. -/
set_option linter.unusedVariables false
set_option linter.unusedSimpArgs false
namespace Go.Proofs.YtimfcgdnogjlhaaGreat
open Go Go.Ab
end Go.Proofs.YtimfcgdnogjlhaaGreat
/- Equality of merged tables as the program tells it. -/
set_option linter.unusedVariables false
set_option linter.unusedSimpArgs false
namespace Go.Proofs.YtimfcgdnogjlhaaGreat
open Go Go.Ab
end Go.Proofs.YtimfcgdnogjlhaaGreat
/- Insertion sorts: the heads ascend. -/
set_option linter.unusedVariables false
set_option linter.unusedSimpArgs false
namespace Go.Proofs.YtimfcgdnogjlhaaGreat
open Go Go.Ab
def hd (l : List (List Int)) (i : Nat) : Int := (l.getD i []).headD 0
end Go.Proofs.YtimfcgdnogjlhaaGreat
/- The merged table is well-formed. -/
set_option linter.unusedVariables false
set_option linter.unusedSimpArgs false
namespace Go.Proofs.YtimfcgdnogjlhaaGreat
open Go Go.Ab
/-! ### the values and origins -/
end Go.Proofs.YtimfcgdnogjlhaaGreat
/- Merging: both ways agree; what it gives. -/
set_option linter.unusedVariables false
set_option linter.unusedSimpArgs false
namespace Go.Proofs.YtimfcgdnogjlhaaGreat
open Go Go.Ab
end Go.Proofs.YtimfcgdnogjlhaaGreat
/- The merged table is a merging of the table. -/
set_option linter.unusedVariables false
set_option linter.unusedSimpArgs false
namespace Go.Proofs.YtimfcgdnogjlhaaGreat
open Go Go.Ab
theorem rowsCode_of (n : Nat) : ∀ (l : List Row) (a : Int), (∀ r ∈ l, a < r.ID ∧ r.Values.length = n ∧ r.Values.all valid = true) → l.Pairwise (fun r q => r.ID < q.ID) → rowsCode n a l = 0
  | [], _, _, _ => rfl
  | r :: l, a, h, hp => by
    obtain ⟨h1, h2, h3⟩ := h r (by simp)
    rw [List.pairwise_cons] at hp
    simp only [rowsCode]
    rw [if_neg (by omega), if_neg (by simp [h2]), if_pos h3]
    exact rowsCode_of n l r.ID (fun q hq => ⟨hp.1 q hq, (h q (by simp [hq])).2⟩) hp.2
end Go.Proofs.YtimfcgdnogjlhaaGreat
/- Tables from recipes. -/
set_option linter.unusedVariables false
set_option linter.unusedSimpArgs false
namespace Go.Proofs.YtimfcgdnogjlhaaGreat
open Go Go.Ab
theorem grow_loop {α : Type} {B : List α × Int → Option (LS (List α × Int) (List α))} (N : Nat) (f : Nat → α)
    (hB : ∀ (k : Nat) (out : List α), k < N → out.length = k → B (out, (k : Int)) = some (.next (out ++ [f k], ((k + 1 : Nat) : Int))))
    (hE : ∀ out : List α, B (out, (N : Int)) = some (.done out)) : LoopF B ([], 0) = some ((List.range N).map f) := by
  have key : ∀ (r k : Nat) (out : List α), k + r = N → out.length = k → LoopF B (out, (k : Int)) = some (out ++ (List.range' k r).map f) := by
    intro r
    induction r with
    | zero =>
      intro k out hk ho
      have : k = N := by omega
      subst this
      rw [Loop_done (hE out)]; simp
    | succ r ih =>
      intro k out hk ho
      rw [Loop_next (hB k out (by omega) ho), ih (k + 1) _ (by omega) (by simp [ho])]
      simp [List.range'_succ]
  have h := key N 0 [] (by omega) rfl
  simp only [Int.natCast_zero, List.nil_append] at h
  rw [h, List.range_eq_range']
theorem Of_some (c : Int) : ∃ v, drossref01_Of c = some v ∧ valid v = true ∧ v.Str.length ≤ 2 := by
  unfold drossref01_Of
  by_cases h0 : (Int.tmod c 12 == 0) = true
  · rw [if_pos h0]; exact ⟨_, rfl, by decide, by decide⟩
  rw [if_neg h0]
  by_cases h1 : (Int.tmod c 12 == 1) = true
  · rw [if_pos h1]; exact ⟨_, rfl, by decide, by decide⟩
  rw [if_neg h1]
  by_cases h2 : (Int.tmod c 12 == 2) = true
  · rw [if_pos h2]; exact ⟨_, rfl, by decide, by decide⟩
  rw [if_neg h2]
  by_cases h3 : (Int.tmod c 12 == 3) = true
  · rw [if_pos h3]; exact ⟨_, rfl, by decide, by decide⟩
  rw [if_neg h3]
  by_cases h4 : (Int.tmod c 12 == 4) = true
  · rw [if_pos h4]; exact ⟨_, rfl, by decide, by decide⟩
  rw [if_neg h4]
  by_cases h5 : (Int.tmod c 12 == 5) = true
  · rw [if_pos h5]; exact ⟨_, rfl, by decide, by decide⟩
  rw [if_neg h5]
  by_cases h6 : (Int.tmod c 12 == 6) = true
  · rw [if_pos h6]; exact ⟨_, rfl, by decide, by decide⟩
  rw [if_neg h6]
  by_cases h7 : (Int.tmod c 12 == 7) = true
  · rw [if_pos h7]; exact ⟨_, rfl, by decide, by decide⟩
  rw [if_neg h7]
  by_cases h8 : (Int.tmod c 12 == 8) = true
  · rw [if_pos h8]; exact ⟨_, rfl, by decide, by decide⟩
  rw [if_neg h8]
  by_cases h9 : (Int.tmod c 12 == 9) = true
  · rw [if_pos h9]; exact ⟨_, rfl, by decide, by decide⟩
  rw [if_neg h9]
  by_cases h10 : (Int.tmod c 12 == 10) = true
  · rw [if_pos h10]; exact ⟨_, rfl, by decide, by decide⟩
  rw [if_neg h10]
  exact ⟨_, rfl, by decide, by decide⟩
noncomputable def ofV (c : Int) : Value := (drossref01_Of c).getD ⟨0, 0, []⟩
theorem ofV_eq (c : Int) : drossref01_Of c = some (ofV c) ∧ valid (ofV c) = true ∧ (ofV c).Str.length ≤ 2 := by
  obtain ⟨v, h1, h2, h3⟩ := Of_some c
  have : ofV c = v := by unfold ofV; rw [h1]; rfl
  rw [this]; exact ⟨h1, h2, h3⟩
noncomputable def wval (x : Drossref03_Recipe) (i k : Nat) : Value := ofV (((x.Rows.getD i []).getD k 0))
def wstep (x : Drossref03_Recipe) : Nat := 1 + x.Gap.toNat % 3
noncomputable def wrow (x : Drossref03_Recipe) (n i : Nat) : Row := ⟨((1 + i * wstep x : Nat) : Int), (List.range n).map (wval x i)⟩
def wnames : List (List UInt8) := [[97], [98], [99], [100], [101], [102], [103], [104]]
noncomputable def wide (x : Drossref03_Recipe) (n : Nat) : Table := ⟨[114], wnames.take n, (List.range x.Rows.length).map (wrow x n)⟩
theorem wide_inner (x : Drossref03_Recipe) (n i : Nat) (hn : n ≤ 8) (hi : i < x.Rows.length) (hl : ∀ r ∈ x.Rows, r.length ≤ 1048576) :
    LoopF (drossref03_Wide_l3 x (n : Int) (i : Int)) ([], 0) = some ((List.range n).map (wval x i)) := by
  have hx : x.Rows[i]? = some (x.Rows.getD i []) := by simp [List.getD, List.getElem?_eq_getElem hi]
  have hxl := hl _ (List.mem_of_getElem? hx)
  refine grow_loop n (wval x i) (fun k out hk ho => ?_) (fun out => by simp [drossref03_Wide_l3])
  have hk' : ((k : Int) < (n : Int)) := by omega
  have hroom : roomB (out.length + 1) 32 = true := room_le (by omega) (by omega)
  have hw := wrap_nat (k := k) (by omega)
  simp only [drossref03_Wide_l3, if_pos hk', idx_get hx, Option.bind_some]
  by_cases h : k < (x.Rows.getD i []).length
  · have h' : ((k : Int) < ((x.Rows.getD i []).length : Int)) := by omega
    have hg : (x.Rows.getD i [])[k]? = some ((x.Rows.getD i []).getD k 0) := by
      generalize x.Rows.getD i [] = l at h
      simp [List.getD, List.getElem?_eq_getElem h]
    simp only [if_pos h', idx_get hg, Option.bind_some, (ofV_eq _).1, hroom, if_true, hw]
    rfl
  · have h' : ¬ ((k : Int) < ((x.Rows.getD i []).length : Int)) := by omega
    have hg : (x.Rows.getD i []).getD k 0 = 0 := by
      generalize x.Rows.getD i [] = l at h
      simp [List.getD, List.getElem?_eq_none (show l.length ≤ k by omega)]
    simp only [if_neg h', (ofV_eq _).1, Option.bind_some, hroom, if_true, hw]
    unfold wval
    rw [hg]
theorem Wide_eq (x : Drossref03_Recipe) (n : Nat) (hn : n ≤ 8) (hr : x.Rows.length ≤ 8) (hl : ∀ r ∈ x.Rows, r.length ≤ 1048576) (hg : 0 ≤ x.Gap ∧ x.Gap ≤ 255) : drossref03_Wide x (n : Int) = some (wide x n) := by
  have h1 : (0 : Int) ≤ (n : Int) := by omega
  have h2 : (n : Int) ≤ 8 := by omega
  have hroom : roomB ((wnames.take n).length) 16 = true := room_le (by simp; omega) (by omega)
  have ho : LoopF (drossref03_Wide_l4 x (n : Int)) ([], 0) = some ((List.range x.Rows.length).map (wrow x n)) := by
    refine grow_loop x.Rows.length (wrow x n) (fun i out hi ho => ?_) (fun out => by simp [drossref03_Wide_l4])
    have hi' : ((i : Int) < (x.Rows.length : Int)) := by omega
    have hroom : roomB (out.length + 1) 32 = true := room_le (by omega) (by omega)
    have hm : Int.tmod x.Gap 3 = ((x.Gap.toNat % 3 : Nat) : Int) := by
      rw [Int.tmod_eq_emod_of_nonneg hg.1]; omega
    have e1 : IntKind.i64.wrap (Int.tmod x.Gap 3) = ((x.Gap.toNat % 3 : Nat) : Int) := by rw [hm, wrap_i64 (by omega) (by omega)]
    have e2 : IntKind.i64.wrap (1 + IntKind.i64.wrap (Int.tmod x.Gap 3)) = ((wstep x : Nat) : Int) := by
      rw [e1, wrap_i64 (by omega) (by omega)]; unfold wstep; omega
    have hs : wstep x ≤ 3 := by unfold wstep; omega
    have hmul : i * wstep x ≤ 8 * 3 := Nat.mul_le_mul (by omega) hs
    have e3 : IntKind.i64.wrap ((i : Int) * ((wstep x : Nat) : Int)) = ((i * wstep x : Nat) : Int) := by
      rw [← Int.natCast_mul, wrap_i64 (by omega) (by omega)]
    have e4 : IntKind.i64.wrap (1 + IntKind.i64.wrap ((i : Int) * IntKind.i64.wrap (1 + IntKind.i64.wrap (Int.tmod x.Gap 3)))) = ((1 + i * wstep x : Nat) : Int) := by
      rw [e2, e3, wrap_i64 (by omega) (by omega)]; omega
    simp only [drossref03_Wide_l4, if_pos hi', wide_inner x n i hn hi hl, Option.bind_some, hroom, if_true, e4, wrap_nat (k := i) (by omega)]
    rfl
  simp only [drossref03_Wide, if_pos h1, if_pos h2, Option.bind_some, Int.toNat_natCast]
  have hroom' : roomB ((List.take n [[97], [98], [99], [100], [101], [102], [103], [104]] : List (List UInt8)).length) 16 = true := hroom
  rw [if_pos hroom', ho]
  rfl
end Go.Proofs.YtimfcgdnogjlhaaGreat
/- Ordering: the chapter's example. -/
set_option linter.unusedVariables false
set_option linter.unusedSimpArgs false
namespace Go.Proofs.YtimfcgdnogjlhaaGreat
open Go Go.Ab

theorem List01_eq (l : List Int) (hl : l.length ≤ 1048576) : drossref01_List l = some (l.map ofV) := by
  have h := LoopF_foldl l (fun (o : List Value) i => (o, i)) (drossref01_List_l1 l) (fun o c => o ++ [ofV c]) id (fun k o => o.length = k) (b0 := []) (s0 := ([], 0)) rfl rfl
    (fun k o c hx hk hI => by
      refine ⟨?_, by simp [hI]⟩
      simp only [drossref01_List_l1, if_pos (lt_true hx), idx_get hx, Option.bind_some, (ofV_eq c).1, room_le (show o.length + 1 ≤ 1073741824 by omega) (show 32 ≤ 65536 by omega), if_true, wrap_succ hk (show l.length ≤ 4611686018427387904 by omega)])
    (fun o _ => by simp [drossref01_List_l1])
  simp only [drossref01_List, h, id, Option.bind_some]
  have : ∀ (l : List Int) (o : List Value), l.foldl (fun o c => o ++ [ofV c]) o = o ++ l.map ofV := by
    intro l
    induction l with
    | nil => intro o; simp
    | cons c l ih => intro o; rw [List.foldl_cons, ih]; simp
  rw [this]; rfl
def exT : Table := ⟨[116], [[97], [98]], [⟨1, [⟨1, 1, []⟩, ⟨1, 1, []⟩]⟩, ⟨2, [⟨1, 2, []⟩, ⟨1, 7, []⟩]⟩, ⟨3, [⟨1, 7, []⟩, ⟨1, 2, []⟩]⟩]⟩
theorem ofV_1 : ofV 1 = ⟨1, 1, []⟩ := by simp [ofV, drossref01_Of]
theorem ofV_2 : ofV 2 = ⟨1, 2, []⟩ := by simp [ofV, drossref01_Of]
theorem ofV_11 : ofV 11 = ⟨1, 7, []⟩ := by simp [ofV, drossref01_Of]
theorem example17_eq : drosslaw17_example = some exT := by
  have h := LoopF_foldl (List.range 3) (fun (o : List Row) i => (o, i)) (drosslaw17_example_l1 [[1, 1], [2, 11], [11, 2]]) (fun o (k : Nat) => o ++ [⟨(k : Int) + 1, ((([[1, 1], [2, 11], [11, 2]] : List (List Int)).getD k []).map ofV)⟩]) id (fun k o => o.length = k) (b0 := []) (s0 := ([], 0)) rfl rfl
    (fun k o z hz hk hI => by
      have hzk : z = k := by
        have := (List.getElem?_eq_some_iff.1 hz).2
        simpa using this.symm
      subst hzk
      have hk3 : z < 3 := by simpa using hk
      refine ⟨?_, by simp [hI]⟩
      have hi : ([[1, 1], [2, 11], [11, 2]] : List (List Int))[z]? = some (([[1, 1], [2, 11], [11, 2]] : List (List Int)).getD z []) := by
        have : z < ([[1, 1], [2, 11], [11, 2]] : List (List Int)).length := hk3
        simp [List.getD, List.getElem?_eq_getElem this]
      have hl : (([[1, 1], [2, 11], [11, 2]] : List (List Int)).getD z []).length ≤ 1048576 := by
        rcases z with _ | _ | _ | z
        · simp
        · simp
        · simp
        · omega
      have hw : IntKind.i64.wrap ((z : Int) + 1) = (z : Int) + 1 := by rw [wrap_i64 (by omega) (by omega)]
      simp only [drosslaw17_example_l1, if_pos (show (z : Int) < 3 by omega), idx_get hi, Option.bind_some, List01_eq _ hl, room_le (show o.length + 1 ≤ 1073741824 by omega) (show 32 ≤ 65536 by omega), if_true, hw]
      rfl)
    (fun o _ => by simp [drosslaw17_example_l1])
  simp only [drosslaw17_example, Option.bind_some, h, id]
  simp only [exT, List.range, List.range.loop, List.foldl_cons, List.foldl_nil, List.getD, List.getElem?_cons_zero, List.getElem?_cons_succ, Option.getD_some, List.map_cons, List.map_nil, ofV_1, ofV_2, ofV_11, List.nil_append, List.cons_append]
  rfl
theorem exT_ok : TabOk exT := ⟨by decide, by decide, by decide, by intro r hr v hv; revert v; revert r; decide⟩
theorem Equal_Canonical_self (l : List Canonical) (hl : l.length ≤ 1073741824) : slices_Equal_Canonical l l = some true := by
  have h := LoopF_all l (slices_Equal_Canonical_l1 l l) (fun _ => true) false
    (fun k x hx hk _ => by
      have := (ceq_iff x x).2 rfl
      unfold ceq at this
      simp only [slices_Equal_Canonical_l1, if_pos (lt_true hx), idx_get hx, Option.bind_some, this, if_true, wrap_succ hk (show l.length ≤ 4611686018427387904 by omega)])
    (fun k x hx hp => by cases hp)
    (by simp [slices_Equal_Canonical_l1])
  have ht : (l.all fun _ => true) = true := by simp
  simp only [slices_Equal_Canonical, h, ht, if_true, Option.bind_some, bne_self_eq_false, Bool.false_eq_true, if_false]
theorem awake17 : drosslaw17_awake = some true := by
  have e1 := Holds_eq exT ⟨[0], [0]⟩ exT_ok ⟨by simp, by simp⟩
  have e2 := Violation_eq exT ⟨[0], [1]⟩ exT_ok ⟨by simp, by simp⟩
  have e3 := Violation_eq exT ⟨[], [0]⟩ exT_ok ⟨by simp, by simp⟩
  have e4 := Canonical_eq ⟨[0, 1], [2, 0]⟩ (by simp) (by simp)
  have v1 : (if odErr exT ⟨[0], [0]⟩ = 0 then (!(violation exT ⟨[0], [0]⟩).2.2.2, (0 : Int)) else (false, odErr exT ⟨[0], [0]⟩)) = (true, 0) := by decide
  have v2 : violation exT ⟨[0], [1]⟩ = (2, 3, 2, true) := by decide
  have v3 : violation exT ⟨[], [0]⟩ = (1, 2, 1, true) := by decide
  have v4 : (if validB 16 ⟨[0, 1], [2, 0]⟩ = true then (canon ⟨[0, 1], [2, 0]⟩, (0 : Int)) else ([], 1)) = ([⟨3, 2, -1⟩, ⟨0, 0, 2⟩, ⟨1, 1, 2⟩], 0) := by decide
  rw [v1] at e1; rw [v2] at e2; rw [v3] at e3; rw [v4] at e4
  simp only [drosslaw17_awake, example17_eq, e1, e2, e3, e4, Option.bind_some, beq_self_eq_true, if_true, Equal_Canonical_self [⟨3, 2, -1⟩, ⟨0, 0, 2⟩, ⟨1, 1, 2⟩] (by simp)]
end Go.Proofs.YtimfcgdnogjlhaaGreat
/- Tables from recipes are valid; rules and clusters of plans. -/
set_option linter.unusedVariables false
set_option linter.unusedSimpArgs false
namespace Go.Proofs.YtimfcgdnogjlhaaGreat
open Go Go.Ab
theorem wnames_ok {n : Nat} (h : n ≤ 8) : namesB (wnames.take n) = true := by
  have : n = 0 ∨ n = 1 ∨ n = 2 ∨ n = 3 ∨ n = 4 ∨ n = 5 ∨ n = 6 ∨ n = 7 ∨ n = 8 := by omega
  rcases this with rfl | rfl | rfl | rfl | rfl | rfl | rfl | rfl | rfl <;> decide
theorem wide_valid (x : Drossref03_Recipe) (n : Nat) (hn : n ≤ 8) (hr : x.Rows.length ≤ 8) : tableErr (wide x n) = 0 := by
  have h1 : ¬ (nameB [114] = false) := by decide
  have hlen : (wnames.take n).length = n := by simp [wnames]; omega
  have h2 : ¬ (wnames.take n).length > 16 := by omega
  have h3 : ¬ ((List.range x.Rows.length).map (wrow x n)).length > 1000 := by simp; omega
  have h4 : ¬ (namesB (wnames.take n) = false) := by rw [wnames_ok hn]; simp
  have hc : rowsCode (wnames.take n).length 0 ((List.range x.Rows.length).map (wrow x n)) = 0 := by
    refine rowsCode_of _ _ _ (fun r hr => ?_) ?_
    · obtain ⟨i, hi, rfl⟩ := List.mem_map.1 hr
      refine ⟨by simp only [wrow]; omega, by simp only [wrow, List.length_map, List.length_range]; omega, ?_⟩
      rw [List.all_eq_true]
      intro v hv
      obtain ⟨k, hk, rfl⟩ := List.mem_map.1 hv
      exact (ofV_eq _).2.1
    · rw [List.pairwise_map]
      refine List.Pairwise.imp ?_ List.pairwise_lt_range
      intro a b hab
      simp only [wrow]
      have hs : 1 ≤ wstep x := by unfold wstep; omega
      have : (a + 1) * wstep x ≤ b * wstep x := Nat.mul_le_mul_right _ hab
      rw [Nat.add_mul, Nat.one_mul] at this
      omega
  show (if nameB [114] = false then (1 : Int) else if (wnames.take n).length > 16 then 3 else if ((List.range x.Rows.length).map (wrow x n)).length > 1000 then 3 else if namesB (wnames.take n) = false then 1 else rowsCode (wnames.take n).length 0 ((List.range x.Rows.length).map (wrow x n))) = 0
  rw [if_neg h1, if_neg h2, if_neg h3, if_neg h4]
  exact hc
theorem okI_u8 {n : Int} (h : okI .u8 n) : 0 ≤ n ∧ n ≤ 255 := by
  have h' : (decide (IntKind.min .u8 ≤ n) && decide (n ≤ IntKind.max .u8)) = true := h
  simp only [Bool.and_eq_true, decide_eq_true_eq] at h'
  have e1 : IntKind.min .u8 = 0 := by decide
  have e2 : IntKind.max .u8 = 255 := by decide
  rw [e1, e2] at h'
  exact h'
/-- the table of a recipe -/
theorem Table03_eq (x : Drossref03_Recipe) (h : okDrossref03_Recipe x) (hr : x.Rows.length ≤ 8) : drossref03_Table x 8 = some (wide x (x.Attrs.toNat % 6), true) := by
  obtain ⟨ha, hg, hl⟩ := h
  have ha' := okI_u8 ha
  have hg' := okI_u8 hg
  have h1 : ¬ ((x.Rows.length : Int) > 8) := by omega
  have hm : Int.tmod x.Attrs 6 = ((x.Attrs.toNat % 6 : Nat) : Int) := by
    rw [Int.tmod_eq_emod_of_nonneg ha'.1]; omega
  have e1 : IntKind.i64.wrap (Int.tmod x.Attrs 6) = ((x.Attrs.toNat % 6 : Nat) : Int) := by rw [hm, wrap_i64 (by omega) (by omega)]
  simp only [drossref03_Table, if_neg h1, e1, Wide_eq x (x.Attrs.toNat % 6) (by omega) hr (fun r hr => (hl.2 r hr).1) hg', Option.bind_some]
end Go.Proofs.YtimfcgdnogjlhaaGreat
/- OrderingList answers true. -/
set_option linter.unusedVariables false
set_option linter.unusedSimpArgs false
namespace Go.Proofs.YtimfcgdnogjlhaaGreat
open Go Go.Ab
end Go.Proofs.YtimfcgdnogjlhaaGreat
/- OrderingViolations answers true. -/
set_option linter.unusedVariables false
set_option linter.unusedSimpArgs false
namespace Go.Proofs.YtimfcgdnogjlhaaGreat
open Go Go.Ab
theorem IDs_self17 (l : List Int) (hl : l.length ≤ 1073741824) : drossref03_IDs l l = some true := by
  have h := LoopF_all l (drossref03_IDs_l1 l l) (fun _ => true) false
    (fun k x hx hk _ => by
      simp only [drossref03_IDs_l1, if_pos (lt_true hx), idx_get hx, Option.bind_some, bne_self_eq_false, Bool.false_eq_true, if_false, wrap_succ hk (show l.length ≤ 4611686018427387904 by omega)])
    (fun k x hx hp => by cases hp)
    (by simp [drossref03_IDs_l1])
  have ht : (l.all fun _ => true) = true := by simp
  simp only [drossref03_IDs, h, ht, if_true, Option.bind_some, bne_self_eq_false, Bool.false_eq_true, if_false]
/-- the row of an ID -/
theorem find_row {t : Table} (h : tableErr t = 0) {a : Row} (ha : a ∈ t.Rows) : idx t.Rows (findB t a.ID).1 = some a := by
  obtain ⟨_, _, hc⟩ := tableErr_z17 h
  have hp := (rowsCode_all _ _ _ hc).2
  unfold findB
  cases hf : t.Rows.findIdx? (fun r => r.ID == a.ID) with
  | none =>
    rw [List.findIdx?_eq_none_iff] at hf
    have := hf a ha
    simp at this
  | some i =>
    rw [List.findIdx?_eq_some_iff_getElem] at hf
    obtain ⟨hi, he, _⟩ := hf
    obtain ⟨j, hj, rfl⟩ := List.mem_iff_getElem.1 ha
    have he' : (t.Rows[i]).ID = (t.Rows[j]).ID := by simpa using he
    have hij : i = j := by
      rcases Nat.lt_trichotomy i j with h | h | h
      · have := List.pairwise_iff_getElem.1 hp i j hi hj h; omega
      · exact h
      · have := List.pairwise_iff_getElem.1 hp j i hj hi h; omega
    subst hij
    exact idx_get (List.getElem?_eq_getElem hi)
end Go.Proofs.YtimfcgdnogjlhaaGreat
/- Ordering: rows are ordered; what no violation means. -/
set_option linter.unusedVariables false
set_option linter.unusedSimpArgs false
namespace Go.Proofs.YtimfcgdnogjlhaaGreat
open Go Go.Ab




theorem cmpL_neg (a b : Row) : ∀ l : List Int, cmpL b a l = - cmpL a b l
  | [] => rfl
  | i :: l => by
    simp only [cmpL]
    rw [vcmp_neg (cellV a i.toNat) (cellV b i.toNat), cmpL_neg a b l]
    by_cases h : vcmp (cellV a i.toNat) (cellV b i.toNat) = 0
    · rw [if_neg (by omega), if_neg (by omega)]
    · rw [if_pos (by omega), if_pos (by omega)]

theorem cmpL_self (a : Row) (l : List Int) : cmpL a a l = 0 := by have := cmpL_neg a a l; omega
/-- no violation between two rows -/
theorem kindB_zero (a b : Row) (d : OD) : kindB a b d = 0 ↔ (cmpL a b d.Lhs ≤ 0 → cmpL a b d.Rhs ≤ 0) ∧ (0 ≤ cmpL a b d.Lhs → 0 ≤ cmpL a b d.Rhs) := by
  unfold kindB
  rcases cmpL_range a b d.Lhs with h | h | h <;> rcases cmpL_range a b d.Rhs with k | k | k <;> rw [h, k] <;> decide
theorem kindB_symm (a b : Row) (d : OD) : kindB b a d = 0 ↔ kindB a b d = 0 := by
  rw [kindB_zero, kindB_zero, cmpL_neg a b, cmpL_neg a b]
  constructor
  · rintro ⟨h1, h2⟩; exact ⟨fun h => by have := h2 (by omega); omega, fun h => by have := h1 (by omega); omega⟩
  · rintro ⟨h1, h2⟩; exact ⟨fun h => by have := h2 (by omega); omega, fun h => by have := h1 (by omega); omega⟩
theorem kindB_self (a : Row) (d : OD) : kindB a a d = 0 := by
  rw [kindB_zero, cmpL_self, cmpL_self]; exact ⟨fun _ => Int.le_refl _, fun _ => Int.le_refl _⟩
/-- all rows are ordered -/
def OrdAll (rows : List Row) (x y : List Int) : Prop := ∀ a ∈ rows, ∀ b ∈ rows, cmpL a b x ≤ 0 → cmpL a b y ≤ 0
theorem firstV_none (d : OD) : ∀ rows : List Row, firstV d rows = none ↔ rows.Pairwise (fun a b => kindB a b d = 0)
  | [] => by simp [firstV]
  | a :: r => by
    simp only [firstV, List.pairwise_cons]
    cases hf : r.find? (fun b => kindB a b d != 0) with
    | some b =>
      have h1 := List.find?_some hf
      have h2 := List.mem_of_find?_eq_some hf
      simp only [reduceCtorEq, false_iff]
      intro h
      have := h.1 b h2
      simp [this] at h1
    | none =>
      rw [List.find?_eq_none] at hf
      simp only
      rw [firstV_none d r]
      refine ⟨fun h => ⟨fun b hb => by have := hf b hb; simpa using this, h⟩, fun h => h.2⟩
theorem pairwise_all (d : OD) : ∀ rows : List Row, rows.Pairwise (fun a b => kindB a b d = 0) ↔ ∀ a ∈ rows, ∀ b ∈ rows, kindB a b d = 0
  | [] => by simp
  | a :: r => by
    rw [List.pairwise_cons, pairwise_all d r]
    constructor
    · rintro ⟨h1, h2⟩ x hx y hy
      rcases List.mem_cons.1 hx with e1 | hx'
      · rcases List.mem_cons.1 hy with e2 | hy'
        · rw [e1, e2]; exact kindB_self _ _
        · rw [e1]; exact h1 y hy'
      · rcases List.mem_cons.1 hy with e2 | hy'
        · rw [e2]; exact (kindB_symm _ _ _).1 (h1 x hx')
        · exact h2 x hx' y hy'
    · intro h
      exact ⟨fun b hb => h a (by simp) b (by simp [hb]), fun x hx y hy => h x (by simp [hx]) y (by simp [hy])⟩
theorem ordAll_kind (rows : List Row) (d : OD) : OrdAll rows d.Lhs d.Rhs ↔ ∀ a ∈ rows, ∀ b ∈ rows, kindB a b d = 0 := by
  constructor
  · intro h a ha b hb
    rw [kindB_zero]
    refine ⟨h a ha b hb, fun h0 => ?_⟩
    have := h b hb a ha
    rw [cmpL_neg a b, cmpL_neg a b] at this
    have := this (by omega)
    omega
  · intro h a ha b hb
    exact ((kindB_zero a b d).1 (h a ha b hb)).1
theorem firstV_ord (d : OD) (rows : List Row) : firstV d rows = none ↔ OrdAll rows d.Lhs d.Rhs := by
  rw [firstV_none, pairwise_all, ordAll_kind]
/-- what Holds of the reference answers -/
def holdsR (rows : List Row) (x y : List Int) : Bool := rows.all fun a => rows.all fun b => !(decide (cmpL a b x ≤ 0) && decide (0 < cmpL a b y))
theorem holdsR_iff (rows : List Row) (x y : List Int) : holdsR rows x y = true ↔ OrdAll rows x y := by
  unfold holdsR OrdAll
  simp only [List.all_eq_true, Bool.not_eq_true', Bool.and_eq_false_iff, decide_eq_false_iff_not]
  constructor
  · intro h a ha b hb hc
    rcases h a ha b hb with h | h <;> omega
  · intro h a ha b hb
    have := h a ha b hb
    by_cases h0 : cmpL a b x ≤ 0
    · exact .inr (by have := this h0; omega)
    · exact .inl h0
theorem violation_found (t : Table) (d : OD) (h : odErr t d = 0) : (!(violation t d).2.2.2) = holdsR t.Rows d.Lhs d.Rhs := by
  rw [Bool.eq_iff_iff, holdsR_iff, ← firstV_ord]
  unfold violation
  rw [if_pos h]
  cases hf : firstV d t.Rows with
  | none => simp
  | some ab => obtain ⟨a, b⟩ := ab; simp
theorem Holds_ok (t : Table) (d : OD) (H : TabOk t) (hl : LenD d) (h : odErr t d = 0) : ordering_Holds t d = some (holdsR t.Rows d.Lhs d.Rhs, 0) := by
  rw [Holds_eq t d H hl, if_pos h, violation_found t d h]
end Go.Proofs.YtimfcgdnogjlhaaGreat
/- Ordering: dependencies of descriptions. -/
set_option linter.unusedVariables false
set_option linter.unusedSimpArgs false
namespace Go.Proofs.YtimfcgdnogjlhaaGreat
open Go Go.Ab

/-- the list of a description -/
def memL (n : Nat) (l : List Int) : List Int := if n = 0 then [] else (l.take 5).map fun c => c % (n : Int)
theorem wrap_small {c : Int} (h : 0 ≤ c ∧ c ≤ 255) : IntKind.i64.wrap c = c := wrap_i64 (by omega) (by omega)
theorem members_eq (n : Nat) (l : List Int) (hl : l.length ≤ 1048576) (h : ∀ c ∈ l, 0 ≤ c ∧ c ≤ 255) : drossref17_members (n : Int) l = some (memL n l) := by
  by_cases hn : n = 0
  · subst hn
    have : LoopF (drossref17_members_l1 ((0 : Nat) : Int) l) ([], 0) = some [] := by
      refine Loop_done ?_
      simp only [drossref17_members_l1]
      by_cases h1 : (0 : Int) < (l.length : Int)
      · simp [h1]
      · simp [h1]
    simp only [drossref17_members, this, Option.bind_some, memL, if_true]
  · have h1 := LoopF_foldl (l.take 5) (fun (o : List Int) i => (o, i)) (drossref17_members_l1 (n : Int) l) (fun o c => o ++ [c % (n : Int)]) id (fun k o => o.length = k) (b0 := []) (s0 := ([], 0)) rfl rfl
      (fun k o c hx hk hI => by
        have hk5 : k < 5 := by rw [List.length_take] at hk; omega
        have hx' : l[k]? = some c := by rw [List.getElem?_take, if_pos hk5] at hx; exact hx
        have hc := h c (List.mem_of_getElem? hx')
        refine ⟨?_, by simp [hI]⟩
        simp only [drossref17_members_l1, if_pos (lt_true hx'), if_pos (show (k : Int) < 5 by omega), if_pos (show (n : Int) > 0 by omega), if_neg (show ¬ (n : Int) = 0 by omega), idx_get hx', Option.bind_some, wrap_small hc, room_le (show o.length + 1 ≤ 1073741824 by omega) (show 8 ≤ 65536 by omega), if_true, wrap_nat (show k < 4611686018427387904 by omega), Int.tmod_eq_emod_of_nonneg hc.1])
      (fun o hI => by
        rw [List.length_take] at hI ⊢
        simp only [drossref17_members_l1, id]
        by_cases h5 : l.length ≤ 5
        · rw [if_neg (by omega)]
        · rw [if_pos (by omega), if_neg (by omega)])
    simp only [drossref17_members, h1, Option.bind_some, memL, if_neg hn, id]
    have : ∀ (l : List Int) (o : List Int), l.foldl (fun o c => o ++ [c % (n : Int)]) o = o ++ l.map fun c => c % (n : Int) := by
      intro l
      induction l with
      | nil => intro o; simp
      | cons c l ih => intro o; rw [List.foldl_cons, ih]; simp
    rw [this]; rfl
def ofL (n : Nat) (x : Drossref17_Lists) : OD := ⟨memL n x.X, memL n x.Y⟩
theorem okI_mem {l : List Int} (h : okL (okI .u8) l) : ∀ c ∈ l, 0 ≤ c ∧ c ≤ 255 := fun c hc => okI_u8 (h.2 c hc)
theorem Of17_eq (n : Nat) (x : Drossref17_Lists) (h : okDrossref17_Lists x) : drossref17_Of (n : Int) x = some (ofL n x) := by
  simp only [drossref17_Of, members_eq n x.X h.1.1 (okI_mem h.1), members_eq n x.Y h.2.1 (okI_mem h.2), Option.bind_some, ofL]
theorem memL_len (n : Nat) (l : List Int) : (memL n l).length ≤ 5 := by
  unfold memL; split
  · simp
  · rw [List.length_map, List.length_take]; omega
theorem memL_mem (n : Nat) (l : List Int) : ∀ z ∈ memL n l, 0 ≤ z ∧ z < (n : Int) := by
  intro z hz
  unfold memL at hz
  split at hz
  · cases hz
  · rename_i hn
    obtain ⟨c, _, rfl⟩ := List.mem_map.1 hz
    exact ⟨Int.emod_nonneg _ (by omega), Int.emod_lt_of_pos _ (by omega)⟩
theorem listB_of {n : Int} {l : List Int} (h1 : l.length ≤ 8) (h2 : ∀ z ∈ l, 0 ≤ z ∧ z < n) : listB n l = true := by
  simp only [listB, Bool.and_eq_true, decide_eq_true_eq, List.all_eq_true]
  exact ⟨h1, h2⟩
theorem ofL_valid (n : Nat) (x : Drossref17_Lists) : validB n (ofL n x) = true := by
  simp only [validB, Bool.and_eq_true]
  exact ⟨listB_of (Nat.le_trans (memL_len _ _) (by omega)) (memL_mem _ _), listB_of (Nat.le_trans (memL_len _ _) (by omega)) (memL_mem _ _)⟩

/-- facts about the table of a recipe -/
structure Good (t : Table) : Prop where
  ok : TabOk t
  err : tableErr t = 0
  attrs : t.Attrs.length ≤ 5
  rows : t.Rows.length ≤ 8
theorem wide_tabOk (x : Drossref03_Recipe) (n : Nat) (hn : n ≤ 8) (hr : x.Rows.length ≤ 8) : TabOk (wide x n) := by
  refine ⟨?_, ?_, ?_, ?_⟩
  · simp only [wide, List.length_take]; omega
  · simp only [wide, List.length_map, List.length_range]; omega
  · intro r h
    obtain ⟨i, _, rfl⟩ := List.mem_map.1 h
    simp only [wrow, List.length_map, List.length_range]; omega
  · intro r h v hv
    obtain ⟨i, _, rfl⟩ := List.mem_map.1 h
    obtain ⟨k, _, rfl⟩ := List.mem_map.1 hv
    have := (ofV_eq ((x.Rows.getD i []).getD k 0)).2.2
    unfold wval; omega
theorem recipe_good (x : Drossref03_Recipe) (hr : x.Rows.length ≤ 8) : Good (wide x (x.Attrs.toNat % 6)) := by
  refine ⟨wide_tabOk _ _ (by omega) hr, wide_valid _ _ (by omega) hr, ?_, ?_⟩
  · simp only [wide, List.length_take]; omega
  · simp only [wide, List.length_map, List.length_range]; omega
theorem Table03_big (x : Drossref03_Recipe) (hr : ¬ x.Rows.length ≤ 8) : ∃ t, drossref03_Table x 8 = some (t, false) := by
  have h1 : ((x.Rows.length : Int) > 8) := by omega
  simp only [drossref03_Table, if_pos h1]
  exact ⟨_, rfl⟩
/-- a recipe is one of a good table, or too long -/
theorem recipe_cases (x : Drossref03_Recipe) (h : okDrossref03_Recipe x) : (∃ t, drossref03_Table x 8 = some (t, false)) ∨ ∃ t, drossref03_Table x 8 = some (t, true) ∧ Good t := by
  by_cases hr : x.Rows.length ≤ 8
  · exact .inr ⟨_, Table03_eq x h hr, recipe_good x hr⟩
  · exact .inl (Table03_big x hr)
theorem good_odErr {t : Table} (G : Good t) {d : OD} (h : validB t.Attrs.length d = true) : odErr t d = 0 := by
  unfold odErr; rw [if_neg (by rw [G.err]; simp), if_pos h]
theorem lenD_valid {n : Int} {d : OD} (h : validB n d = true) : LenD d := by
  simp only [validB, Bool.and_eq_true] at h
  have h1 := (listB_mem h.1).1
  have h2 := (listB_mem h.2).1
  exact ⟨by omega, by omega⟩
theorem good_rows {t : Table} (G : Good t) {d : OD} (h : validB t.Attrs.length d = true) : RowsD t.Rows d := rowsD_of (good_odErr G h) G.ok (lenD_valid h)
theorem good_holds {t : Table} (G : Good t) {d : OD} (h : validB t.Attrs.length d = true) : ordering_Holds t d = some (holdsR t.Rows d.Lhs d.Rhs, 0) := Holds_ok t d G.ok (lenD_valid h) (good_odErr G h)
end Go.Proofs.YtimfcgdnogjlhaaGreat
/- Ordering: canonical statements in tables. -/
set_option linter.unusedVariables false
set_option linter.unusedSimpArgs false
namespace Go.Proofs.YtimfcgdnogjlhaaGreat
open Go Go.Ab

end Go.Proofs.YtimfcgdnogjlhaaGreat
/- The miner: what it remembers is what holds. -/
set_option linter.unusedVariables false
set_option linter.unusedSimpArgs false
namespace Go.Proofs.YtimfcgdnogjlhaaGreat
open Go Go.Ab

end Go.Proofs.YtimfcgdnogjlhaaGreat
/- The miner: all statements. -/
set_option linter.unusedVariables false
set_option linter.unusedSimpArgs false
namespace Go.Proofs.YtimfcgdnogjlhaaGreat
open Go Go.Ab
end Go.Proofs.YtimfcgdnogjlhaaGreat
/- The miner: keys; what follows from statements; the chapter's examples. -/
set_option linter.unusedVariables false
set_option linter.unusedSimpArgs false
namespace Go.Proofs.YtimfcgdnogjlhaaGreat
open Go Go.Ab
/-! ### what follows from statements -/
end Go.Proofs.YtimfcgdnogjlhaaGreat
/- The miner: the chapter's examples. -/
set_option linter.unusedVariables false
set_option linter.unusedSimpArgs false
namespace Go.Proofs.YtimfcgdnogjlhaaGreat
open Go Go.Ab
end Go.Proofs.YtimfcgdnogjlhaaGreat
/- Ordering: the canonical statements hold together exactly if the dependency does. -/
set_option linter.unusedVariables false
set_option linter.unusedSimpArgs false
namespace Go.Proofs.YtimfcgdnogjlhaaGreat
open Go Go.Ab

end Go.Proofs.YtimfcgdnogjlhaaGreat
/- The miner: Orders. -/
set_option linter.unusedVariables false
set_option linter.unusedSimpArgs false
namespace Go.Proofs.YtimfcgdnogjlhaaGreat
open Go Go.Ab
end Go.Proofs.YtimfcgdnogjlhaaGreat
/- The reference's statements in tables. -/
set_option linter.unusedVariables false
set_option linter.unusedSimpArgs false
namespace Go.Proofs.YtimfcgdnogjlhaaGreat
open Go Go.Ab
def before (p : Row → Row → Bool) (rows : List Row) (i : Nat) (a : Row) : Bool := (rows.take i).all fun b => p a b
end Go.Proofs.YtimfcgdnogjlhaaGreat
/- Ordering: sorted rows. -/
set_option linter.unusedVariables false
set_option linter.unusedSimpArgs false
namespace Go.Proofs.YtimfcgdnogjlhaaGreat
open Go Go.Ab

theorem cmpL_trans (a b c : Row) : ∀ l : List Int, cmpL a b l ≤ 0 → cmpL b c l ≤ 0 → cmpL a c l ≤ 0 ∧ (cmpL a c l = 0 → cmpL a b l = 0 ∧ cmpL b c l = 0)
  | [], _, _ => ⟨Int.le_refl _, fun _ => ⟨rfl, rfl⟩⟩
  | i :: l, h1, h2 => by
    simp only [cmpL] at h1 h2 ⊢
    by_cases x0 : vcmp (cellV a i.toNat) (cellV b i.toNat) = 0
    · have e := (vcmp_eq _ _).1 x0
      rw [if_neg (by simp [x0])] at h1
      rw [e] at *
      by_cases y0 : vcmp (cellV b i.toNat) (cellV c i.toNat) = 0
      · rw [if_neg (by simp [y0])] at h2
        have := cmpL_trans a b c l h1 h2
        have z0 : vcmp (cellV b i.toNat) (cellV b i.toNat) = 0 := (vcmp_eq _ _).2 rfl
        simpa [x0, y0, z0] using this
      · rw [if_pos y0] at h2
        refine ⟨by rw [if_pos y0]; exact h2, fun h => ?_⟩
        rw [if_pos y0] at h; exact absurd h y0
    · rw [if_pos x0] at h1
      have hlt : vcmp (cellV a i.toNat) (cellV b i.toNat) < 0 := by omega
      by_cases y0 : vcmp (cellV b i.toNat) (cellV c i.toNat) = 0
      · have e := (vcmp_eq _ _).1 y0
        rw [← e]
        refine ⟨by rw [if_pos x0]; exact h1, fun h => ?_⟩
        rw [if_pos x0] at h; exact absurd h x0
      · rw [if_pos y0] at h2
        have := vcmp_trans _ _ _ hlt (show vcmp (cellV b i.toNat) (cellV c i.toNat) < 0 by omega)
        refine ⟨by rw [if_pos (show vcmp (cellV a i.toNat) (cellV c i.toNat) ≠ 0 by omega)]; omega, fun h => ?_⟩
        rw [if_pos (show vcmp (cellV a i.toNat) (cellV c i.toNat) ≠ 0 by omega)] at h; omega

/-- the order of the rows: by the list, then by the ID -/
def cLt (l : List Int) (a b : Row) : Prop := cmpL a b l < 0 ∨ (cmpL a b l = 0 ∧ a.ID < b.ID)
theorem cLt_trans {l : List Int} {a b c : Row} (h1 : cLt l a b) (h2 : cLt l b c) : cLt l a c := by
  unfold cLt at *
  have := cmpL_trans a b c l (by omega) (by omega)
  omega
theorem cLt_asym {l : List Int} {a b : Row} (h1 : cLt l a b) : ¬ cLt l b a := by
  unfold cLt at *
  have := cmpL_neg a b l
  omega
theorem cLt_total {l : List Int} {a b : Row} (h : a.ID ≠ b.ID) : cLt l a b ∨ cLt l b a := by
  unfold cLt
  have := cmpL_neg a b l
  omega
/-- how Sorted compares -/
def cmpS (l : List Int) (a b : Row) : Int := if cmpL a b l ≠ 0 then cmpL a b l else sgn a.ID b.ID
theorem cmpS_lt (l : List Int) (a b : Row) : cmpS l a b < 0 ↔ cLt l a b := by
  unfold cmpS cLt sgn
  by_cases h : cmpL a b l = 0
  · rw [if_neg (by simp [h])]
    split <;> omega
  · rw [if_pos h]; omega
theorem cmpS_eq {l : List Int} {a b : Row} (ha : Fits a l) (hb : Fits b l) (hl : l.length ≤ 1073741824) : ordering_Sorted_2 a b l = some (cmpS l a b) := by
  simp only [ordering_Sorted_2, compare_eq a b l ha hb hl, cmp_int64_eq, Or2_eq, Option.bind_some, cmpS]
theorem srtOkS (l : List Int) (rows : List Row) (hf : ∀ r ∈ rows, Fits r l) (hl : l.length ≤ 1073741824) : SrtOk (fun x y => (ordering_Sorted_2 x y l).getD 0) rows := by
  have e : ∀ x ∈ rows, ∀ y ∈ rows, (ordering_Sorted_2 x y l).getD 0 < 0 ↔ cLt l x y := fun x hx y hy => by rw [cmpS_eq (hf x hx) (hf y hy) hl, Option.getD_some, cmpS_lt]
  refine ⟨fun x hx => ?_, fun x hx y hy z hz => ?_, fun x hx y hy z hz => ?_⟩
  · show ¬ (ordering_Sorted_2 x x l).getD 0 < 0
    rw [e x hx x hx]; exact fun h => cLt_asym h h
  · show (ordering_Sorted_2 x y l).getD 0 < 0 → (ordering_Sorted_2 y z l).getD 0 < 0 → (ordering_Sorted_2 x z l).getD 0 < 0
    rw [e x hx y hy, e y hy z hz, e x hx z hz]; exact cLt_trans
  · show ¬ (ordering_Sorted_2 x y l).getD 0 < 0 → ¬ (ordering_Sorted_2 y z l).getD 0 < 0 → ¬ (ordering_Sorted_2 x z l).getD 0 < 0
    rw [e x hx y hy, e y hy z hz, e x hx z hz]
    unfold cLt
    intro h1 h2
    have n1 := cmpL_neg x y l
    have n2 := cmpL_neg y z l
    have n3 := cmpL_neg x z l
    have := cmpL_trans z y x l (by omega) (by omega)
    omega
/-- what SortFunc makes of the rows -/
theorem sortS (l : List Int) (rows : List Row) (hf : ∀ r ∈ rows, Fits r l) (hl : l.length ≤ 1073741824) (hr : rows.length ≤ 1000) (hid : rows.Pairwise fun a b => a.ID < b.ID) :
    ∃ s, slices_SortedFunc_Row rows (fun y z => ordering_Sorted_2 y z l) = some s ∧ s.Perm rows ∧ s.Pairwise (cLt l) := by
  have hok := srtOkS l rows hf hl
  have hp := srt_perm hok
  refine ⟨srt (fun x y => (ordering_Sorted_2 x y l).getD 0) rows, ?_, hp, ?_⟩
  · simp only [slices_SortedFunc_Row, if_pos (show rows.length ≤ 1000000000000 by omega)]
    unfold srtF
    rw [if_pos ⟨fun x hx y hy => by show (ordering_Sorted_2 x y l).isSome = true; rw [cmpS_eq (hf x hx) (hf y hy) hl]; rfl, hok, by omega⟩]
    rfl
  · have hnd : (srt (fun x y => (ordering_Sorted_2 x y l).getD 0) rows).Pairwise fun a b => a.ID ≠ b.ID := by
      have : (rows.map Row.ID).Nodup := List.pairwise_map.2 (hid.imp fun h => by omega)
      have := (hp.map Row.ID).nodup_iff.2 this
      exact List.pairwise_map.1 this
    refine List.Pairwise.imp_of_mem ?_ ((srt_sorted hok).and hnd)
    rintro a b ha hb ⟨h1, h2⟩
    rw [cmpS_eq (hf b (hp.mem_iff.1 hb)) (hf a (hp.mem_iff.1 ha)) hl, Option.getD_some, cmpS_lt] at h1
    rcases cLt_total h2 with h | h
    · exact h
    · exact absurd h h1
end Go.Proofs.YtimfcgdnogjlhaaGreat
/- Ordering: the reference sorts the rows alike. -/
set_option linter.unusedVariables false
set_option linter.unusedSimpArgs false
namespace Go.Proofs.YtimfcgdnogjlhaaGreat
open Go Go.Ab

theorem best_loop (l : List Int) (R : List Row) (hf : ∀ r ∈ R, Fits r l) (hs : ∀ r ∈ R, ShortR r) (hl : l.length ≤ 1073741824) (hr : R.length ≤ 1000) (hid : R.Pairwise fun a b => a.ID < b.ID) :
    ∀ (n k b : Nat), R.length - k = n → b < k → k ≤ R.length → (∀ x, R[b]? = some x → ∀ j y, j < k → j ≠ b → R[j]? = some y → cLt l x y) →
      ∃ b' : Nat, b' < R.length ∧ LoopF (drossref17_Sorted_l3 l R) ((b : Int), (k : Int)) = some (b' : Int) ∧ ∀ x, R[b']? = some x → ∀ j y, j ≠ b' → R[j]? = some y → cLt l x y := by
  intro n
  induction n with
  | zero =>
    intro k b hn hb hk hI
    have : k = R.length := by omega
    subst this
    refine ⟨b, hb, Loop_done ?_, fun x hx j y hj hy => hI x hx j y (lt_of_get hy) hj hy⟩
    simp [drossref17_Sorted_l3]
  | succ n ih =>
    intro k b hn hb hk hI
    have hk' : k < R.length := by omega
    have hb' : b < R.length := by omega
    obtain ⟨y, hy⟩ : ∃ y, R[k]? = some y := ⟨_, List.getElem?_eq_getElem hk'⟩
    obtain ⟨x, hx⟩ : ∃ x, R[b]? = some x := ⟨_, List.getElem?_eq_getElem hb'⟩
    have hym := List.mem_of_getElem? hy
    have hxm := List.mem_of_getElem? hx
    have hc := ref_Compare17_eq y x l (hf y hym) (hf x hxm) (hs y hym) hl
    by_cases h : cmpL y x l < 0
    · have st : drossref17_Sorted_l3 l R ((b : Int), (k : Int)) = some (.next ((k : Int), ((k + 1 : Nat) : Int))) := by
        simp only [drossref17_Sorted_l3, if_pos (lt_true hy), idx_get hy, idx_get hx, Option.bind_some, hc, if_pos h, wrap_nat (show k < 4611686018427387904 by omega)]
      rw [Loop_next st]
      refine ih (k + 1) k (by omega) (by omega) (by omega) ?_
      intro z hz j w hj hne hw
      rw [hy] at hz; cases hz
      by_cases hjb : j = b
      · subst hjb; rw [hx] at hw; cases hw; exact .inl h
      · exact cLt_trans (.inl h) (hI x hx j w (by omega) hjb hw)
    · have st : drossref17_Sorted_l3 l R ((b : Int), (k : Int)) = some (.next ((b : Int), ((k + 1 : Nat) : Int))) := by
        simp only [drossref17_Sorted_l3, if_pos (lt_true hy), idx_get hy, idx_get hx, Option.bind_some, hc, if_neg h, wrap_nat (show k < 4611686018427387904 by omega)]
      rw [Loop_next st]
      refine ih (k + 1) b (by omega) (by omega) (by omega) ?_
      intro z hz j w hj hne hw
      rw [hx] at hz; cases hz
      by_cases hjk : j = k
      · subst hjk
        rw [hy] at hw; cases hw
        have := cmpL_neg x y l
        have hlt : x.ID < y.ID := by
          have e1 := (List.getElem?_eq_some_iff.1 hx)
          have e2 := (List.getElem?_eq_some_iff.1 hy)
          obtain ⟨p1, p2⟩ := e1
          obtain ⟨q1, q2⟩ := e2
          rw [← p2, ← q2]
          exact List.pairwise_iff_getElem.1 hid b j p1 q1 hb
        unfold cLt; omega
      · exact hI x hx j w (by omega) hne hw

theorem pick_loop (l : List Int) (hl : l.length ≤ 1073741824) : ∀ (S R : List Row) (out : List Int), R.Perm S → S.Pairwise (cLt l) → (∀ r ∈ R, Fits r l) → (∀ r ∈ R, ShortR r) → (R.Pairwise fun a b => a.ID < b.ID) → out.length + R.length ≤ 1000 →
    LoopF (drossref17_Sorted_l4 l) (R, out) = some (out ++ S.map Row.ID) := by
  intro S
  induction S with
  | nil =>
    intro R out hp _ _ _ _ _
    have : R = [] := List.perm_nil.1 hp
    subst this
    refine Loop_done ?_
    simp [drossref17_Sorted_l4]
  | cons x S ih =>
    intro R out hp hS hf hs hid hlen
    have hRl : R.length = S.length + 1 := by rw [hp.length_eq, List.length_cons]
    obtain ⟨b, hb, hloop, hmin⟩ := best_loop l R hf hs hl (by omega) hid (R.length - 1) 1 0 rfl (by omega) (by omega) (fun x hx j y hj hne hy => by omega)
    obtain ⟨z, hz⟩ : ∃ z, R[b]? = some z := ⟨_, List.getElem?_eq_getElem hb⟩
    have hzx : z = x := by
      have hxR : x ∈ R := hp.mem_iff.2 (by simp)
      obtain ⟨j, hj⟩ := List.getElem?_of_mem hxR
      by_cases hjb : j = b
      · subst hjb; rw [hz] at hj; cases hj; rfl
      · have h1 := hmin z hz j x hjb hj
        have hzS : z ∈ x :: S := hp.mem_iff.1 (List.mem_of_getElem? hz)
        rcases List.mem_cons.1 hzS with h | h
        · exact h
        · exact absurd h1 (cLt_asym ((List.pairwise_cons.1 hS).1 z h))
    subst hzx
    have hbg := List.getElem?_eq_some_iff.1 hz
    obtain ⟨hb2, hbz⟩ := hbg
    have hw : IntKind.i64.wrap ((b : Int) + 1) = ((b + 1 : Nat) : Int) := wrap_nat (by omega)
    have hR' : R.take b ++ R.drop (b + 1) = R.eraseIdx b := (List.eraseIdx_eq_take_drop_succ R b).symm
    have hpe : (R.eraseIdx b).Perm S := by
      have e : R.take b ++ z :: R.drop (b + 1) = R := by
        have := List.drop_eq_getElem_cons hb2
        rw [hbz] at this
        rw [← this, List.take_append_drop]
      have e2 : (z :: (R.take b ++ R.drop (b + 1))).Perm R := by
        have := (List.perm_middle (a := z) (l₁ := R.take b) (l₂ := R.drop (b + 1))).symm
        rwa [e] at this
      rw [← hR']
      exact List.Perm.cons_inv (e2.trans hp)
    have hel : (R.eraseIdx b).length = S.length := hpe.length_eq
    have st : drossref17_Sorted_l4 l (R, out) = some (.next (R.eraseIdx b, out ++ [z.ID])) := by
      have hl2 : (R.take b).length + ((R.drop (b + 1)).take (R.length - (b + 1))).length ≤ 1000 := by
        rw [drop_take, List.length_take, List.length_drop]; omega
      simp only [drossref17_Sorted_l4, if_pos (show ((R.length : Int) > 0) by omega)]
      have h01 : LoopF (drossref17_Sorted_l3 l R) (0, 1) = some (b : Int) := hloop
      simp only [h01, Option.bind_some, idx_get hz, hw, Int.toNat_natCast, drop_take, hR',
        room_le (show out.length + 1 ≤ 1073741824 by omega) (show 8 ≤ 65536 by omega), if_true, if_pos (show (0 : Int) ≤ (b : Int) by omega), if_pos (show (b : Int) ≤ (R.length : Int) by omega),
        if_pos (show (0 : Int) ≤ ((b + 1 : Nat) : Int) by omega), if_pos (show ((b + 1 : Nat) : Int) ≤ (R.length : Int) by omega)]
      rw [drop_take] at hl2
      simp only [room_le (show (R.take b).length + (R.drop (b + 1)).length ≤ 1073741824 by omega) (show 32 ≤ 65536 by omega), if_true]
    rw [Loop_next st]
    have hsub : ∀ r ∈ R.eraseIdx b, r ∈ R := fun r h => List.mem_of_mem_eraseIdx h
    rw [ih (R.eraseIdx b) (out ++ [z.ID]) hpe (List.pairwise_cons.1 hS).2 (fun r h => hf r (hsub r h)) (fun r h => hs r (hsub r h)) (hid.sublist (List.eraseIdx_sublist R b)) (by rw [List.length_append, List.length_singleton, hel]; omega)]
    simp

theorem ids_loop (s : List Row) (hs : s.length ≤ 1000) : LoopF (ordering_Sorted_l1 s) ([], 0) = some (s.map Row.ID) := by
  have h := LoopF_foldl s (fun (o : List Int) i => (o, i)) (ordering_Sorted_l1 s) (fun o r => o ++ [r.ID]) id (fun k o => o.length ≤ k) (b0 := []) (s0 := ([], 0)) rfl (Nat.le_refl 0)
    (fun k o z hz hk hI => by
      refine ⟨?_, by rw [List.length_append, List.length_singleton]; omega⟩
      simp only [ordering_Sorted_l1, if_pos (lt_true hz), idx_get hz, Option.bind_some, room_le (show o.length + 1 ≤ 1073741824 by omega) (show 8 ≤ 65536 by omega), if_true, wrap_nat (show k < 4611686018427387904 by omega)])
    (fun o _ => by simp [ordering_Sorted_l1])
  rw [h, id]
  congr 1
  have : ∀ (l : List Row) (o : List Int), l.foldl (fun o r => o ++ [r.ID]) o = o ++ l.map Row.ID := by
    intro l
    induction l with
    | nil => intro o; simp
    | cons a l ih => intro o; rw [List.foldl_cons, ih]; simp
  simpa using this s []

/-- both sort alike -/
theorem Sorted_eqs (t : Table) (l : List Int) (H : TabOk t) (hl : l.length ≤ 1048576) :
    (odErr t ⟨l, []⟩ ≠ 0 ∧ ordering_Sorted t l = some ([], odErr t ⟨l, []⟩) ∧ drossref17_Sorted t l = some ([], odErr t ⟨l, []⟩)) ∨
    (odErr t ⟨l, []⟩ = 0 ∧ ∃ s : List Row, s.Perm t.Rows ∧ s.Pairwise (cLt l) ∧ ordering_Sorted t l = some (s.map Row.ID, 0) ∧ drossref17_Sorted t l = some (s.map Row.ID, 0)) := by
  have hL : LenD ⟨l, []⟩ := ⟨by show l.length ≤ _; omega, by simp⟩
  have hck := check_eq t ⟨l, []⟩ H hL (fun y => ordering_Sorted_1 y l) (by
    show ordering_Sorted_1 (t.Attrs.length : Int) l = _
    simp only [ordering_Sorted_1, list_eq _ l (by omega), Option.bind_some, validB]
    simp [listB])
  have her := ref_Error_eq t ⟨l, []⟩ H hL
  by_cases h : odErr t ⟨l, []⟩ = 0
  · right
    have hR := rowsD_of h H hL
    obtain ⟨h1, h2⟩ := odErr_zero h
    obtain ⟨_, h3, h4⟩ := tableErr_z17 h1
    have hid := (rowsCode_all _ _ _ h4).2
    have hf : ∀ r ∈ t.Rows, Fits r l := fun r hr => (hR.fits r hr).lhs
    obtain ⟨s, e1, hp, hs⟩ := sortS l t.Rows hf (by omega) h3 hid
    have hpick := pick_loop l (by omega) s t.Rows [] hp.symm hs hf hR.short hid (by simpa using h3)
    refine ⟨h, s, hp, hs, ?_, ?_⟩
    · simp only [ordering_Sorted, hck, h, Option.bind_some, bne_self_eq_false, Bool.false_eq_true, if_false, slices_Values_Row, e1, ids_loop s (by rw [hp.length_eq]; exact h3)]
    · simp only [drossref17_Sorted, her, h, Option.bind_some, bne_self_eq_false, Bool.false_eq_true, if_false, room_le (show t.Rows.length ≤ 1073741824 by omega) (show 32 ≤ 65536 by omega), if_true, hpick, List.nil_append]
  · left
    have hb : (odErr t ⟨l, []⟩ != 0) = true := by simpa using h
    refine ⟨h, ?_, ?_⟩
    · simp only [ordering_Sorted, hck, Option.bind_some, hb, if_true]
    · simp only [drossref17_Sorted, her, Option.bind_some, hb, if_true]
end Go.Proofs.YtimfcgdnogjlhaaGreat
/- OrderingErrors answers true. -/
set_option linter.unusedVariables false
set_option linter.unusedSimpArgs false
namespace Go.Proofs.YtimfcgdnogjlhaaGreat
open Go Go.Ab
theorem odErr_split (t : Table) (l m : List Int) : (odErr t ⟨l, m⟩ = 0 → odErr t ⟨l, []⟩ = 0) := by
  intro h
  obtain ⟨h1, h2⟩ := odErr_zero h
  simp only [validB, Bool.and_eq_true] at h2
  unfold odErr
  rw [if_neg (by simp [h1]), if_pos]
  simp only [validB, Bool.and_eq_true]
  exact ⟨h2.1, by simp [listB]⟩
end Go.Proofs.YtimfcgdnogjlhaaGreat
/- OrderingHolds answers true. -/
set_option linter.unusedVariables false
set_option linter.unusedSimpArgs false
namespace Go.Proofs.YtimfcgdnogjlhaaGreat
open Go Go.Ab
end Go.Proofs.YtimfcgdnogjlhaaGreat
/- OrderingSorted answers true. -/
set_option linter.unusedVariables false
set_option linter.unusedSimpArgs false
namespace Go.Proofs.YtimfcgdnogjlhaaGreat
open Go Go.Ab
theorem asc_loop (t : Table) (d : OD) (H : TabOk t) (h : odErr t d = 0) (hL : LenD d) (s : List Row) (hp : s.Perm t.Rows) (hs : s.Pairwise (cLt d.Lhs)) (ho : OrdAll t.Rows d.Lhs d.Rhs) (e : Int) :
    LoopF (drosslaw17_OrderingSorted_l1 (t, true) d (s.map Row.ID, e)) 1 = some (.inl ()) := by
  have hR := rowsD_of h H hL
  obtain ⟨hz, _⟩ := odErr_zero h
  have hlen : s.length ≤ 1000 := by rw [hp.length_eq]; exact hR.len
  refine Loop_upto (fun j => ((j + 1 : Nat) : Int)) (s.length - 1) (fun j hj => ?_) ?_
  · have hj1 : j < s.length := by omega
    have hj2 : j + 1 < s.length := by omega
    obtain ⟨a, ha⟩ : ∃ a, s[j]? = some a := ⟨_, List.getElem?_eq_getElem hj1⟩
    obtain ⟨b, hb⟩ : ∃ b, s[j + 1]? = some b := ⟨_, List.getElem?_eq_getElem hj2⟩
    have hia : (s.map Row.ID)[j]? = some a.ID := by rw [List.getElem?_map, ha]; rfl
    have hib : (s.map Row.ID)[j + 1]? = some b.ID := by rw [List.getElem?_map, hb]; rfl
    have ham := hp.mem_iff.1 (List.mem_of_getElem? ha)
    have hbm := hp.mem_iff.1 (List.mem_of_getElem? hb)
    have hw : IntKind.i64.wrap (((j + 1 : Nat) : Int) - 1) = (j : Int) := by rw [wrap_i64 (by omega) (by omega)]; omega
    have hc : cLt d.Lhs a b := by
      obtain ⟨p1, p2⟩ := List.getElem?_eq_some_iff.1 ha
      obtain ⟨q1, q2⟩ := List.getElem?_eq_some_iff.1 hb
      rw [← p2, ← q2]
      exact List.pairwise_iff_getElem.1 hs j (j + 1) p1 q1 (by omega)
    have n1 : ¬ cmpL a b d.Lhs > 0 := by unfold cLt at hc; omega
    have o1 := ho a ham b hbm (by omega)
    have o2 := ho b hbm a ham
    have g1 := cmpL_neg a b d.Lhs
    have g2 := cmpL_neg a b d.Rhs
    have c1 := ref_Compare17_eq a b d.Lhs (hR.fits a ham).lhs (hR.fits b hbm).lhs (hR.short a ham) hL.lhs
    have c2 := ref_Compare17_eq a b d.Rhs (hR.fits a ham).rhs (hR.fits b hbm).rhs (hR.short a ham) hL.rhs
    have hlt : ((j + 1 : Nat) : Int) < ((s.map Row.ID).length : Int) := by rw [List.length_map]; omega
    simp only [drosslaw17_OrderingSorted_l1, if_pos hlt, hw, idx_get hia, idx_get hib, ref_Find_eq t _ H.rows, find_row hz ham, find_row hz hbm, Option.bind_some, c1, c2, if_neg n1, if_neg (show ¬ cmpL a b d.Rhs > 0 by omega), wrap_nat (show j + 1 < 4611686018427387904 by omega)]
    by_cases h0 : cmpL a b d.Lhs = 0
    · have h1 : cmpL a b d.Rhs = 0 := by omega
      simp [h0, h1]
    · simp [h0]
  · have : ¬ ((s.length - 1 + 1 : Nat) : Int) < ((s.map Row.ID).length : Int) := by rw [List.length_map]; omega
    simp only [drosslaw17_OrderingSorted_l1, if_neg this]
theorem OrderingSorted_holds (x : Drossref03_Recipe) (l : Drossref17_Lists) (hx : okDrossref03_Recipe x) (hl : okDrossref17_Lists l) : drosslaw17_OrderingSorted x l = some true := by
  rcases recipe_cases x hx with ⟨t, ht⟩ | ⟨t, ht, G⟩
  · simp [drosslaw17_OrderingSorted, ht, awake17]
  · have hv := ofL_valid t.Attrs.length l
    have hl' := lenD_valid hv
    have h1 := memL_len t.Attrs.length l.X
    have e1 := good_holds G hv
    have h0 := odErr_split t _ _ (good_odErr G hv)
    rcases Sorted_eqs t (ofL t.Attrs.length l).Lhs G.ok (by simp only [ofL]; omega) with ⟨q1, _⟩ | ⟨_, s, hp, hs, q2, q3⟩
    · exact absurd h0 q1
    · have hrows := (good_rows G hv).len
      simp only [drosslaw17_OrderingSorted, ht, awake17, Option.bind_some, if_true, Bool.not_true, Bool.false_eq_true, if_false, Of17_eq _ l hl, q2, q3, bne_self_eq_false, IDs_self17 (s.map Row.ID) (by rw [List.length_map, hp.length_eq]; omega), e1]
      by_cases h : holdsR t.Rows (ofL t.Attrs.length l).Lhs (ofL t.Attrs.length l).Rhs = true
      · simp only [h, if_true, asc_loop t (ofL t.Attrs.length l) G.ok (good_odErr G hv) hl' s hp hs ((holdsR_iff _ _ _).1 h), Option.bind_some]
      · simp only [h, Bool.false_eq_true, if_false, beq_self_eq_true]
end Go.Proofs.YtimfcgdnogjlhaaGreat

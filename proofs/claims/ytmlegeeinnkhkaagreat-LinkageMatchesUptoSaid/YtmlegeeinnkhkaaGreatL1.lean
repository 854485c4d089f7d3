/- The Lean functions that the program's functions are lifted to, and the plain laws about them. -/
import Derived.Lib.Repeat
import Derived.Lib.TrailingZeros
import Derived.Test.YtmlegeeinnkhkaaGreatA3
import Derived.Test.YtmlegeeinnkhkaaGreatA2
set_option linter.unusedVariables false
set_option linter.unusedSimpArgs false
namespace Go.Proofs.YtmlegeeinnkhkaaGreat
open Go Go.Ab
structure Value where
 Kind:Int
 Num:Int
 Str:List UInt8
 deriving DecidableEq
structure Similar where
 Attr:Int
 Measure:Int
 Limit:Int
 deriving DecidableEq
structure Ratio where
 Num:Int
 Den:Int
 deriving DecidableEq
structure Row where
 ID:Int
 Values:List Value
 deriving DecidableEq
structure Linkage where
 Rules:List (List Similar)
 Block:List Int
 Survive:List Int
 deriving DecidableEq
structure Table where
 Name:List UInt8
 Attrs:List (List UInt8)
 Rows:List Row
 deriving DecidableEq
structure Arr2_int where
 x0:Int
 x1:Int
 deriving DecidableEq
structure Arr2_int64 where
 x0:Int
 x1:Int
 deriving DecidableEq
structure Pair where
 I:Int
 K:Int
 Weight:Int
 deriving DecidableEq
structure Cluster_search where
 w:List (List Int)
 labels:List Int
 best:List Int
 least:Int
 deriving DecidableEq
structure Drossref04_Wide where
 Hi:Int
 Lo:Int
 deriving DecidableEq
structure Drossref56_Test where
 Attr:Int
 Measure:Int
 Limit:Int
 deriving DecidableEq
structure Drossref56_Draft where
 Rules:List (List Drossref56_Test)
 Block:Int
 Survive:List Int
 deriving DecidableEq
structure Drossref03_Recipe where
 Attrs:Int
 Gap:Int
 Rows:List (List Int)
 deriving DecidableEq
structure Merged where
 Table:Table
 Clusters:List (List Int)
 Origins:List (List Int)
 deriving DecidableEq
structure Drossref55_Result where
 Value:Value
 Origin:Int
 deriving DecidableEq
structure Drossref55_Row where
 Row:Row
 Origins:List Int
 deriving DecidableEq
noncomputable def value_Valid (v_1:Value):Option (Bool) :=
 if (v_1.Kind == 0)=true then
 if (v_1.Num == 0)=true then
 some (v_1.Str == [])
 else
 some false
 else
 if (v_1.Kind == 1)=true then
 some (v_1.Str == [])
 else
 if (v_1.Kind == 2)=true then
 if (v_1.Num == 0)=true then
 some (decide ((v_1.Str.length:Int)≤200))
 else
 some false
 else
 if (v_1.Kind == 3)=true then
 if v_1.Num≥1 then
 some (v_1.Str == [])
 else
 some false
 else
 some false
noncomputable def similarity_valid (c_10:Similar):Option (Bool) :=
 if (c_10.Measure == 1)=true then
 some (c_10.Limit == 0)
 else
 if (c_10.Measure == 2)=true then
 if c_10.Limit≥0 then
 some (decide (c_10.Limit≤200))
 else
 some false
 else
 if (c_10.Measure == 4)=true then
 if c_10.Limit≥0 then
 some (decide (c_10.Limit≤200))
 else
 some false
 else
 if (c_10.Measure == 3)=true then
 if c_10.Limit≥0 then
 some (decide (c_10.Limit≤100))
 else
 some false
 else
 some false
noncomputable def slices_IndexFunc_string_l1 (s_19:List (List UInt8)) (f_20:(List UInt8)→Option (Bool)):Int→Option (LS (Int) ((Unit) ⊕ (Int))):=fun t8_30 =>
 if t8_30 < (s_19.length:Int) then
 (idx s_19 t8_30).bind fun (x_40:List UInt8) =>
 (f_20 x_40).bind fun (r_42:Bool) =>
 if r_42=true then
 some (.done (.inr t8_30))
 else
 some (.next (IntKind.i64.wrap (t8_30+1)))
 else
 some (.done (.inl ()))
noncomputable def slices_IndexFunc_string (s_19:List (List UInt8)) (f_20:(List UInt8)→Option (Bool)):Option (Int) :=
 (LoopF (slices_IndexFunc_string_l1 s_19 f_20) 0).bind (fun o=>match o with
 | .inl () =>
 some (-1)
 | .inr r_47 =>
 some r_47)
noncomputable def slices_ContainsFunc_string (s_51:List (List UInt8)) (f_52:(List UInt8)→Option (Bool)):Option (Bool) :=
 (slices_IndexFunc_string s_51 f_52).bind fun (r_55:Int) =>
 some (decide (r_55≥0))
noncomputable def similarity_long_1 (s_58:List UInt8):Option (Bool) :=
 some (decide ((s_58.length:Int) > 200))
noncomputable def similarity_long (l_60:List (List UInt8)):Option (Bool) :=
 (slices_ContainsFunc_string l_60 (fun (y_61:List UInt8)=>similarity_long_1 y_61)).bind fun (r_62:Bool) =>
 some r_62
noncomputable def similarity_distances_l1 (a_101:List UInt8) (b_102:List UInt8):(List (List Int)×Int)→Option (LS (List (List Int)×Int) (List (List Int))):=fun (d_113,t15_114) =>
 if t15_114 < ((((List.replicate (IntKind.i64.wrap ((a_101.length:Int)+1)).toNat ([]:List Int))).length:Nat):Int) then
 if 0≤(IntKind.i64.wrap ((b_102.length:Int)+1)) then
 if roomB (IntKind.i64.wrap ((b_102.length:Int)+1)).toNat 8=true then
 (idx d_113 t15_114).bind fun (x_126:List Int) =>
 some (.next ((d_113.set t15_114.toNat (List.replicate (IntKind.i64.wrap ((b_102.length:Int)+1)).toNat 0)),(IntKind.i64.wrap (t15_114+1))))
 else none
 else none
 else
 some (.done d_113)
noncomputable def similarity_distances_l4 (a_101:List UInt8) (b_102:List UInt8) (i_258:Int):(List (List Int)×Int)→Option (LS (List (List Int)×Int) (List (List Int))):=fun (d_428,j_429) =>
 if j_429≥0 then
 if (i_258 == (a_101.length:Int))=true then
 (idx d_428 i_258).bind fun (x_473:List Int) =>
 (idx x_473 j_429).bind fun (x_475:Int) =>
 some (.next ((d_428.set i_258.toNat (x_473.set j_429.toNat (IntKind.i64.wrap ((b_102.length:Int) - j_429)))),(IntKind.i64.wrap (j_429 - 1))))
 else
 if (j_429 == (b_102.length:Int))=true then
 (idx d_428 i_258).bind fun (x_478:List Int) =>
 (idx x_478 j_429).bind fun (x_480:Int) =>
 some (.next ((d_428.set i_258.toNat (x_478.set j_429.toNat (IntKind.i64.wrap ((a_101.length:Int) - i_258)))),(IntKind.i64.wrap (j_429 - 1))))
 else
 (idx a_101 i_258).bind fun (c_486:UInt8) =>
 (idx b_102 j_429).bind fun (c_488:UInt8) =>
 if (((c_486.toNat:Nat):Int) == ((c_488.toNat:Nat):Int))=true then
 (idx d_428 i_258).bind fun (x_491:List Int) =>
 (idx d_428 (IntKind.i64.wrap (i_258+1))).bind fun (x_493:List Int) =>
 (idx x_493 (IntKind.i64.wrap (j_429+1))).bind fun (x_495:Int) =>
 (idx x_491 j_429).bind fun (x_497:Int) =>
 some (.next ((d_428.set i_258.toNat (x_491.set j_429.toNat x_495)),(IntKind.i64.wrap (j_429 - 1))))
 else
 (idx d_428 i_258).bind fun (x_499:List Int) =>
 (idx d_428 (IntKind.i64.wrap (i_258+1))).bind fun (x_501:List Int) =>
 (idx x_501 (IntKind.i64.wrap (j_429+1))).bind fun (x_503:Int) =>
 (idx x_501 j_429).bind fun (x_505:Int) =>
 (idx x_499 (IntKind.i64.wrap (j_429+1))).bind fun (x_507:Int) =>
 (idx x_499 j_429).bind fun (x_509:Int) =>
 some (.next ((d_428.set i_258.toNat (x_499.set j_429.toNat (IntKind.i64.wrap (1+(if x_507 < (if x_505 < x_503 then x_505 else x_503) then x_507 else (if x_505 < x_503 then x_505 else x_503)))))),(IntKind.i64.wrap (j_429 - 1))))
 else
 some (.done d_428)
noncomputable def similarity_distances_l5 (a_101:List UInt8) (b_102:List UInt8):(List (List Int)×Int)→Option (LS (List (List Int)×Int) (List (List Int))):=fun (d_257,i_258) =>
 if i_258≥0 then
 (LoopF (similarity_distances_l4 a_101 b_102 i_258) (d_257,(b_102.length:Int))).bind (fun d_470 =>
 some (.next (d_470,(IntKind.i64.wrap (i_258 - 1)))))
 else
 some (.done d_257)
noncomputable def similarity_distances (a_101:List UInt8) (b_102:List UInt8):Option (List (List Int)) :=
 if 0≤(IntKind.i64.wrap ((a_101.length:Int)+1)) then
 if roomB (IntKind.i64.wrap ((a_101.length:Int)+1)).toNat 24=true then
 (LoopF (similarity_distances_l1 a_101 b_102) ((List.replicate (IntKind.i64.wrap ((a_101.length:Int)+1)).toNat ([]:List Int)),0)).bind (fun d_121 =>
 (LoopF (similarity_distances_l5 a_101 b_102) (d_121,(a_101.length:Int))).bind (fun d_386 =>
 some d_386))
 else none
 else none
noncomputable def similarity_Distance (a_519:List UInt8) (b_520:List UInt8):Option (Int×Int) :=
 (similarity_long [a_519,b_520]).bind fun (r_521:Bool) =>
 if r_521=true then
 some (0,3)
 else
 (similarity_distances a_519 b_520).bind fun (r_524:List (List Int)) =>
 (r_524[0]?).bind fun (x_526:List Int) =>
 (x_526[0]?).bind fun (x_528:Int) =>
 some (x_528,0)
noncomputable def similarity_Within (a_531:List UInt8) (b_532:List UInt8) (most_533:Int):Option (Bool×Int) :=
 (similarity_Distance a_531 b_532).bind fun (r_536:Int×Int) =>
 if (r_536.2 == 0)=true then
 some ((decide (r_536.1≤most_533)),r_536.2)
 else
 some (false,r_536.2)
noncomputable def ratio_abs (n_540:Int):Option (Int) :=
 if n_540 < 0 then
 some (IntKind.u64.wrap (0 - (IntKind.u64.wrap n_540)))
 else
 some (IntKind.u64.wrap n_540)
noncomputable def ratio_gcd_l1:(Int×Int)→Option (LS (Int×Int) (Int)):=fun (a_547,b_548) =>
 if b_548 > 0 then
 if b_548=0 then none else
 some (.next (b_548,(Int.tmod a_547 b_548)))
 else
 some (.done a_547)
noncomputable def ratio_gcd (a_543:Int) (b_544:Int):Option (Int) :=
 (LoopF ratio_gcd_l1 (a_543,b_544)).bind (fun a_551 =>
 some a_551)
noncomputable def ratio_of (neg_558:Bool) (num_559:Int) (den_560:Int):Option (Ratio×Int) :=
 if num_559 > 9223372036854775807 then
 some ((Ratio.mk 0 0),7)
 else
 if den_560 > 9223372036854775807 then
 some ((Ratio.mk 0 0),7)
 else
 if neg_558=true then
 some ((Ratio.mk (IntKind.i64.wrap (0 - (IntKind.i64.wrap num_559))) (IntKind.i64.wrap den_560)),0)
 else
 some ((Ratio.mk (IntKind.i64.wrap num_559) (IntKind.i64.wrap den_560)),0)
noncomputable def ratio_Make (num_565:Int) (den_566:Int):Option (Ratio×Int) :=
 if (den_566 == 0)=true then
 some ((Ratio.mk 0 0),8)
 else
 (ratio_abs num_565).bind fun (r_572:Int) =>
 (ratio_abs den_566).bind fun (r_574:Int) =>
 (ratio_gcd r_572 r_574).bind fun (r_578:Int) =>
 if r_578=0 then none else
 (ratio_of (!((decide (num_565 < 0)) == (decide (den_566 < 0)))) (IntKind.u64.wrap (Int.tdiv r_572 r_578)) (IntKind.u64.wrap (Int.tdiv r_574 r_578))).bind fun (r_582:Ratio×Int) =>
 some (r_582.1,r_582.2)
noncomputable def strings_Repeat (x:List UInt8) (n:Int):Option (List UInt8):=repF x n
noncomputable def similarity_Grams_l1 (s_717:List UInt8) (q_718:Int) (w_738:List UInt8):(List (List UInt8)×Int)→Option (LS (List (List UInt8)×Int) (List (List UInt8))):=fun (out_745,t32_746) =>
 if t32_746 < (IntKind.i64.wrap ((IntKind.i64.wrap ((s_717.length:Int)+q_718)) - 1)) then
 if 0≤t32_746 then
 if t32_746≤(IntKind.i64.wrap (t32_746+q_718)) then
 if (IntKind.i64.wrap (t32_746+q_718))≤(w_738.length:Int) then
 if roomB (out_745.length+1) 16=true then
 some (.next ((out_745++[((w_738.drop t32_746.toNat).take ((IntKind.i64.wrap (t32_746+q_718)).toNat - t32_746.toNat))]),(IntKind.i64.wrap (t32_746+1))))
 else none
 else none
 else none
 else none
 else
 some (.done out_745)
noncomputable def similarity_Grams (s_717:List UInt8) (q_718:Int):Option (List (List UInt8)×Int) :=
 (similarity_long [s_717]).bind fun (r_719:Bool) =>
 if r_719=true then
 some ([],3)
 else
 if q_718 < 1 then
 some ([],7)
 else
 if q_718 > 4 then
 some ([],7)
 else
 (strings_Repeat [1] (IntKind.i64.wrap (q_718 - 1))).bind fun (r_726:List UInt8) =>
 if r_726.length+s_717.length≤9223372036854775807 then
 (some (r_726++s_717)).bind fun (w_735:List UInt8) =>
 if w_735.length+r_726.length≤9223372036854775807 then
 (some (w_735++r_726)).bind fun (w_738:List UInt8) =>
 (LoopF (similarity_Grams_l1 s_717 q_718 w_738) ([],0)).bind (fun out_753 =>
 (srtSF out_753).bind fun (l_762:List (List UInt8)) =>
 some (l_762,0))
 else none
 else none
noncomputable def bytealg_CompareString (a_767:List UInt8) (b_768:List UInt8):Option (Int) :=
 some (Lib.compareBytes a_767 b_768)
noncomputable def strings_Compare (a_772:List UInt8) (b_773:List UInt8):Option (Int) :=
 (bytealg_CompareString a_772 b_773).bind fun (r_774:Int) =>
 some r_774
noncomputable def similarity_shared_l1:(List (List UInt8)×List (List UInt8)×Int)→Option (LS (List (List UInt8)×List (List UInt8)×Int) (Int)):=fun (a_799,b_800,n_801) =>
 if (a_799.length:Int) > 0 then
 if (b_800.length:Int) > 0 then
 (a_799[0]?).bind fun (x_831:List UInt8) =>
 (b_800[0]?).bind fun (x_833:List UInt8) =>
 (strings_Compare x_831 x_833).bind fun (r_835:Int) =>
 if r_835 < 0 then
 if (1:Int)≤(a_799.length:Int) then
 some (.next (((a_799.drop 1).take (a_799.length - 1)),b_800,n_801))
 else none
 else
 if r_835 > 0 then
 if (1:Int)≤(b_800.length:Int) then
 some (.next (a_799,((b_800.drop 1).take (b_800.length - 1)),n_801))
 else none
 else
 if (1:Int)≤(a_799.length:Int) then
 if (1:Int)≤(b_800.length:Int) then
 some (.next (((a_799.drop 1).take (a_799.length - 1)),((b_800.drop 1).take (b_800.length - 1)),(IntKind.i64.wrap (n_801+1))))
 else none
 else none
 else
 some (.done n_801)
 else
 some (.done n_801)
noncomputable def similarity_shared (a_777:List (List UInt8)) (b_778:List (List UInt8)):Option (Int) :=
 (LoopF similarity_shared_l1 (a_777,b_778,0)).bind (fun n_822 =>
 some n_822)
noncomputable def similarity_Common (a_847:List UInt8) (b_848:List UInt8) (q_849:Int):Option (Ratio×Int) :=
 (similarity_long [a_847,b_848]).bind fun (r_850:Bool) =>
 if r_850=true then
 some ((Ratio.mk 0 0),3)
 else
 (similarity_Grams a_847 q_849).bind fun (r_855:List (List UInt8)×Int) =>
 (similarity_Grams b_848 q_849).bind fun (r_859:List (List UInt8)×Int) =>
 if (r_855.2 != 0)=true then
 some ((Ratio.mk 0 0),r_855.2)
 else
 if ((IntKind.i64.wrap ((r_855.1.length:Int)+(r_859.1.length:Int))) == 0)=true then
 some ((Ratio.mk 1 1),0)
 else
 (similarity_shared r_855.1 r_859.1).bind fun (r_863:Int) =>
 (ratio_Make (IntKind.i64.wrap (2 * r_863)) (IntKind.i64.wrap ((r_855.1.length:Int)+(r_859.1.length:Int)))).bind fun (r_865:Ratio×Int) =>
 some (r_865.1,r_865.2)
noncomputable def similarity_Match (x_868:Row) (y_869:Row) (c_870:Similar):Option (Bool×Int) :=
 if c_870.Attr < 0 then
 some (false,6)
 else
 if c_870.Attr≥(x_868.Values.length:Int) then
 some (false,6)
 else
 if c_870.Attr≥(y_869.Values.length:Int) then
 some (false,6)
 else
 (idx x_868.Values c_870.Attr).bind fun (x_878:Value) =>
 (idx y_869.Values c_870.Attr).bind fun (x_880:Value) =>
 (value_Valid x_878).bind fun (r_882:Bool) =>
 if r_882=true then
 (value_Valid x_880).bind fun (r_885:Bool) =>
 if r_885=true then
 (similarity_valid c_870).bind fun (r_888:Bool) =>
 if r_888=true then
 (show Option (Bool) from
 if (x_878.Kind != 2)=true then
 some true
 else
 some (x_880.Kind != 2)).bind (fun t66_892 =>
 if t66_892=true then
 some (((x_878.Kind == x_880.Kind) && ((x_878.Num == x_880.Num) && (x_878.Str == x_880.Str))),0)
 else
 if (c_870.Measure == 2)=true then
 (similarity_Within x_878.Str x_880.Str c_870.Limit).bind fun (r_898:Bool×Int) =>
 some (r_898.1,r_898.2)
 else
 if (c_870.Measure == 3)=true then
 (similarity_Common x_878.Str x_880.Str 2).bind fun (r_903:Ratio×Int) =>
 if (r_903.2 == 0)=true then
 some ((decide ((IntKind.i64.wrap (100 * r_903.1.Num))≥(IntKind.i64.wrap (c_870.Limit * r_903.1.Den)))),r_903.2)
 else
 some (false,r_903.2)
 else
 if (c_870.Measure == 4)=true then
 if (0:Int)≤(if (x_878.Str.length:Int) < c_870.Limit then (x_878.Str.length:Int) else c_870.Limit) then
 if (if (x_878.Str.length:Int) < c_870.Limit then (x_878.Str.length:Int) else c_870.Limit)≤(x_878.Str.length:Int) then
 if (0:Int)≤(if (x_880.Str.length:Int) < c_870.Limit then (x_880.Str.length:Int) else c_870.Limit) then
 if (if (x_880.Str.length:Int) < c_870.Limit then (x_880.Str.length:Int) else c_870.Limit)≤(x_880.Str.length:Int) then
 some (((x_878.Str.take ((if (x_878.Str.length:Int) < c_870.Limit then (x_878.Str.length:Int) else c_870.Limit).toNat)) == (x_880.Str.take ((if (x_880.Str.length:Int) < c_870.Limit then (x_880.Str.length:Int) else c_870.Limit).toNat))),0)
 else none
 else none
 else none
 else none
 else
 some ((x_878.Str == x_880.Str),0))
 else
 some (false,1)
 else
 some (false,1)
 else
 some (false,1)
noncomputable def slices_IndexFunc_int_l1 (s_913:List Int) (f_914:Int→Option (Bool)):Int→Option (LS (Int) ((Unit) ⊕ (Int))):=fun t8_924 =>
 if t8_924 < (s_913.length:Int) then
 (idx s_913 t8_924).bind fun (x_934:Int) =>
 (f_914 x_934).bind fun (r_936:Bool) =>
 if r_936=true then
 some (.done (.inr t8_924))
 else
 some (.next (IntKind.i64.wrap (t8_924+1)))
 else
 some (.done (.inl ()))
noncomputable def slices_IndexFunc_int (s_913:List Int) (f_914:Int→Option (Bool)):Option (Int) :=
 (LoopF (slices_IndexFunc_int_l1 s_913 f_914) 0).bind (fun o=>match o with
 | .inl () =>
 some (-1)
 | .inr r_941 =>
 some r_941)
noncomputable def slices_ContainsFunc_int (s_945:List Int) (f_946:Int→Option (Bool)):Option (Bool) :=
 (slices_IndexFunc_int s_945 f_946).bind fun (r_949:Int) =>
 some (decide (r_949≥0))
noncomputable def linkage_Valid_1 (a_952:Int) (c_953:Int):Option (Bool) :=
 if a_952 < 0 then
 some true
 else
 some (decide (a_952≥c_953))
noncomputable def linkage_Valid_2 (s_1051:Int):Option (Bool) :=
 if s_1051 < 1 then
 some true
 else
 some (decide (s_1051 > 5))
noncomputable def linkage_Valid_l3 (l_1212:List Value) (x_1301:List Similar):Int→Option (LS (Int) ((Unit) ⊕ (Int))):=fun t43_1314 =>
 if t43_1314 < (x_1301.length:Int) then
 (idx x_1301 t43_1314).bind fun (x_1328:Similar) =>
 (similarity_Match (Row.mk 0 l_1212) (Row.mk 0 l_1212) x_1328).bind fun (r_1330:Bool×Int) =>
 if (r_1330.2 != 0)=true then
 some (.done (.inr r_1330.2))
 else
 some (.next (IntKind.i64.wrap (t43_1314+1)))
 else
 some (.done (.inl ()))
noncomputable def linkage_Valid_l4 (l_1202:Linkage) (l_1212:List Value):Int→Option (LS (Int) ((Unit) ⊕ (Int))):=fun t29_1255 =>
 if t29_1255 < (l_1202.Rules.length:Int) then
 (idx l_1202.Rules t29_1255).bind fun (x_1301:List Similar) =>
 if (x_1301.length:Int) < 1 then
 some (.done (.inr 1))
 else
 if (x_1301.length:Int) > 6 then
 some (.done (.inr 1))
 else
 (LoopF (linkage_Valid_l3 l_1212 x_1301) 0).bind (fun o=>match o with
 | .inl () =>
 some (.next (IntKind.i64.wrap (t29_1255+1)))
 | .inr r_1335 =>
 some (.done (.inr r_1335)))
 else
 some (.done (.inl ()))
noncomputable def linkage_Valid (n_1201:Int) (l_1202:Linkage):Option (Int) :=
 if n_1201 < 0 then
 some 7
 else
 if n_1201 > 16 then
 some 7
 else
 if (l_1202.Rules.length:Int) > 8 then
 some 3
 else
 if 0≤n_1201 then
 if roomB (n_1201).toNat 32=true then
 (some ((List.replicate (n_1201).toNat (Value.mk 0 0 [])):List Value)).bind fun (l_1212:List Value) =>
 (LoopF (linkage_Valid_l4 l_1202 l_1212) 0).bind (fun o=>match o with
 | .inl () =>
 (slices_ContainsFunc_int l_1202.Block (fun (y_1340:Int)=>linkage_Valid_1 y_1340 n_1201)).bind fun (r_1341:Bool) =>
 if r_1341=true then
 some 6
 else
 if roomB l_1202.Block.length 8=true then
 (srtIF l_1202.Block).bind fun (l_1357:List Int) =>
 (cptF l_1357).bind fun (l_1366:List Int) =>
 if (((l_1366.length:Nat):Int) != (l_1202.Block.length:Int))=true then
 some 1
 else
 if ((l_1202.Survive.length:Int) != n_1201)=true then
 some 6
 else
 (slices_ContainsFunc_int l_1202.Survive (fun (y_1371:Int)=>linkage_Valid_2 y_1371)).bind fun (r_1372:Bool) =>
 if r_1372=true then
 some 1
 else
 some 0
 else none
 | .inr r_1375 =>
 some r_1375)
 else none
 else none
noncomputable def table_isName_l1 (s_1379:List UInt8):Int→Option (LS (Int) ((Unit) ⊕ (Bool))):=fun t19_1406 =>
 if t19_1406 < (s_1379.length:Int) then
 (idx s_1379 t19_1406).bind fun (c_1437:UInt8) =>
 (show Option (Bool) from
 if ((c_1437.toNat:Nat):Int)≥97 then
 if ((c_1437.toNat:Nat):Int)≤122 then
 some true
 else
 if ((c_1437.toNat:Nat):Int)≥65 then
 if ((c_1437.toNat:Nat):Int)≤90 then
 some true
 else
 some (((c_1437.toNat:Nat):Int) == 95)
 else
 some (((c_1437.toNat:Nat):Int) == 95)
 else
 if ((c_1437.toNat:Nat):Int)≥65 then
 if ((c_1437.toNat:Nat):Int)≤90 then
 some true
 else
 some (((c_1437.toNat:Nat):Int) == 95)
 else
 some (((c_1437.toNat:Nat):Int) == 95)).bind (fun letter_1445 =>
 if letter_1445=true then
 some (.next (IntKind.i64.wrap (t19_1406+1)))
 else
 if (t19_1406 == 0)=true then
 some (.done (.inr false))
 else
 if ((c_1437.toNat:Nat):Int) < 48 then
 some (.done (.inr false))
 else
 if ((c_1437.toNat:Nat):Int) > 57 then
 some (.done (.inr false))
 else
 some (.next (IntKind.i64.wrap (t19_1406+1))))
 else
 some (.done (.inl ()))
noncomputable def table_isName (s_1379:List UInt8):Option (Bool) :=
 if (s_1379 == [])=true then
 some false
 else
 if (s_1379.length:Int) > 24 then
 some false
 else
 if (s_1379 == [110,117,108,108])=true then
 some false
 else
 (LoopF (table_isName_l1 s_1379) 0).bind (fun o=>match o with
 | .inl () =>
 some true
 | .inr r_1461 =>
 some r_1461)
noncomputable def slices_Index_string_l1 (s_1465:List (List UInt8)) (v_1466:List UInt8):Int→Option (LS (Int) ((Unit) ⊕ (Int))):=fun t8_1472 =>
 if t8_1472 < (s_1465.length:Int) then
 (idx s_1465 t8_1472).bind fun (x_1480:List UInt8) =>
 if (v_1466 == x_1480)=true then
 some (.done (.inr t8_1472))
 else
 some (.next (IntKind.i64.wrap (t8_1472+1)))
 else
 some (.done (.inl ()))
noncomputable def slices_Index_string (s_1465:List (List UInt8)) (v_1466:List UInt8):Option (Int) :=
 (LoopF (slices_Index_string_l1 s_1465 v_1466) 0).bind (fun o=>match o with
 | .inl () =>
 some (-1)
 | .inr r_1485 =>
 some r_1485)
noncomputable def slices_Contains_string (s_1489:List (List UInt8)) (v_1490:List UInt8):Option (Bool) :=
 (slices_Index_string s_1489 v_1490).bind fun (r_1491:Int) =>
 some (decide (r_1491≥0))
noncomputable def slices_IndexFunc_Value_l1 (s_1494:List Value) (f_1495:Value→Option (Bool)):Int→Option (LS (Int) ((Unit) ⊕ (Int))):=fun t8_1505 =>
 if t8_1505 < (s_1494.length:Int) then
 (idx s_1494 t8_1505).bind fun (x_1515:Value) =>
 (f_1495 x_1515).bind fun (r_1517:Bool) =>
 if r_1517=true then
 some (.done (.inr t8_1505))
 else
 some (.next (IntKind.i64.wrap (t8_1505+1)))
 else
 some (.done (.inl ()))
noncomputable def slices_IndexFunc_Value (s_1494:List Value) (f_1495:Value→Option (Bool)):Option (Int) :=
 (LoopF (slices_IndexFunc_Value_l1 s_1494 f_1495) 0).bind (fun o=>match o with
 | .inl () =>
 some (-1)
 | .inr r_1522 =>
 some r_1522)
noncomputable def slices_ContainsFunc_Value (s_1526:List Value) (f_1527:Value→Option (Bool)):Option (Bool) :=
 (slices_IndexFunc_Value s_1526 f_1527).bind fun (r_1530:Int) =>
 some (decide (r_1530≥0))
noncomputable def table_validValues_1 (v_1533:Value):Option (Bool) :=
 (value_Valid v_1533).bind fun (r_1534:Bool) =>
 some (!r_1534)
noncomputable def table_validValues (l_1537:List Value):Option (Bool) :=
 (slices_ContainsFunc_Value l_1537 (fun (y_1538:Value)=>table_validValues_1 y_1538)).bind fun (r_1539:Bool) =>
 some (!r_1539)
noncomputable def table_Valid_l1 (t_1542:Table):Int→Option (LS (Int) ((Unit) ⊕ (Int))):=fun t25_1562 =>
 if t25_1562 < (t_1542.Attrs.length:Int) then
 (idx t_1542.Attrs t25_1562).bind fun (x_1583:List UInt8) =>
 (table_isName x_1583).bind fun (r_1585:Bool) =>
 if r_1585=true then
 if (0:Int)≤t25_1562 then
 if t25_1562≤(t_1542.Attrs.length:Int) then
 (slices_Contains_string (t_1542.Attrs.take (t25_1562.toNat)) x_1583).bind fun (r_1592:Bool) =>
 if r_1592=true then
 some (.done (.inr 1))
 else
 some (.next (IntKind.i64.wrap (t25_1562+1)))
 else none
 else none
 else
 some (.done (.inr 1))
 else
 some (.done (.inl ()))
noncomputable def table_Valid_l2 (t_1542:Table):(Int×Int)→Option (LS (Int×Int) ((Unit) ⊕ (Int))):=fun (last_1608,t45_1609) =>
 if t45_1609 < (t_1542.Rows.length:Int) then
 (idx t_1542.Rows t45_1609).bind fun (x_1625:Row) =>
 if x_1625.ID≤last_1608 then
 some (.done (.inr 1))
 else
 if ((x_1625.Values.length:Int) != (t_1542.Attrs.length:Int))=true then
 some (.done (.inr 6))
 else
 (table_validValues x_1625.Values).bind fun (r_1629:Bool) =>
 if r_1629=true then
 some (.next (x_1625.ID,(IntKind.i64.wrap (t45_1609+1))))
 else
 some (.done (.inr 1))
 else
 some (.done (.inl ()))
noncomputable def table_Valid (t_1542:Table):Option (Int) :=
 (table_isName t_1542.Name).bind fun (r_1543:Bool) =>
 if r_1543=true then
 if (t_1542.Attrs.length:Int) > 16 then
 some 3
 else
 if (t_1542.Rows.length:Int) > 1000 then
 some 3
 else
 (LoopF (table_Valid_l1 t_1542) 0).bind (fun o=>match o with
 | .inl () =>
 (LoopF (table_Valid_l2 t_1542) (0,0)).bind (fun o=>match o with
 | .inl () =>
 some 0
 | .inr r_1634 =>
 some r_1634)
 | .inr r_1637 =>
 some r_1637)
 else
 some 1
noncomputable def linkage_limits (t_1641:Table) (l_1642:Linkage):Option (Int) :=
 (table_Valid t_1641).bind fun (r_1643:Int) =>
 if (r_1643 != 0)=true then
 some r_1643
 else
 (linkage_Valid (t_1641.Attrs.length:Int) l_1642).bind fun (r_1646:Int) =>
 if (r_1646 != 0)=true then
 some r_1646
 else
 if (t_1641.Rows.length:Int) > 200 then
 some 3
 else
 some 0
noncomputable def slices_IndexFunc_Similar_l1 (s_1651:List (List Similar)) (f_1652:(List Similar)→Option (Bool)):Int→Option (LS (Int) ((Unit) ⊕ (Int))):=fun t8_1662 =>
 if t8_1662 < (s_1651.length:Int) then
 (idx s_1651 t8_1662).bind fun (x_1672:List Similar) =>
 (f_1652 x_1672).bind fun (r_1674:Bool) =>
 if r_1674=true then
 some (.done (.inr t8_1662))
 else
 some (.next (IntKind.i64.wrap (t8_1662+1)))
 else
 some (.done (.inl ()))
noncomputable def slices_IndexFunc_Similar (s_1651:List (List Similar)) (f_1652:(List Similar)→Option (Bool)):Option (Int) :=
 (LoopF (slices_IndexFunc_Similar_l1 s_1651 f_1652) 0).bind (fun o=>match o with
 | .inl () =>
 some (-1)
 | .inr r_1679 =>
 some r_1679)
noncomputable def slices_IndexFunc_Similar_2_l1 (s_1683:List Similar) (f_1684:Similar→Option (Bool)):Int→Option (LS (Int) ((Unit) ⊕ (Int))):=fun t8_1694 =>
 if t8_1694 < (s_1683.length:Int) then
 (idx s_1683 t8_1694).bind fun (x_1704:Similar) =>
 (f_1684 x_1704).bind fun (r_1706:Bool) =>
 if r_1706=true then
 some (.done (.inr t8_1694))
 else
 some (.next (IntKind.i64.wrap (t8_1694+1)))
 else
 some (.done (.inl ()))
noncomputable def slices_IndexFunc_Similar_2 (s_1683:List Similar) (f_1684:Similar→Option (Bool)):Option (Int) :=
 (LoopF (slices_IndexFunc_Similar_2_l1 s_1683 f_1684) 0).bind (fun o=>match o with
 | .inl () =>
 some (-1)
 | .inr r_1711 =>
 some r_1711)
noncomputable def slices_ContainsFunc_Similar (s_1715:List Similar) (f_1716:Similar→Option (Bool)):Option (Bool) :=
 (slices_IndexFunc_Similar_2 s_1715 f_1716).bind fun (r_1719:Int) =>
 some (decide (r_1719≥0))
noncomputable def linkage_holds_1_1 (c_1722:Similar) (c_1723:Row) (c_1724:Row):Option (Bool) :=
 (similarity_Match c_1723 c_1724 c_1722).bind fun (r_1725:Bool×Int) =>
 some (!r_1725.1)
noncomputable def linkage_holds_1 (rule_1728:List Similar) (c_1729:Row) (c_1730:Row):Option (Bool) :=
 (slices_ContainsFunc_Similar rule_1728 (fun (y_1731:Similar)=>linkage_holds_1_1 y_1731 c_1729 c_1730)).bind fun (r_1732:Bool) =>
 some (!r_1732)
noncomputable def linkage_holds (l_1735:Linkage) (a_1736:Row) (b_1737:Row):Option (Int) :=
 (slices_IndexFunc_Similar l_1735.Rules (fun (y_1738:List Similar)=>linkage_holds_1 y_1738 a_1736 b_1737)).bind fun (r_1739:Int) =>
 some r_1739
noncomputable def linkage_compared_1 (k_1742:Int) (c_1743:Row) (c_1744:Row):Option (Bool) :=
 (idx c_1743.Values k_1742).bind fun (x_1745:Value) =>
 (idx c_1744.Values k_1742).bind fun (x_1747:Value) =>
 some ((x_1745.Kind == x_1747.Kind) && ((x_1745.Num == x_1747.Num) && (x_1745.Str == x_1747.Str)))
noncomputable def linkage_compared (l_1750:Linkage) (a_1751:Row) (b_1752:Row):Option (Bool) :=
 if ((l_1750.Block.length:Int) == 0)=true then
 some true
 else
 (slices_ContainsFunc_int l_1750.Block (fun (y_1754:Int)=>linkage_compared_1 y_1754 a_1751 b_1752)).bind fun (r_1755:Bool) =>
 some r_1755
noncomputable def linkage_matches_l3 (t_1758:Table) (l_1759:Linkage) (t13_1836:Int) (x_1917:Row):(List Arr2_int×Int)→Option (LS (List Arr2_int×Int) (List Arr2_int)):=fun (out_1940,k_1941) =>
 if k_1941 < (t_1758.Rows.length:Int) then
 (idx t_1758.Rows k_1941).bind fun (x_1967:Row) =>
 (show Option (Bool) from
 (linkage_compared l_1759 x_1917 x_1967).bind fun (r_1977:Bool) =>
 if r_1977=true then
 (linkage_holds l_1759 x_1917 x_1967).bind fun (r_1980:Int) =>
 some (decide (r_1980≥0))
 else
 some false).bind (fun t42_1974 =>
 if t42_1974=true then
 if roomB (out_1940.length+1) 16=true then
 some (.next ((out_1940++[(Arr2_int.mk t13_1836 k_1941)]),(IntKind.i64.wrap (k_1941+1))))
 else none
 else
 some (.next (out_1940,(IntKind.i64.wrap (k_1941+1)))))
 else
 some (.done out_1940)
noncomputable def linkage_matches_l4 (t_1758:Table) (l_1759:Linkage):(List Arr2_int×Int)→Option (LS (List Arr2_int×Int) (List Arr2_int)):=fun (out_1835,t13_1836) =>
 if t13_1836 < (t_1758.Rows.length:Int) then
 (idx t_1758.Rows t13_1836).bind fun (x_1917:Row) =>
 (LoopF (linkage_matches_l3 t_1758 l_1759 t13_1836 x_1917) (out_1835,(IntKind.i64.wrap (t13_1836+1)))).bind (fun out_1963 =>
 some (.next (out_1963,(IntKind.i64.wrap (t13_1836+1)))))
 else
 some (.done out_1835)
noncomputable def linkage_matches (t_1758:Table) (l_1759:Linkage):Option (List Arr2_int) :=
 (LoopF (linkage_matches_l4 t_1758 l_1759) ([],0)).bind (fun out_1912 =>
 some out_1912)
noncomputable def linkage_Matches_l1 (t_1992:Table) (r_2001:List Arr2_int):(List Arr2_int64×Int)→Option (LS (List Arr2_int64×Int) (List Arr2_int64)):=fun (out_2014,t20_2015) =>
 if t20_2015 < (r_2001.length:Int) then
 (idx r_2001 t20_2015).bind fun (x_2032:Arr2_int) =>
 (idx t_1992.Rows x_2032.x0).bind fun (x_2034:Row) =>
 (idx t_1992.Rows x_2032.x1).bind fun (x_2036:Row) =>
 if roomB (out_2014.length+1) 16=true then
 some (.next ((out_2014++[(Arr2_int64.mk x_2034.ID x_2036.ID)]),(IntKind.i64.wrap (t20_2015+1))))
 else none
 else
 some (.done out_2014)
noncomputable def linkage_Matches (t_1992:Table) (l_1993:Linkage):Option (List Arr2_int64×Int) :=
 (linkage_limits t_1992 l_1993).bind fun (r_1996:Int) =>
 if (r_1996 != 0)=true then
 some ([],r_1996)
 else
 (linkage_matches t_1992 l_1993).bind fun (r_2001:List Arr2_int) =>
 (LoopF (linkage_Matches_l1 t_1992 r_2001) ([],0)).bind (fun out_2027 =>
 some (out_2027,0))
noncomputable def drossref56_SamePairs_l1 (a_2043:List Arr2_int64) (b_2044:List Arr2_int64):Int→Option (LS (Int) ((Unit) ⊕ (Bool))):=fun i_2052 =>
 if i_2052 < (a_2043.length:Int) then
 (idx a_2043 i_2052).bind fun (x_2060:Arr2_int64) =>
 (idx b_2044 i_2052).bind fun (x_2062:Arr2_int64) =>
 if ((x_2060.x0 == x_2062.x0) && (x_2060.x1 == x_2062.x1))=true then
 some (.next (IntKind.i64.wrap (i_2052+1)))
 else
 some (.done (.inr false))
 else
 some (.done (.inl ()))
noncomputable def drossref56_SamePairs (a_2043:List Arr2_int64) (b_2044:List Arr2_int64):Option (Bool) :=
 if ((a_2043.length:Int) != (b_2044.length:Int))=true then
 some false
 else
 (LoopF (drossref56_SamePairs_l1 a_2043 b_2044) 0).bind (fun o=>match o with
 | .inl () =>
 some true
 | .inr r_2067 =>
 some r_2067)
noncomputable def graph_Valid_l1 (n_2071:Int) (edges_2072:List Arr2_int):Int→Option (LS (Int) ((Unit) ⊕ (Int))):=fun t20_2096 =>
 if t20_2096 < (edges_2072.length:Int) then
 (idx edges_2072 t20_2096).bind fun (x_2109:Arr2_int) =>
 if (if x_2109.x1 < x_2109.x0 then x_2109.x1 else x_2109.x0) < 0 then
 some (.done (.inr 1))
 else
 if (if x_2109.x1 > x_2109.x0 then x_2109.x1 else x_2109.x0)≥n_2071 then
 some (.done (.inr 1))
 else
 some (.next (IntKind.i64.wrap (t20_2096+1)))
 else
 some (.done (.inl ()))
noncomputable def graph_Valid (n_2071:Int) (edges_2072:List Arr2_int):Option (Int) :=
 (show Option (Bool) from
 if n_2071 > 1000 then
 some true
 else
 some (decide ((edges_2072.length:Int) > 20000))).bind (fun t7_2082 =>
 if t7_2082=true then
 some 3
 else
 if n_2071 < 0 then
 some 1
 else
 (LoopF (graph_Valid_l1 n_2071 edges_2072) 0).bind (fun o=>match o with
 | .inl () =>
 some 0
 | .inr r_2115 =>
 some r_2115))
noncomputable def graph_neighbours_l1 (edges_2135:List Arr2_int):(List (List Int)×Int)→Option (LS (List (List Int)×Int) (List (List Int))):=fun (out_2149,t13_2150) =>
 if t13_2150 < (edges_2135.length:Int) then
 (idx edges_2135 t13_2150).bind fun (x_2165:Arr2_int) =>
 (idx out_2149 x_2165.x0).bind fun (x_2167:List Int) =>
 if roomB (x_2167.length+1) 8=true then
 some (.next ((out_2149.set x_2165.x0.toNat (x_2167++[x_2165.x1])),(IntKind.i64.wrap (t13_2150+1))))
 else none
 else
 some (.done out_2149)
noncomputable def graph_neighbours_l2 (out_2160:List (List Int)):(List (List Int)×Int)→Option (LS (List (List Int)×Int) (List (List Int))):=fun (out_2189,t33_2190) =>
 if t33_2190 < ((out_2160.length:Nat):Int) then
 (idx out_2189 t33_2190).bind fun (x_2216:List Int) =>
 (srtIF x_2216).bind fun (l_2218:List Int) =>
 (idx (out_2189.set t33_2190.toNat l_2218) t33_2190).bind fun (x_2221:List Int) =>
 (cptF x_2221).bind fun (l_2223:List Int) =>
 some (.next (((out_2189.set t33_2190.toNat l_2218).set t33_2190.toNat l_2223),(IntKind.i64.wrap (t33_2190+1))))
 else
 some (.done out_2189)
noncomputable def graph_neighbours (n_2134:Int) (edges_2135:List Arr2_int):Option (List (List Int)) :=
 if 0≤n_2134 then
 if roomB (n_2134).toNat 24=true then
 (LoopF (graph_neighbours_l1 edges_2135) ((List.replicate (n_2134).toNat ([]:List Int)),0)).bind (fun out_2160 =>
 (LoopF (graph_neighbours_l2 out_2160) (out_2160,0)).bind (fun out_2208 =>
 some out_2208))
 else none
 else none
noncomputable def slices_Concat__2_int_l1 (slices_2234:List (List Arr2_int)):(Int×Int)→Option (LS (Int×Int) (Int)):=fun (size_2242,t11_2243) =>
 if t11_2243 < (slices_2234.length:Int) then
 (idx slices_2234 t11_2243).bind fun (x_2256:List Arr2_int) =>
 if (IntKind.i64.wrap (size_2242+(x_2256.length:Int))) < 0 then
 none
 else
 some (.next ((IntKind.i64.wrap (size_2242+(x_2256.length:Int))),(IntKind.i64.wrap (t11_2243+1))))
 else
 some (.done size_2242)
noncomputable def slices_Concat__2_int_l2 (slices_2234:List (List Arr2_int)):(List Arr2_int×Int)→Option (LS (List Arr2_int×Int) (List Arr2_int)):=fun (newslice_2270,t27_2271) =>
 if t27_2271 < (slices_2234.length:Int) then
 (idx slices_2234 t27_2271).bind fun (x_2280:List Arr2_int) =>
 if roomB (newslice_2270.length+x_2280.length) 16=true then
 some (.next ((newslice_2270++x_2280),(IntKind.i64.wrap (t27_2271+1))))
 else none
 else
 some (.done newslice_2270)
noncomputable def slices_Concat__2_int (slices_2234:List (List Arr2_int)):Option (List Arr2_int) :=
 (LoopF (slices_Concat__2_int_l1 slices_2234) (0,0)).bind (fun size_2251 =>
 if 0≤size_2251 then
 if size_2251≤1000000000000 then
 (LoopF (slices_Concat__2_int_l2 slices_2234) (([]:List Arr2_int),0)).bind (fun newslice_2277 =>
 some newslice_2277)
 else none
 else none)
noncomputable def graph_reversed_l1 (edges_2288:List Arr2_int):(List Arr2_int×Int)→Option (LS (List Arr2_int×Int) (List Arr2_int)):=fun (out_2301,t11_2302) =>
 if t11_2302 < (edges_2288.length:Int) then
 (idx edges_2288 t11_2302).bind fun (x_2316:Arr2_int) =>
 (idx out_2301 t11_2302).bind fun (x_2318:Arr2_int) =>
 some (.next ((out_2301.set t11_2302.toNat (Arr2_int.mk x_2316.x1 x_2316.x0)),(IntKind.i64.wrap (t11_2302+1))))
 else
 some (.done out_2301)
noncomputable def graph_reversed (edges_2288:List Arr2_int):Option (List Arr2_int) :=
 if 0≤(edges_2288.length:Int) then
 if roomB edges_2288.length 16=true then
 (LoopF (graph_reversed_l1 edges_2288) ((List.replicate edges_2288.length (Arr2_int.mk 0 0)),0)).bind (fun out_2311 =>
 some out_2311)
 else none
 else none
noncomputable def graph_visit_l3 (x_2455:List Int):(List Bool×List Int×Int)→Option (LS (List Bool×List Int×Int) (List Bool×List Int)):=fun (seen_2469,out_2470,t32_2471) =>
 if t32_2471 < (x_2455.length:Int) then
 (idx x_2455 t32_2471).bind fun (x_2490:Int) =>
 (idx seen_2469 x_2490).bind fun (x_2494:Bool) =>
 if x_2494=true then
 some (.next (seen_2469,out_2470,(IntKind.i64.wrap (t32_2471+1))))
 else
 if roomB (out_2470.length+1) 8=true then
 some (.next ((seen_2469.set x_2490.toNat true),(out_2470++[x_2490]),(IntKind.i64.wrap (t32_2471+1))))
 else none
 else
 some (.done (seen_2469,out_2470))
noncomputable def graph_visit_l4 (next_2324:List (List Int)):(List Bool×List Int×Int)→Option (LS (List Bool×List Int×Int) (List Int)):=fun (seen_2391,out_2392,i_2393) =>
 if i_2393 < ((out_2392.length:Nat):Int) then
 (idx out_2392 i_2393).bind fun (x_2453:Int) =>
 (idx next_2324 x_2453).bind fun (x_2455:List Int) =>
 (LoopF (graph_visit_l3 x_2455) (seen_2391,out_2392,0)).bind (fun (seen_2484,out_2485) =>
 some (.next (seen_2484,out_2485,(IntKind.i64.wrap (i_2393+1)))))
 else
 some (.done out_2392)
noncomputable def graph_visit (next_2324:List (List Int)) (from_2325:Int):Option (List Int) :=
 if 0≤(next_2324.length:Int) then
 if roomB next_2324.length 1=true then
 (some ((List.replicate next_2324.length false):List Bool)).bind fun (l_2334:List Bool) =>
 (idx l_2334 from_2325).bind fun (x_2336:Bool) =>
 (LoopF (graph_visit_l4 next_2324) ((l_2334.set from_2325.toNat true),[from_2325],0)).bind (fun out_2447 =>
 (srtIF out_2447).bind fun (l_2503:List Int) =>
 some l_2503)
 else none
 else none
noncomputable def graph_Components_l3 (r_2610:List Int):(List Bool×Int)→Option (LS (List Bool×Int) (List Bool)):=fun (done_2618,t42_2619) =>
 if t42_2619 < (r_2610.length:Int) then
 (idx r_2610 t42_2619).bind fun (x_2629:Int) =>
 (idx done_2618 x_2629).bind fun (x_2631:Bool) =>
 some (.next ((done_2618.set x_2629.toNat true),(IntKind.i64.wrap (t42_2619+1))))
 else
 some (.done done_2618)
noncomputable def graph_Components_l4 (n_2508:Int) (r_2525:List (List Int)):(List Bool×List (List Int)×Int)→Option (LS (List Bool×List (List Int)×Int) (List (List Int))):=fun (done_2565,out_2566,t30_2567) =>
 if t30_2567 < n_2508 then
 (idx done_2565 t30_2567).bind fun (x_2605:Bool) =>
 if x_2605=true then
 some (.next (done_2565,out_2566,(IntKind.i64.wrap (t30_2567+1))))
 else
 (graph_visit r_2525 t30_2567).bind fun (r_2610:List Int) =>
 (LoopF (graph_Components_l3 r_2610) (done_2565,0)).bind (fun done_2626 =>
 if roomB (out_2566.length+1) 24=true then
 some (.next (done_2626,(out_2566++[r_2610]),(IntKind.i64.wrap (t30_2567+1))))
 else none)
 else
 some (.done out_2566)
noncomputable def graph_Components (n_2508:Int) (edges_2509:List Arr2_int):Option (List (List Int)×Int) :=
 (graph_Valid n_2508 edges_2509).bind fun (r_2512:Int) =>
 if (r_2512 != 0)=true then
 some ([],r_2512)
 else
 (graph_reversed edges_2509).bind fun (r_2521:List Arr2_int) =>
 (slices_Concat__2_int [edges_2509,r_2521]).bind fun (r_2523:List Arr2_int) =>
 (graph_neighbours n_2508 r_2523).bind fun (r_2525:List (List Int)) =>
 if 0≤n_2508 then
 if roomB (n_2508).toNat 1=true then
 (LoopF (graph_Components_l4 n_2508 r_2525) ((List.replicate (n_2508).toNat false),[],0)).bind (fun out_2602 =>
 some (out_2602,0))
 else none
 else none
noncomputable def cluster_Valid_l1 (n_2641:Int) (l_2642:List Pair):((List (Arr2_int×Bool))×Int)→Option (LS ((List (Arr2_int×Bool))×Int) ((Unit) ⊕ (Int))):=fun (seen_2670,t23_2671) =>
 if t23_2671 < (l_2642.length:Int) then
 (idx l_2642 t23_2671).bind fun (x_2688:Pair) =>
 if x_2688.I < 0 then
 some (.done (.inr 1))
 else
 if x_2688.I≥x_2688.K then
 some (.done (.inr 1))
 else
 if x_2688.K≥n_2641 then
 some (.done (.inr 1))
 else
 if x_2688.Weight < (-1000) then
 some (.done (.inr 1))
 else
 if x_2688.Weight > 1000 then
 some (.done (.inr 1))
 else
 if ((mget seen_2670 (Arr2_int.mk x_2688.I x_2688.K)).getD false)=true then
 some (.done (.inr 1))
 else
 some (.next ((mset seen_2670 (Arr2_int.mk x_2688.I x_2688.K) true),(IntKind.i64.wrap (t23_2671+1))))
 else
 some (.done (.inl ()))
noncomputable def cluster_Valid (n_2641:Int) (l_2642:List Pair):Option (Int) :=
 (show Option (Bool) from
 if n_2641 < 0 then
 some true
 else
 some (decide (n_2641 > 200))).bind (fun t9_2652 =>
 if t9_2652=true then
 some 7
 else
 if (l_2642.length:Int) > 20000 then
 some 3
 else
 (LoopF (cluster_Valid_l1 n_2641 l_2642) ([],0)).bind (fun o=>match o with
 | .inl () =>
 some 0
 | .inr r_2698 =>
 some r_2698))
noncomputable def cluster_matrix_l1 (n_2744:Int):(List (List Int)×Int)→Option (LS (List (List Int)×Int) (List (List Int))):=fun (w_2756,t13_2757) =>
 if t13_2757 < ((((List.replicate (n_2744).toNat ([]:List Int))).length:Nat):Int) then
 if 0≤n_2744 then
 if roomB (n_2744).toNat 8=true then
 (idx w_2756 t13_2757).bind fun (x_2769:List Int) =>
 some (.next ((w_2756.set t13_2757.toNat (List.replicate (n_2744).toNat 0)),(IntKind.i64.wrap (t13_2757+1))))
 else none
 else none
 else
 some (.done w_2756)
noncomputable def cluster_matrix_l2 (l_2745:List Pair):(List (List Int)×Int)→Option (LS (List (List Int)×Int) (List (List Int))):=fun (w_2790,t24_2791) =>
 if t24_2791 < (l_2745.length:Int) then
 (idx l_2745 t24_2791).bind fun (x_2814:Pair) =>
 (idx w_2790 x_2814.I).bind fun (x_2816:List Int) =>
 (idx w_2790 x_2814.K).bind fun (x_2818:List Int) =>
 (idx x_2816 x_2814.K).bind fun (x_2820:Int) =>
 (idx (w_2790.set x_2814.I.toNat (x_2816.set x_2814.K.toNat x_2814.Weight)) x_2814.K).bind fun (x_2822:List Int) =>
 (idx x_2822 x_2814.I).bind fun (x_2824:Int) =>
 if x_2814.I < ((x_2818.length:Nat):Int) then
 some (.next (((w_2790.set x_2814.I.toNat (x_2816.set x_2814.K.toNat x_2814.Weight)).set x_2814.K.toNat (x_2822.set x_2814.I.toNat x_2814.Weight)),(IntKind.i64.wrap (t24_2791+1))))
 else none
 else
 some (.done w_2790)
noncomputable def cluster_matrix (n_2744:Int) (l_2745:List Pair):Option (List (List Int)) :=
 if 0≤n_2744 then
 if roomB (n_2744).toNat 24=true then
 (LoopF (cluster_matrix_l1 n_2744) ((List.replicate (n_2744).toNat ([]:List Int)),0)).bind (fun w_2764 =>
 (LoopF (cluster_matrix_l2 l_2745) (w_2764,0)).bind (fun w_2809 =>
 some w_2809))
 else none
 else none
noncomputable def cluster_price (weight_2832:Int) (together_2833:Bool):Option (Int) :=
 if together_2833=true then
 some (if 0 > (IntKind.i64.wrap (0 - weight_2832)) then 0 else (IntKind.i64.wrap (0 - weight_2832)))
 else
 some (if 0 > weight_2832 then 0 else weight_2832)
noncomputable def cluster_Optimal_l1:Unit→Option (LS (Unit) (Unit)):=fun () =>
 some (.done ())
noncomputable def cluster_Optimal_l2 (r_2848:List (List Int)) (s_5443:List Int) (t45_5448:Int):(Int×Int)→Option (LS (Int×Int) (Int)):=fun (more_5690,t49_5691) =>
 if t49_5691 < 1 then
 (idx r_2848 t49_5691).bind fun (x_5704:List Int) =>
 (x_5704[1]?).bind fun (x_5706:Int) =>
 (idx s_5443 t49_5691).bind fun (x_5708:Int) =>
 (cluster_price x_5706 (x_5708 == t45_5448)).bind fun (r_5710:Int) =>
 some (.next ((IntKind.i64.wrap (more_5690+r_5710)),(IntKind.i64.wrap (t49_5691+1))))
 else
 some (.done more_5690)
noncomputable def cluster_Optimal_l3 (r_2848:List (List Int)) (s_5743:List Int) (t45_5748:Int):(Int×Int)→Option (LS (Int×Int) (Int)):=fun (more_5944,t49_5945) =>
 if t49_5945 < 2 then
 (idx r_2848 t49_5945).bind fun (x_5958:List Int) =>
 (x_5958[2]?).bind fun (x_5960:Int) =>
 (idx s_5743 t49_5945).bind fun (x_5962:Int) =>
 (cluster_price x_5960 (x_5962 == t45_5748)).bind fun (r_5964:Int) =>
 some (.next ((IntKind.i64.wrap (more_5944+r_5964)),(IntKind.i64.wrap (t49_5945+1))))
 else
 some (.done more_5944)
noncomputable def cluster_Optimal_l4 (r_2848:List (List Int)) (s_5997:List Int) (t45_6002:Int):(Int×Int)→Option (LS (Int×Int) (Int)):=fun (more_6152,t49_6153) =>
 if t49_6153 < 3 then
 (idx r_2848 t49_6153).bind fun (x_6166:List Int) =>
 (x_6166[3]?).bind fun (x_6168:Int) =>
 (idx s_5997 t49_6153).bind fun (x_6170:Int) =>
 (cluster_price x_6168 (x_6170 == t45_6002)).bind fun (r_6172:Int) =>
 some (.next ((IntKind.i64.wrap (more_6152+r_6172)),(IntKind.i64.wrap (t49_6153+1))))
 else
 some (.done more_6152)
noncomputable def cluster_Optimal_l5 (r_2848:List (List Int)) (s_6205:List Int) (t45_6210:Int):(Int×Int)→Option (LS (Int×Int) (Int)):=fun (more_6314,t49_6315) =>
 if t49_6315 < 4 then
 (idx r_2848 t49_6315).bind fun (x_6328:List Int) =>
 (x_6328[4]?).bind fun (x_6330:Int) =>
 (idx s_6205 t49_6315).bind fun (x_6332:Int) =>
 (cluster_price x_6330 (x_6332 == t45_6210)).bind fun (r_6334:Int) =>
 some (.next ((IntKind.i64.wrap (more_6314+r_6334)),(IntKind.i64.wrap (t49_6315+1))))
 else
 some (.done more_6314)
noncomputable def cluster_Optimal_l6 (r_2848:List (List Int)) (s_6367:List Int) (t45_6372:Int):(Int×Int)→Option (LS (Int×Int) (Int)):=fun (more_6430,t49_6431) =>
 if t49_6431 < 5 then
 (idx r_2848 t49_6431).bind fun (x_6444:List Int) =>
 (x_6444[5]?).bind fun (x_6446:Int) =>
 (idx s_6367 t49_6431).bind fun (x_6448:Int) =>
 (cluster_price x_6446 (x_6448 == t45_6372)).bind fun (r_6450:Int) =>
 some (.next ((IntKind.i64.wrap (more_6430+r_6450)),(IntKind.i64.wrap (t49_6431+1))))
 else
 some (.done more_6430)
noncomputable def cluster_Optimal_l8 (used_6461:Int):Unit→Option (LS (Unit) (Unit)):=fun () =>
 if (0:Int) < (IntKind.i64.wrap (used_6461+1)) then
 none
 else
 some (.done ())
noncomputable def cluster_Optimal_l9 (r_2848:List (List Int)) (used_6345:Int) (cost_6347:Int):(List Int×Bool×Int×List Int×Int×Int)→Option (LS (List Int×Bool×Int×List Int×Int×Int) (List Int×Bool×Int×List Int×Int)):=fun (s_6367,s_6368,s_6369,s_6370,s_6371,t45_6372) =>
 if t45_6372 < (IntKind.i64.wrap (used_6345+1)) then
 (LoopF (cluster_Optimal_l6 r_2848 s_6367 t45_6372) (0,0)).bind (fun more_6441 =>
 (s_6367[5]?).bind fun (x_6456:Int) =>
 (some (if (IntKind.i64.wrap (t45_6372+1)) > used_6345 then (IntKind.i64.wrap (t45_6372+1)) else used_6345)).bind fun (used_6461:Int) =>
 (some (IntKind.i64.wrap (cost_6347+more_6441))).bind fun (cost_6463:Int) =>
 (show Option ((Unit) ⊕ (Unit)) from
 if s_6368=true then
 if cost_6463≥s_6371 then
 some (.inr ())
 else
 some (.inl ())
 else
 some (.inl ())).bind (fun o=>match o with
 | .inl () =>
 if (6 == (r_2848.length:Int))=true then
 if (s_6367.set 5 t45_6372).length≤1000000000 then
 ((s_6367.set 5 t45_6372)[0]?).bind fun (x_6479:Int) =>
 (some ((s_6367.set 5 t45_6372).drop 1)).bind fun (l_6481:List Int) =>
 some (.next ((s_6367.set 5 t45_6372),true,x_6479,l_6481,cost_6463,(IntKind.i64.wrap (t45_6372+1))))
 else none
 else
 (LoopF (cluster_Optimal_l8 used_6461) ()).bind (fun () =>
 some (.next ((s_6367.set 5 t45_6372),s_6368,s_6369,s_6370,s_6371,(IntKind.i64.wrap (t45_6372+1)))))
 | .inr () =>
 some (.next ((s_6367.set 5 t45_6372),s_6368,s_6369,s_6370,s_6371,(IntKind.i64.wrap (t45_6372+1))))))
 else
 some (.done (s_6367,s_6368,s_6369,s_6370,s_6371))
noncomputable def cluster_Optimal_l10 (r_2848:List (List Int)) (used_6183:Int) (cost_6185:Int):(List Int×Bool×Int×List Int×Int×Int)→Option (LS (List Int×Bool×Int×List Int×Int×Int) (List Int×Bool×Int×List Int×Int)):=fun (s_6205,s_6206,s_6207,s_6208,s_6209,t45_6210) =>
 if t45_6210 < (IntKind.i64.wrap (used_6183+1)) then
 (LoopF (cluster_Optimal_l5 r_2848 s_6205 t45_6210) (0,0)).bind (fun more_6325 =>
 (s_6205[4]?).bind fun (x_6340:Int) =>
 (some (if (IntKind.i64.wrap (t45_6210+1)) > used_6183 then (IntKind.i64.wrap (t45_6210+1)) else used_6183)).bind fun (used_6345:Int) =>
 (some (IntKind.i64.wrap (cost_6185+more_6325))).bind fun (cost_6347:Int) =>
 (show Option ((Unit) ⊕ (Unit)) from
 if s_6206=true then
 if cost_6347≥s_6209 then
 some (.inr ())
 else
 some (.inl ())
 else
 some (.inl ())).bind (fun o=>match o with
 | .inl () =>
 if (5 == (r_2848.length:Int))=true then
 if (s_6205.set 4 t45_6210).length≤1000000000 then
 ((s_6205.set 4 t45_6210)[0]?).bind fun (x_6363:Int) =>
 (some ((s_6205.set 4 t45_6210).drop 1)).bind fun (l_6365:List Int) =>
 some (.next ((s_6205.set 4 t45_6210),true,x_6363,l_6365,cost_6347,(IntKind.i64.wrap (t45_6210+1))))
 else none
 else
 (LoopF (cluster_Optimal_l9 r_2848 used_6345 cost_6347) ((s_6205.set 4 t45_6210),s_6206,s_6207,s_6208,s_6209,0)).bind (fun (b_6423,b_6424,b_6425,b_6426,b_6427) =>
 if b_6423.length=((s_6205.set 4 t45_6210)).length then
 some (.next (b_6423,b_6424,b_6425,b_6426,b_6427,(IntKind.i64.wrap (t45_6210+1))))
 else none)
 | .inr () =>
 some (.next ((s_6205.set 4 t45_6210),s_6206,s_6207,s_6208,s_6209,(IntKind.i64.wrap (t45_6210+1))))))
 else
 some (.done (s_6205,s_6206,s_6207,s_6208,s_6209))
noncomputable def cluster_Optimal_l11 (r_2848:List (List Int)) (used_5975:Int) (cost_5977:Int):(List Int×Bool×Int×List Int×Int×Int)→Option (LS (List Int×Bool×Int×List Int×Int×Int) (List Int×Bool×Int×List Int×Int)):=fun (s_5997,s_5998,s_5999,s_6000,s_6001,t45_6002) =>
 if t45_6002 < (IntKind.i64.wrap (used_5975+1)) then
 (LoopF (cluster_Optimal_l4 r_2848 s_5997 t45_6002) (0,0)).bind (fun more_6163 =>
 (s_5997[3]?).bind fun (x_6178:Int) =>
 (some (if (IntKind.i64.wrap (t45_6002+1)) > used_5975 then (IntKind.i64.wrap (t45_6002+1)) else used_5975)).bind fun (used_6183:Int) =>
 (some (IntKind.i64.wrap (cost_5977+more_6163))).bind fun (cost_6185:Int) =>
 (show Option ((Unit) ⊕ (Unit)) from
 if s_5998=true then
 if cost_6185≥s_6001 then
 some (.inr ())
 else
 some (.inl ())
 else
 some (.inl ())).bind (fun o=>match o with
 | .inl () =>
 if (4 == (r_2848.length:Int))=true then
 if (s_5997.set 3 t45_6002).length≤1000000000 then
 ((s_5997.set 3 t45_6002)[0]?).bind fun (x_6201:Int) =>
 (some ((s_5997.set 3 t45_6002).drop 1)).bind fun (l_6203:List Int) =>
 some (.next ((s_5997.set 3 t45_6002),true,x_6201,l_6203,cost_6185,(IntKind.i64.wrap (t45_6002+1))))
 else none
 else
 (LoopF (cluster_Optimal_l10 r_2848 used_6183 cost_6185) ((s_5997.set 3 t45_6002),s_5998,s_5999,s_6000,s_6001,0)).bind (fun (b_6307,b_6308,b_6309,b_6310,b_6311) =>
 if b_6307.length=((s_5997.set 3 t45_6002)).length then
 some (.next (b_6307,b_6308,b_6309,b_6310,b_6311,(IntKind.i64.wrap (t45_6002+1))))
 else none)
 | .inr () =>
 some (.next ((s_5997.set 3 t45_6002),s_5998,s_5999,s_6000,s_6001,(IntKind.i64.wrap (t45_6002+1))))))
 else
 some (.done (s_5997,s_5998,s_5999,s_6000,s_6001))
noncomputable def cluster_Optimal_l12 (r_2848:List (List Int)) (used_5721:Int) (cost_5723:Int):(List Int×Bool×Int×List Int×Int×Int)→Option (LS (List Int×Bool×Int×List Int×Int×Int) (List Int×Bool×Int×List Int×Int)):=fun (s_5743,s_5744,s_5745,s_5746,s_5747,t45_5748) =>
 if t45_5748 < (IntKind.i64.wrap (used_5721+1)) then
 (LoopF (cluster_Optimal_l3 r_2848 s_5743 t45_5748) (0,0)).bind (fun more_5955 =>
 (s_5743[2]?).bind fun (x_5970:Int) =>
 (some (if (IntKind.i64.wrap (t45_5748+1)) > used_5721 then (IntKind.i64.wrap (t45_5748+1)) else used_5721)).bind fun (used_5975:Int) =>
 (some (IntKind.i64.wrap (cost_5723+more_5955))).bind fun (cost_5977:Int) =>
 (show Option ((Unit) ⊕ (Unit)) from
 if s_5744=true then
 if cost_5977≥s_5747 then
 some (.inr ())
 else
 some (.inl ())
 else
 some (.inl ())).bind (fun o=>match o with
 | .inl () =>
 if (3 == (r_2848.length:Int))=true then
 if (s_5743.set 2 t45_5748).length≤1000000000 then
 ((s_5743.set 2 t45_5748)[0]?).bind fun (x_5993:Int) =>
 (some ((s_5743.set 2 t45_5748).drop 1)).bind fun (l_5995:List Int) =>
 some (.next ((s_5743.set 2 t45_5748),true,x_5993,l_5995,cost_5977,(IntKind.i64.wrap (t45_5748+1))))
 else none
 else
 (LoopF (cluster_Optimal_l11 r_2848 used_5975 cost_5977) ((s_5743.set 2 t45_5748),s_5744,s_5745,s_5746,s_5747,0)).bind (fun (b_6145,b_6146,b_6147,b_6148,b_6149) =>
 if b_6145.length=((s_5743.set 2 t45_5748)).length then
 some (.next (b_6145,b_6146,b_6147,b_6148,b_6149,(IntKind.i64.wrap (t45_5748+1))))
 else none)
 | .inr () =>
 some (.next ((s_5743.set 2 t45_5748),s_5744,s_5745,s_5746,s_5747,(IntKind.i64.wrap (t45_5748+1))))))
 else
 some (.done (s_5743,s_5744,s_5745,s_5746,s_5747))
noncomputable def cluster_Optimal_l13 (r_2848:List (List Int)) (used_5423:Int):(List Int×Bool×Int×List Int×Int×Int)→Option (LS (List Int×Bool×Int×List Int×Int×Int) (List Int×Bool×Int×List Int×Int)):=fun (s_5443,s_5444,s_5445,s_5446,s_5447,t45_5448) =>
 if t45_5448 < (IntKind.i64.wrap (used_5423+1)) then
 (LoopF (cluster_Optimal_l2 r_2848 s_5443 t45_5448) (0,0)).bind (fun more_5701 =>
 (s_5443[1]?).bind fun (x_5716:Int) =>
 (some (if (IntKind.i64.wrap (t45_5448+1)) > used_5423 then (IntKind.i64.wrap (t45_5448+1)) else used_5423)).bind fun (used_5721:Int) =>
 (some (IntKind.i64.wrap (0+more_5701))).bind fun (cost_5723:Int) =>
 (show Option ((Unit) ⊕ (Unit)) from
 if s_5444=true then
 if cost_5723≥s_5447 then
 some (.inr ())
 else
 some (.inl ())
 else
 some (.inl ())).bind (fun o=>match o with
 | .inl () =>
 if (2 == (r_2848.length:Int))=true then
 if (s_5443.set 1 t45_5448).length≤1000000000 then
 ((s_5443.set 1 t45_5448)[0]?).bind fun (x_5739:Int) =>
 (some ((s_5443.set 1 t45_5448).drop 1)).bind fun (l_5741:List Int) =>
 some (.next ((s_5443.set 1 t45_5448),true,x_5739,l_5741,cost_5723,(IntKind.i64.wrap (t45_5448+1))))
 else none
 else
 (LoopF (cluster_Optimal_l12 r_2848 used_5721 cost_5723) ((s_5443.set 1 t45_5448),s_5444,s_5445,s_5446,s_5447,0)).bind (fun (b_5937,b_5938,b_5939,b_5940,b_5941) =>
 if b_5937.length=((s_5443.set 1 t45_5448)).length then
 some (.next (b_5937,b_5938,b_5939,b_5940,b_5941,(IntKind.i64.wrap (t45_5448+1))))
 else none)
 | .inr () =>
 some (.next ((s_5443.set 1 t45_5448),s_5444,s_5445,s_5446,s_5447,(IntKind.i64.wrap (t45_5448+1))))))
 else
 some (.done (s_5443,s_5444,s_5445,s_5446,s_5447))
noncomputable def cluster_Optimal_l14 (r_2848:List (List Int)):(List Int×Bool×Int×List Int×Int×Int)→Option (LS (List Int×Bool×Int×List Int×Int×Int) (List Int×Bool×Int×List Int×Int)):=fun (s_5135,s_5136,s_5137,s_5138,s_5139,t45_5140) =>
 if t45_5140 < 1 then
 (LoopF cluster_Optimal_l1 ()).bind (fun () =>
 (s_5135[0]?).bind fun (x_5418:Int) =>
 (some (if (IntKind.i64.wrap (t45_5140+1)) > 0 then (IntKind.i64.wrap (t45_5140+1)) else 0)).bind fun (used_5423:Int) =>
 (show Option ((Unit) ⊕ (Unit)) from
 if s_5136=true then
 if (0:Int)≥s_5139 then
 some (.inr ())
 else
 some (.inl ())
 else
 some (.inl ())).bind (fun o=>match o with
 | .inl () =>
 if (1 == (r_2848.length:Int))=true then
 if (s_5135.set 0 t45_5140).length≤1000000000 then
 ((s_5135.set 0 t45_5140)[0]?).bind fun (x_5439:Int) =>
 (some ((s_5135.set 0 t45_5140).drop 1)).bind fun (l_5441:List Int) =>
 some (.next ((s_5135.set 0 t45_5140),true,x_5439,l_5441,0,(IntKind.i64.wrap (t45_5140+1))))
 else none
 else
 (LoopF (cluster_Optimal_l13 r_2848 used_5423) ((s_5135.set 0 t45_5140),s_5136,s_5137,s_5138,s_5139,0)).bind (fun (b_5683,b_5684,b_5685,b_5686,b_5687) =>
 if b_5683.length=((s_5135.set 0 t45_5140)).length then
 some (.next (b_5683,b_5684,b_5685,b_5686,b_5687,(IntKind.i64.wrap (t45_5140+1))))
 else none)
 | .inr () =>
 some (.next ((s_5135.set 0 t45_5140),s_5136,s_5137,s_5138,s_5139,(IntKind.i64.wrap (t45_5140+1))))))
 else
 some (.done (s_5135,s_5136,s_5137,s_5138,s_5139))
noncomputable def cluster_Optimal (n_2836:Int) (l_2837:List Pair):Option (List Int×Int×Int) :=
 (cluster_Valid n_2836 l_2837).bind fun (r_2840:Int) =>
 if (r_2840 != 0)=true then
 some ([],0,r_2840)
 else
 if n_2836 > 10 then
 some ([],0,3)
 else
 (cluster_matrix n_2836 l_2837).bind fun (r_2848:List (List Int)) =>
 if 0≤n_2836 then
 if roomB (n_2836).toNat 8=true then
 (show Option (List Int×Bool×Int×List Int×Int) from
 (some ((List.replicate (n_2836).toNat 0):List Int)).bind fun (l_4148:List Int) =>
 if (0 == (r_2848.length:Int))=true then
 if l_4148.length≤1000000000 then
 (l_4148[0]?).bind fun (x_4161:Int) =>
 (some (l_4148.drop 1)).bind fun (l_4163:List Int) =>
 some (l_4148,true,x_4161,l_4163,0)
 else none
 else
 (LoopF (cluster_Optimal_l14 r_2848) (l_4148,false,0,[],0,0)).bind (fun (b_5407,b_5408,b_5409,b_5410,b_5411) =>
 if b_5407.length=l_4148.length then
 some (b_5407,b_5408,b_5409,b_5410,b_5411)
 else none)).bind (fun (s_4141,s_4142,s_4143,s_4144,s_4145) =>
 if s_4142=true then
 some ((s_4143 :: s_4144),s_4145,0)
 else
 some ([],s_4145,0))
 else none
 else none
noncomputable def cluster_Pivot (n_6590:Int) (l_6591:List Pair):Option (List Int×Int) :=
 (cluster_Valid n_6590 l_6591).bind fun (r_6594:Int) =>
 if (r_6594 != 0)=true then
 some ([],r_6594)
 else
 none
noncomputable def cluster_Normal_l1 (labels_6602:List Int):((List (Int×Int))×List Int×Int)→Option (LS ((List (Int×Int))×List Int×Int) (List Int)):=fun (numbers_6618,out_6619,t15_6620) =>
 if t15_6620 < (labels_6602.length:Int) then
 (idx labels_6602 t15_6620).bind fun (x_6637:Int) =>
 if (mget numbers_6618 x_6637).isSome=true then
 (idx out_6619 t15_6620).bind fun (x_6640:Int) =>
 some (.next (numbers_6618,(out_6619.set t15_6620.toNat ((mget numbers_6618 x_6637).getD 0)),(IntKind.i64.wrap (t15_6620+1))))
 else
 (idx out_6619 t15_6620).bind fun (x_6642:Int) =>
 some (.next ((mset numbers_6618 x_6637 (numbers_6618.length:Int)),(out_6619.set t15_6620.toNat (numbers_6618.length:Int)),(IntKind.i64.wrap (t15_6620+1))))
 else
 some (.done out_6619)
noncomputable def cluster_Normal (labels_6602:List Int):Option (List Int) :=
 if 0≤(labels_6602.length:Int) then
 if roomB labels_6602.length 8=true then
 (LoopF (cluster_Normal_l1 labels_6602) ([],(List.replicate labels_6602.length 0),0)).bind (fun out_6632 =>
 some out_6632)
 else none
 else none
noncomputable def linkage_divide_l3 (component_7353:List Int) (matching_7354:List (Arr2_int×Bool)) (t21_7388:Int):(List Pair×Int)→Option (LS (List Pair×Int) (List Pair)):=fun (pairs_7432,k_7433) =>
 if k_7433 < (component_7353.length:Int) then
 (idx component_7353 t21_7388).bind fun (x_7444:Int) =>
 (idx component_7353 k_7433).bind fun (x_7446:Int) =>
 if ((mget matching_7354 (Arr2_int.mk x_7444 x_7446)).getD false)=true then
 if roomB (pairs_7432.length+1) 24=true then
 some (.next ((pairs_7432++[(Pair.mk t21_7388 k_7433 1)]),(IntKind.i64.wrap (k_7433+1))))
 else none
 else
 if roomB (pairs_7432.length+1) 24=true then
 some (.next ((pairs_7432++[(Pair.mk t21_7388 k_7433 (-1))]),(IntKind.i64.wrap (k_7433+1))))
 else none
 else
 some (.done pairs_7432)
noncomputable def linkage_divide_l4 (component_7353:List Int) (matching_7354:List (Arr2_int×Bool)):(List Pair×Int)→Option (LS (List Pair×Int) (List Pair)):=fun (pairs_7387,t21_7388) =>
 if t21_7388 < (component_7353.length:Int) then
 (LoopF (linkage_divide_l3 component_7353 matching_7354 t21_7388) (pairs_7387,(IntKind.i64.wrap (t21_7388+1)))).bind (fun pairs_7442 =>
 some (.next (pairs_7442,(IntKind.i64.wrap (t21_7388+1)))))
 else
 some (.done pairs_7387)
noncomputable def linkage_divide_l6 (r_7517:List Int):(List (List Int)×Int)→Option (LS (List (List Int)×Int) (List (List Int))):=fun (out_7530,t9_7531) =>
 if t9_7531 < (r_7517.length:Int) then
 (idx r_7517 t9_7531).bind fun (x_7551:Int) =>
 if (x_7551 == ((out_7530.length:Nat):Int))=true then
 if roomB (out_7530.length+1) 24=true then
 (idx (out_7530++[[]]) x_7551).bind fun (x_7555:List Int) =>
 if roomB (x_7555.length+1) 8=true then
 some (.next (((out_7530++[[]]).set x_7551.toNat (x_7555++[t9_7531])),(IntKind.i64.wrap (t9_7531+1))))
 else none
 else none
 else
 (idx out_7530 x_7551).bind fun (x_7558:List Int) =>
 if roomB (x_7558.length+1) 8=true then
 some (.next ((out_7530.set x_7551.toNat (x_7558++[t9_7531])),(IntKind.i64.wrap (t9_7531+1))))
 else none
 else
 some (.done out_7530)
noncomputable def linkage_divide_l9 (component_7353:List Int) (t72_7618:Int) (x_7678:List Int):(List (List Int)×Int)→Option (LS (List (List Int)×Int) (List (List Int))):=fun (groups_7694,t78_7695) =>
 if t78_7695 < ((x_7678.length:Nat):Int) then
 (idx groups_7694 t72_7618).bind fun (x_7718:List Int) =>
 (idx x_7718 t78_7695).bind fun (x_7720:Int) =>
 if t78_7695 < ((x_7678.length:Nat):Int) then
 (idx component_7353 x_7720).bind fun (x_7723:Int) =>
 some (.next ((groups_7694.set t72_7618.toNat (x_7718.set t78_7695.toNat x_7723)),(IntKind.i64.wrap (t78_7695+1))))
 else none
 else
 some (.done groups_7694)
noncomputable def linkage_divide_l10 (component_7353:List Int) (out_7546:List (List Int)):(List (List Int)×Int)→Option (LS (List (List Int)×Int) (List (List Int))):=fun (groups_7617,t72_7618) =>
 if t72_7618 < ((out_7546.length:Nat):Int) then
 (idx groups_7617 t72_7618).bind fun (x_7678:List Int) =>
 (LoopF (linkage_divide_l9 component_7353 t72_7618 x_7678) (groups_7617,0)).bind (fun groups_7710 =>
 some (.next (groups_7710,(IntKind.i64.wrap (t72_7618+1)))))
 else
 some (.done groups_7617)
noncomputable def linkage_divide_l12 (r_7792:List Int):(List (List Int)×Int)→Option (LS (List (List Int)×Int) (List (List Int))):=fun (out_7805,t9_7806) =>
 if t9_7806 < (r_7792.length:Int) then
 (idx r_7792 t9_7806).bind fun (x_7826:Int) =>
 if (x_7826 == ((out_7805.length:Nat):Int))=true then
 if roomB (out_7805.length+1) 24=true then
 (idx (out_7805++[[]]) x_7826).bind fun (x_7830:List Int) =>
 if roomB (x_7830.length+1) 8=true then
 some (.next (((out_7805++[[]]).set x_7826.toNat (x_7830++[t9_7806])),(IntKind.i64.wrap (t9_7806+1))))
 else none
 else none
 else
 (idx out_7805 x_7826).bind fun (x_7833:List Int) =>
 if roomB (x_7833.length+1) 8=true then
 some (.next ((out_7805.set x_7826.toNat (x_7833++[t9_7806])),(IntKind.i64.wrap (t9_7806+1))))
 else none
 else
 some (.done out_7805)
noncomputable def linkage_divide_l15 (component_7353:List Int) (t72_7893:Int) (x_7953:List Int):(List (List Int)×Int)→Option (LS (List (List Int)×Int) (List (List Int))):=fun (groups_7969,t78_7970) =>
 if t78_7970 < ((x_7953.length:Nat):Int) then
 (idx groups_7969 t72_7893).bind fun (x_7993:List Int) =>
 (idx x_7993 t78_7970).bind fun (x_7995:Int) =>
 if t78_7970 < ((x_7953.length:Nat):Int) then
 (idx component_7353 x_7995).bind fun (x_7998:Int) =>
 some (.next ((groups_7969.set t72_7893.toNat (x_7993.set t78_7970.toNat x_7998)),(IntKind.i64.wrap (t78_7970+1))))
 else none
 else
 some (.done groups_7969)
noncomputable def linkage_divide_l16 (component_7353:List Int) (out_7821:List (List Int)):(List (List Int)×Int)→Option (LS (List (List Int)×Int) (List (List Int))):=fun (groups_7892,t72_7893) =>
 if t72_7893 < ((out_7821.length:Nat):Int) then
 (idx groups_7892 t72_7893).bind fun (x_7953:List Int) =>
 (LoopF (linkage_divide_l15 component_7353 t72_7893 x_7953) (groups_7892,0)).bind (fun groups_7985 =>
 some (.next (groups_7985,(IntKind.i64.wrap (t72_7893+1)))))
 else
 some (.done groups_7892)
noncomputable def linkage_divide (component_7353:List Int) (matching_7354:List (Arr2_int×Bool)):Option (List (List Int)×Int) :=
 (LoopF (linkage_divide_l4 component_7353 matching_7354) ([],0)).bind (fun pairs_7421 =>
 if (component_7353.length:Int)≤10 then
 (cluster_Optimal (component_7353.length:Int) pairs_7421).bind fun (r_7457:List Int×Int×Int) =>
 if (r_7457.2.2 != 0)=true then
 some ([],r_7457.2.2)
 else
 (cluster_Normal r_7457.1).bind fun (r_7517:List Int) =>
 (LoopF (linkage_divide_l6 r_7517) ([],0)).bind (fun out_7546 =>
 (LoopF (linkage_divide_l10 component_7353 out_7546) (out_7546,0)).bind (fun groups_7673 =>
 some (groups_7673,0)))
 else
 (cluster_Pivot (component_7353.length:Int) pairs_7421).bind fun (r_7732:List Int×Int) =>
 if (r_7732.2 != 0)=true then
 some ([],r_7732.2)
 else
 (cluster_Normal r_7732.1).bind fun (r_7792:List Int) =>
 (LoopF (linkage_divide_l12 r_7792) ([],0)).bind (fun out_7821 =>
 (LoopF (linkage_divide_l16 component_7353 out_7821) (out_7821,0)).bind (fun groups_7948 =>
 some (groups_7948,0))))
noncomputable def cmp_isNaN_int64 (x_8109:Int):Option (Bool) :=
 some (x_8109 != x_8109)
noncomputable def cmp_Compare_int64 (x_8111:Int) (y_8112:Int):Option (Int) :=
 (cmp_isNaN_int64 x_8111).bind fun (r_8115:Bool) =>
 (cmp_isNaN_int64 y_8112).bind fun (r_8119:Bool) =>
 if r_8115=true then
 if r_8119=true then
 some 0
 else
 some (-1)
 else
 if r_8119=true then
 some 1
 else
 if x_8111 < y_8112 then
 some (-1)
 else
 if x_8111 > y_8112 then
 some 1
 else
 some 0
noncomputable def slices_Compare_int64_l1 (s1_8127:List Int) (s2_8128:List Int):Int→Option (LS (Int) ((Unit) ⊕ (Int))):=fun t11_8143 =>
 if t11_8143 < (s1_8127.length:Int) then
 (idx s1_8127 t11_8143).bind fun (x_8162:Int) =>
 if t11_8143≥(s2_8128.length:Int) then
 some (.done (.inr 1))
 else
 (idx s2_8128 t11_8143).bind fun (x_8167:Int) =>
 (cmp_Compare_int64 x_8162 x_8167).bind fun (r_8169:Int) =>
 if (r_8169 != 0)=true then
 some (.done (.inr r_8169))
 else
 some (.next (IntKind.i64.wrap (t11_8143+1)))
 else
 some (.done (.inl ()))
noncomputable def slices_Compare_int64 (s1_8127:List Int) (s2_8128:List Int):Option (Int) :=
 (LoopF (slices_Compare_int64_l1 s1_8127 s2_8128) 0).bind (fun o=>match o with
 | .inl () =>
 if (s1_8127.length:Int) < (s2_8128.length:Int) then
 some (-1)
 else
 some 0
 | .inr r_8175 =>
 some r_8175)
noncomputable def linkage_Clusters_l1 (r_8188:List Arr2_int):((List (Arr2_int×Bool))×Int)→Option (LS ((List (Arr2_int×Bool))×Int) ((List (Arr2_int×Bool)))):=fun (matching_8198,t35_8199) =>
 if t35_8199 < (r_8188.length:Int) then
 (idx r_8188 t35_8199).bind fun (x_8211:Arr2_int) =>
 (some x_8211.x0).bind fun (k_8213:Int) =>
 (some x_8211.x1).bind fun (k_8215:Int) =>
 some (.next ((mset matching_8198 (Arr2_int.mk k_8213 k_8215) true),(IntKind.i64.wrap (t35_8199+1))))
 else
 some (.done matching_8198)
noncomputable def linkage_Clusters_l12 (t_8179:Table) (x_8602:List Int):(List Int×Int)→Option (LS (List Int×Int) (List Int)):=fun (ids_8613,t76_8614) =>
 if t76_8614 < (x_8602.length:Int) then
 (idx x_8602 t76_8614).bind fun (x_8629:Int) =>
 (idx t_8179.Rows x_8629).bind fun (x_8631:Row) =>
 if roomB (ids_8613.length+1) 8=true then
 some (.next ((ids_8613++[x_8631.ID]),(IntKind.i64.wrap (t76_8614+1))))
 else none
 else
 some (.done ids_8613)
noncomputable def linkage_Clusters_l13 (t_8179:Table) (r_8512:List (List Int)×Int):(List (List Int)×Int)→Option (LS (List (List Int)×Int) (List (List Int))):=fun (out_8555,t70_8556) =>
 if t70_8556 < (r_8512.1.length:Int) then
 (idx r_8512.1 t70_8556).bind fun (x_8602:List Int) =>
 (LoopF (linkage_Clusters_l12 t_8179 x_8602) ([],0)).bind (fun ids_8624 =>
 if roomB (out_8555.length+1) 24=true then
 some (.next ((out_8555++[ids_8624]),(IntKind.i64.wrap (t70_8556+1))))
 else none)
 else
 some (.done out_8555)
noncomputable def linkage_Clusters_l14 (t_8179:Table) (matching_8208:List (Arr2_int×Bool)) (r_8221:List (List Int)×Int):(List (List Int)×Int)→Option (LS (List (List Int)×Int) ((List (List Int)) ⊕ (List (List Int)×Int))):=fun (out_8364,t55_8365) =>
 if t55_8365 < (r_8221.1.length:Int) then
 (idx r_8221.1 t55_8365).bind fun (x_8508:List Int) =>
 (linkage_divide x_8508 matching_8208).bind fun (r_8512:List (List Int)×Int) =>
 if (r_8512.2 != 0)=true then
 some (.done (.inr ([],r_8512.2)))
 else
 (LoopF (linkage_Clusters_l13 t_8179 r_8512) (out_8364,0)).bind (fun out_8597 =>
 some (.next (out_8597,(IntKind.i64.wrap (t55_8365+1)))))
 else
 some (.done (.inl out_8364))
noncomputable def linkage_Clusters (t_8179:Table) (l_8180:Linkage):Option (List (List Int)×Int) :=
 (linkage_limits t_8179 l_8180).bind fun (r_8183:Int) =>
 if (r_8183 != 0)=true then
 some ([],r_8183)
 else
 (linkage_matches t_8179 l_8180).bind fun (r_8188:List Arr2_int) =>
 (LoopF (linkage_Clusters_l1 r_8188) ([],0)).bind (fun matching_8208 =>
 (graph_Components (t_8179.Rows.length:Int) r_8188).bind fun (r_8221:List (List Int)×Int) =>
 if (r_8221.2 != 0)=true then
 some ([],r_8221.2)
 else
 (LoopF (linkage_Clusters_l14 t_8179 matching_8208 r_8221) ([],0)).bind (fun o=>match o with
 | .inl out_8503 =>
 (srtF (fun (y_8645:List Int) (y_8646:List Int)=>slices_Compare_int64 y_8645 y_8646) out_8503).bind fun (l_8643:List (List Int)) =>
 some (l_8643,0)
 | .inr r_8648 =>
 some r_8648))
noncomputable def drossref03_IDs_l1 (a_8653:List Int) (b_8654:List Int):Int→Option (LS (Int) ((Unit) ⊕ (Bool))):=fun i_8662 =>
 if i_8662 < (a_8653.length:Int) then
 (idx a_8653 i_8662).bind fun (x_8670:Int) =>
 (idx b_8654 i_8662).bind fun (x_8672:Int) =>
 if (x_8670 != x_8672)=true then
 some (.done (.inr false))
 else
 some (.next (IntKind.i64.wrap (i_8662+1)))
 else
 some (.done (.inl ()))
noncomputable def drossref03_IDs (a_8653:List Int) (b_8654:List Int):Option (Bool) :=
 if ((a_8653.length:Int) != (b_8654.length:Int))=true then
 some false
 else
 (LoopF (drossref03_IDs_l1 a_8653 b_8654) 0).bind (fun o=>match o with
 | .inl () =>
 some true
 | .inr r_8677 =>
 some r_8677)
noncomputable def drossref55_Lists_l1 (a_8681:List (List Int)) (b_8682:List (List Int)):Int→Option (LS (Int) ((Unit) ⊕ (Bool))):=fun i_8692 =>
 if i_8692 < (a_8681.length:Int) then
 (idx a_8681 i_8692).bind fun (x_8702:List Int) =>
 (idx b_8682 i_8692).bind fun (x_8704:List Int) =>
 (drossref03_IDs x_8702 x_8704).bind fun (r_8706:Bool) =>
 if r_8706=true then
 some (.next (IntKind.i64.wrap (i_8692+1)))
 else
 some (.done (.inr false))
 else
 some (.done (.inl ()))
noncomputable def drossref55_Lists (a_8681:List (List Int)) (b_8682:List (List Int)):Option (Bool) :=
 if ((a_8681.length:Int) != (b_8682.length:Int))=true then
 some false
 else
 (LoopF (drossref55_Lists_l1 a_8681 b_8682) 0).bind (fun o=>match o with
 | .inl () =>
 some true
 | .inr r_8711 =>
 some r_8711)
noncomputable def linkage_places_l3 (t18_8758:Int) (x_8805:List Int):((List (Int×Int))×Int×Int)→Option (LS ((List (Int×Int))×Int×Int) (((List (Int×Int))) ⊕ ((List (Int×Int))×Int×Bool))):=fun (out_8816,before_8817,t28_8818) =>
 if t28_8818 < (x_8805.length:Int) then
 (idx x_8805 t28_8818).bind fun (x_8832:Int) =>
 if (mget out_8816 x_8832).isSome=true then
 some (.done (.inr ([],0,false)))
 else
 if x_8832≤before_8817 then
 some (.done (.inr ([],0,false)))
 else
 some (.next ((mset out_8816 x_8832 t18_8758),x_8832,(IntKind.i64.wrap (t28_8818+1))))
 else
 some (.done (.inl out_8816))
noncomputable def linkage_places_l4 (d_8715:List (List Int)):((List (Int×Int))×Int×Int)→Option (LS ((List (Int×Int))×Int×Int) (((List (Int×Int))×Int) ⊕ ((List (Int×Int))×Int×Bool))):=fun (out_8756,pairs_8757,t18_8758) =>
 if t18_8758 < (d_8715.length:Int) then
 (idx d_8715 t18_8758).bind fun (x_8805:List Int) =>
 if ((x_8805.length:Int) == 0)=true then
 some (.done (.inr ([],0,false)))
 else
 (LoopF (linkage_places_l3 t18_8758 x_8805) (out_8756,0,0)).bind (fun o=>match o with
 | .inl out_8827 =>
 some (.next (out_8827,(IntKind.i64.wrap (pairs_8757+(IntKind.i64.wrap (Int.tdiv (IntKind.i64.wrap ((x_8805.length:Int) * (IntKind.i64.wrap ((x_8805.length:Int) - 1)))) 2)))),(IntKind.i64.wrap (t18_8758+1))))
 | .inr r_8838 =>
 some (.done (.inr r_8838)))
 else
 some (.done (.inl (out_8756,pairs_8757)))
noncomputable def linkage_places (d_8715:List (List Int)):Option ((List (Int×Int))×Int×Bool) :=
 (LoopF (linkage_places_l4 d_8715) ([],0,0)).bind (fun o=>match o with
 | .inl (out_8799,pairs_8800) =>
 some (out_8799,pairs_8800,(decide ((out_8799.length:Int)≤1000)))
 | .inr r_8843 =>
 some r_8843)
noncomputable def linkage_Precision_l3 (r_8855:(List (Int×Int))×Int×Bool) (x_8935:List Int):(Int×(List (Int×Int))×Int)→Option (LS (Int×(List (Int×Int))×Int) (Int)):=fun (both_8944,count_8945,t51_8946) =>
 if t51_8946 < (x_8935.length:Int) then
 (idx x_8935 t51_8946).bind fun (x_8959:Int) =>
 if (mget r_8855.1 x_8959).isSome=true then
 some (.next ((IntKind.i64.wrap (both_8944+((mget count_8945 ((mget r_8855.1 x_8959).getD 0)).getD 0))),(mset count_8945 ((mget r_8855.1 x_8959).getD 0) (IntKind.i64.wrap (((mget count_8945 ((mget r_8855.1 x_8959).getD 0)).getD 0)+1))),(IntKind.i64.wrap (t51_8946+1))))
 else
 some (.next (both_8944,count_8945,(IntKind.i64.wrap (t51_8946+1))))
 else
 some (.done both_8944)
noncomputable def linkage_Precision_l4 (found_8847:List (List Int)) (r_8855:(List (Int×Int))×Int×Bool):(Int×Int)→Option (LS (Int×Int) (Int)):=fun (both_8894,t44_8895) =>
 if t44_8895 < (found_8847.length:Int) then
 (idx found_8847 t44_8895).bind fun (x_8935:List Int) =>
 (LoopF (linkage_Precision_l3 r_8855 x_8935) (both_8894,[],0)).bind (fun both_8954 =>
 some (.next (both_8954,(IntKind.i64.wrap (t44_8895+1)))))
 else
 some (.done both_8894)
noncomputable def linkage_Precision (found_8847:List (List Int)) (truth_8848:List (List Int)):Option (Ratio×Int) :=
 (linkage_places found_8847).bind fun (r_8851:(List (Int×Int))×Int×Bool) =>
 (linkage_places truth_8848).bind fun (r_8855:(List (Int×Int))×Int×Bool) =>
 if r_8851.2.2=true then
 if r_8855.2.2=true then
 if (r_8851.2.1 == 0)=true then
 some ((Ratio.mk 1 1),0)
 else
 (LoopF (linkage_Precision_l4 found_8847 r_8855) (0,0)).bind (fun both_8930 =>
 (ratio_Make both_8930 r_8851.2.1).bind fun (r_8967:Ratio×Int) =>
 some (r_8967.1,r_8967.2))
 else
 some ((Ratio.mk 0 0),1)
 else
 some ((Ratio.mk 0 0),1)
noncomputable def linkage_Recall (found_8971:List (List Int)) (truth_8972:List (List Int)):Option (Ratio×Int) :=
 (linkage_Precision truth_8972 found_8971).bind fun (r_8973:Ratio×Int) =>
 some (r_8973.1,r_8973.2)
noncomputable def drosslaw56_example_l1 (l_8976:List (List UInt8)):(List Row×Int)→Option (LS (List Row×Int) (List Row)):=fun (t_8983,t9_8984) =>
 if t9_8984 < 4 then
 (idx l_8976 t9_8984).bind fun (x_8997:List UInt8) =>
 if roomB (t_8983.length+1) 32=true then
 some (.next ((t_8983++[(Row.mk (IntKind.i64.wrap (t9_8984+1)) [(Value.mk 2 0 x_8997)])]),(IntKind.i64.wrap (t9_8984+1))))
 else none
 else
 some (.done t_8983)
noncomputable def drosslaw56_example:Option (Table×Linkage) :=
 (some ([[97,110,110],[97,110,110,101],[97,110,110,101,115],[98,111,98]]:List (List UInt8))).bind fun (l_8976:List (List UInt8)) =>
 (LoopF (drosslaw56_example_l1 l_8976) ([],0)).bind (fun t_8992 =>
 some ((Table.mk [112] [[110,97,109,101]] t_8992),(Linkage.mk [[(Similar.mk 0 2 1)]] [] [3])))
noncomputable def drossref04_zero (a_9004:Drossref04_Wide):Option (Bool) :=
 if (a_9004.Hi == 0)=true then
 some (a_9004.Lo == 0)
 else
 some false
noncomputable def drossref04_less (a_9007:Drossref04_Wide) (b_9008:Drossref04_Wide):Option (Bool) :=
 if a_9007.Hi < b_9008.Hi then
 some true
 else
 if (a_9007.Hi == b_9008.Hi)=true then
 some (decide (a_9007.Lo < b_9008.Lo))
 else
 some false
noncomputable def drossref04_plus (a_9012:Drossref04_Wide) (b_9013:Drossref04_Wide):Option (Drossref04_Wide) :=
 (addF a_9012.Lo b_9013.Lo 0).bind fun (r_9016:Int×Int) =>
 (addF a_9012.Hi b_9013.Hi r_9016.2).bind fun (r_9018:Int×Int) =>
 some (Drossref04_Wide.mk r_9018.1 r_9016.1)
noncomputable def drossref04_minus (a_9021:Drossref04_Wide) (b_9022:Drossref04_Wide):Option (Drossref04_Wide) :=
 (subF a_9021.Lo b_9022.Lo 0).bind fun (r_9025:Int×Int) =>
 (subF a_9021.Hi b_9022.Hi r_9025.2).bind fun (r_9027:Int×Int) =>
 some (Drossref04_Wide.mk r_9027.1 r_9025.1)
noncomputable def drossref04_parts_l1 (a_9030:Drossref04_Wide) (b_9031:Drossref04_Wide):(Drossref04_Wide×Drossref04_Wide×Int)→Option (LS (Drossref04_Wide×Drossref04_Wide×Int) (Drossref04_Wide×Drossref04_Wide)):=fun (q_9051,r_9052,i_9053) =>
 if i_9053≥0 then
 if i_9053≥64 then
 (drossref04_plus r_9052 r_9052).bind fun (r_9100:Drossref04_Wide) =>
 if (Int.tmod i_9053 64) < 0 then none else
 (drossref04_plus q_9051 q_9051).bind fun (r_9106:Drossref04_Wide) =>
 (drossref04_less (Drossref04_Wide.mk r_9100.Hi (IntKind.u64.wrap (r_9100.Lo+(Int.tmod (Int.fdiv a_9030.Hi (2 ^ (min ((Int.tmod i_9053 64)).toNat 64))) 2)))) b_9031).bind fun (r_9110:Bool) =>
 if r_9110=true then
 some (.next (r_9106,(Drossref04_Wide.mk r_9100.Hi (IntKind.u64.wrap (r_9100.Lo+(Int.tmod (Int.fdiv a_9030.Hi (2 ^ (min ((Int.tmod i_9053 64)).toNat 64))) 2)))),(IntKind.i64.wrap (i_9053 - 1))))
 else
 (drossref04_minus (Drossref04_Wide.mk r_9100.Hi (IntKind.u64.wrap (r_9100.Lo+(Int.tmod (Int.fdiv a_9030.Hi (2 ^ (min ((Int.tmod i_9053 64)).toNat 64))) 2)))) b_9031).bind fun (r_9115:Drossref04_Wide) =>
 some (.next ((Drossref04_Wide.mk r_9106.Hi (IntKind.u64.wrap (r_9106.Lo+1))),r_9115,(IntKind.i64.wrap (i_9053 - 1))))
 else
 (drossref04_plus r_9052 r_9052).bind fun (r_9119:Drossref04_Wide) =>
 if (Int.tmod i_9053 64) < 0 then none else
 (drossref04_plus q_9051 q_9051).bind fun (r_9125:Drossref04_Wide) =>
 (drossref04_less (Drossref04_Wide.mk r_9119.Hi (IntKind.u64.wrap (r_9119.Lo+(Int.tmod (Int.fdiv a_9030.Lo (2 ^ (min ((Int.tmod i_9053 64)).toNat 64))) 2)))) b_9031).bind fun (r_9129:Bool) =>
 if r_9129=true then
 some (.next (r_9125,(Drossref04_Wide.mk r_9119.Hi (IntKind.u64.wrap (r_9119.Lo+(Int.tmod (Int.fdiv a_9030.Lo (2 ^ (min ((Int.tmod i_9053 64)).toNat 64))) 2)))),(IntKind.i64.wrap (i_9053 - 1))))
 else
 (drossref04_minus (Drossref04_Wide.mk r_9119.Hi (IntKind.u64.wrap (r_9119.Lo+(Int.tmod (Int.fdiv a_9030.Lo (2 ^ (min ((Int.tmod i_9053 64)).toNat 64))) 2)))) b_9031).bind fun (r_9134:Drossref04_Wide) =>
 some (.next ((Drossref04_Wide.mk r_9125.Hi (IntKind.u64.wrap (r_9125.Lo+1))),r_9134,(IntKind.i64.wrap (i_9053 - 1))))
 else
 some (.done (q_9051,r_9052))
noncomputable def drossref04_parts (a_9030:Drossref04_Wide) (b_9031:Drossref04_Wide):Option (Drossref04_Wide×Drossref04_Wide) :=
 (LoopF (drossref04_parts_l1 a_9030 b_9031) ((Drossref04_Wide.mk 0 0),(Drossref04_Wide.mk 0 0),127)).bind (fun (q_9094,r_9095) =>
 some (q_9094,r_9095))
noncomputable def drossref04_build_l1:(Drossref04_Wide×Drossref04_Wide)→Option (LS (Drossref04_Wide×Drossref04_Wide) (Drossref04_Wide)):=fun (x_9148,y_9149) =>
 (drossref04_zero y_9149).bind fun (r_9156:Bool) =>
 if r_9156=true then
 some (.done x_9148)
 else
 (drossref04_parts x_9148 y_9149).bind fun (r_9159:Drossref04_Wide×Drossref04_Wide) =>
 some (.next (y_9149,r_9159.2))
noncomputable def drossref04_build (neg_9140:Bool) (num_9141:Drossref04_Wide) (den_9142:Drossref04_Wide):Option (Ratio×Int) :=
 (LoopF drossref04_build_l1 (num_9141,den_9142)).bind (fun x_9155 =>
 (drossref04_parts num_9141 x_9155).bind fun (r_9165:Drossref04_Wide×Drossref04_Wide) =>
 (drossref04_parts den_9142 x_9155).bind fun (r_9169:Drossref04_Wide×Drossref04_Wide) =>
 (drossref04_less (Drossref04_Wide.mk 0 9223372036854775807) r_9165.1).bind fun (r_9171:Bool) =>
 if r_9171=true then
 some ((Ratio.mk 0 0),7)
 else
 (drossref04_less (Drossref04_Wide.mk 0 9223372036854775807) r_9169.1).bind fun (r_9174:Bool) =>
 if r_9174=true then
 some ((Ratio.mk 0 0),7)
 else
 if neg_9140=true then
 some ((Ratio.mk (IntKind.i64.wrap (0 - (IntKind.i64.wrap r_9165.1.Lo))) (IntKind.i64.wrap r_9169.1.Lo)),0)
 else
 some ((Ratio.mk (IntKind.i64.wrap r_9165.1.Lo) (IntKind.i64.wrap r_9169.1.Lo)),0))
noncomputable def drossref04_size (n_9180:Int):Option (Drossref04_Wide) :=
 if n_9180 < 0 then
 some (Drossref04_Wide.mk 0 (IntKind.u64.wrap (0 - (IntKind.u64.wrap n_9180))))
 else
 some (Drossref04_Wide.mk 0 (IntKind.u64.wrap n_9180))
noncomputable def drossref04_Make (num_9183:Int) (den_9184:Int):Option (Ratio×Int) :=
 if (den_9184 == 0)=true then
 some ((Ratio.mk 0 0),8)
 else
 (drossref04_size num_9183).bind fun (r_9186:Drossref04_Wide) =>
 (drossref04_size den_9184).bind fun (r_9188:Drossref04_Wide) =>
 (drossref04_build (!((decide (num_9183 < 0)) == (decide (den_9184 < 0)))) r_9186 r_9188).bind fun (r_9190:Ratio×Int) =>
 some (r_9190.1,r_9190.2)
noncomputable def drossref04_Of (num_9193:Int) (den_9194:Int):Option (Ratio) :=
 (drossref04_Make num_9193 den_9194).bind fun (r_9197:Ratio×Int) =>
 if (r_9197.2 != 0)=true then
 some (Ratio.mk 0 1)
 else
 some r_9197.1
noncomputable def drosslaw56_awake:Option (Bool) :=
 (drosslaw56_example ).bind fun (r_9203:Table×Linkage) =>
 (linkage_Matches r_9203.1 r_9203.2).bind fun (r_9207:List Arr2_int64×Int) =>
 (linkage_Clusters r_9203.1 r_9203.2).bind fun (r_9211:List (List Int)×Int) =>
 (linkage_Precision r_9211.1 [[1,2],[3],[4]]).bind fun (r_9215:Ratio×Int) =>
 (linkage_Recall r_9211.1 [[1,2],[3],[4]]).bind fun (r_9219:Ratio×Int) =>
 if (r_9207.2 == 0)=true then
 (drossref56_SamePairs r_9207.1 [(Arr2_int64.mk 1 2),(Arr2_int64.mk 2 3)]).bind fun (r_9222:Bool) =>
 if r_9222=true then
 if (r_9211.2 == 0)=true then
 (drossref55_Lists r_9211.1 [[1,2,3],[4]]).bind fun (r_9226:Bool) =>
 if r_9226=true then
 if (r_9215.2 == 0)=true then
 (drossref04_Of 1 3).bind fun (r_9230:Ratio) =>
 if ((r_9215.1.Num == r_9230.Num) && (r_9215.1.Den == r_9230.Den))=true then
 if (r_9219.2 == 0)=true then
 (drossref04_Of 1 1).bind fun (r_9234:Ratio) =>
 some ((r_9219.1.Num == r_9234.Num) && (r_9219.1.Den == r_9234.Den))
 else
 some false
 else
 some false
 else
 some false
 else
 some false
 else
 some false
 else
 some false
 else
 some false
noncomputable def drossref01_Valid (v_9263:Value):Option (Bool) :=
 if (v_9263.Kind == 0)=true then
 if (v_9263.Num == 0)=true then
 some (v_9263.Str == [])
 else
 some false
 else
 if (v_9263.Kind == 1)=true then
 some (v_9263.Str == [])
 else
 if (v_9263.Kind == 2)=true then
 if (v_9263.Num == 0)=true then
 some (decide ((v_9263.Str.length:Int)≤200))
 else
 some false
 else
 if (v_9263.Kind == 3)=true then
 if v_9263.Num≥1 then
 some (v_9263.Str == [])
 else
 some false
 else
 some false
noncomputable def drossref52_limit (c_9272:Similar):Option (Bool) :=
 if (c_9272.Measure == 1)=true then
 some (c_9272.Limit == 0)
 else
 if (c_9272.Measure == 2)=true then
 if c_9272.Limit≥0 then
 some (decide (c_9272.Limit≤200))
 else
 some false
 else
 if (c_9272.Measure == 4)=true then
 if c_9272.Limit≥0 then
 some (decide (c_9272.Limit≤200))
 else
 some false
 else
 if (c_9272.Measure == 3)=true then
 if c_9272.Limit≥0 then
 some (decide (c_9272.Limit≤100))
 else
 some false
 else
 some false
noncomputable def drossref52_Error (x_9281:Row) (y_9282:Row) (c_9283:Similar):Option (Int) :=
 if c_9283.Attr < 0 then
 some 6
 else
 if c_9283.Attr≥(x_9281.Values.length:Int) then
 some 6
 else
 if c_9283.Attr≥(y_9282.Values.length:Int) then
 some 6
 else
 (idx x_9281.Values c_9283.Attr).bind fun (x_9287:Value) =>
 (drossref01_Valid x_9287).bind fun (r_9289:Bool) =>
 if r_9289=true then
 (idx y_9282.Values c_9283.Attr).bind fun (x_9294:Value) =>
 (drossref01_Valid x_9294).bind fun (r_9296:Bool) =>
 if r_9296=true then
 (drossref52_limit c_9283).bind fun (r_9299:Bool) =>
 if r_9299=true then
 some 0
 else
 some 1
 else
 some 1
 else
 some 1
noncomputable def drossref56_Of_l3 (n_9519:Int) (d_9520:Drossref56_Draft) (i_9582:Int):(List Similar×Int)→Option (LS (List Similar×Int) (List Similar)):=fun (r_9665,k_9666) =>
 (idx d_9520.Rules i_9582).bind fun (x_9684:List Drossref56_Test) =>
 if k_9666 < (x_9684.length:Int) then
 (idx x_9684 k_9666).bind fun (x_9689:Drossref56_Test) =>
 if n_9519=0 then none else
 if ((IntKind.i64.wrap (1+(IntKind.i64.wrap (Int.tmod x_9689.Measure 4)))) == 1)=true then
 if ((IntKind.i64.wrap (1+(IntKind.i64.wrap (Int.tmod x_9689.Measure 4)))) == 3)=true then
 if roomB (r_9665.length+1) 24=true then
 some (.next ((r_9665++[(Similar.mk (Int.tmod (IntKind.i64.wrap x_9689.Attr) n_9519) (IntKind.i64.wrap (1+(IntKind.i64.wrap (Int.tmod x_9689.Measure 4)))) (IntKind.i64.wrap (Int.tmod x_9689.Limit 101)))]),(IntKind.i64.wrap (k_9666+1))))
 else none
 else
 if roomB (r_9665.length+1) 24=true then
 some (.next ((r_9665++[(Similar.mk (Int.tmod (IntKind.i64.wrap x_9689.Attr) n_9519) (IntKind.i64.wrap (1+(IntKind.i64.wrap (Int.tmod x_9689.Measure 4)))) 0)]),(IntKind.i64.wrap (k_9666+1))))
 else none
 else
 if ((IntKind.i64.wrap (1+(IntKind.i64.wrap (Int.tmod x_9689.Measure 4)))) == 3)=true then
 if roomB (r_9665.length+1) 24=true then
 some (.next ((r_9665++[(Similar.mk (Int.tmod (IntKind.i64.wrap x_9689.Attr) n_9519) (IntKind.i64.wrap (1+(IntKind.i64.wrap (Int.tmod x_9689.Measure 4)))) (IntKind.i64.wrap (Int.tmod x_9689.Limit 101)))]),(IntKind.i64.wrap (k_9666+1))))
 else none
 else
 if roomB (r_9665.length+1) 24=true then
 some (.next ((r_9665++[(Similar.mk (Int.tmod (IntKind.i64.wrap x_9689.Attr) n_9519) (IntKind.i64.wrap (1+(IntKind.i64.wrap (Int.tmod x_9689.Measure 4)))) (IntKind.i64.wrap (Int.tmod x_9689.Limit 4)))]),(IntKind.i64.wrap (k_9666+1))))
 else none
 else
 some (.done r_9665)
noncomputable def drossref56_Of_l4 (n_9519:Int) (d_9520:Drossref56_Draft):(List (List Similar)×Int)→Option (LS (List (List Similar)×Int) ((List (List Similar)) ⊕ (Linkage×Bool))):=fun (l_9581,i_9582) =>
 if i_9582 < (d_9520.Rules.length:Int) then
 (idx d_9520.Rules i_9582).bind fun (x_9645:List Drossref56_Test) =>
 if (x_9645.length:Int) < 1 then
 some (.done (.inr ((Linkage.mk [] [] []),false)))
 else
 if (x_9645.length:Int) > 3 then
 some (.done (.inr ((Linkage.mk [] [] []),false)))
 else
 (LoopF (drossref56_Of_l3 n_9519 d_9520 i_9582) ([],0)).bind (fun r_9683 =>
 if roomB (l_9581.length+1) 24=true then
 some (.next ((l_9581++[r_9683]),(IntKind.i64.wrap (i_9582+1))))
 else none)
 else
 some (.done (.inl l_9581))
noncomputable def drossref56_Of_l5 (n_9519:Int) (d_9520:Drossref56_Draft):(List Int×List Int×Int)→Option (LS (List Int×List Int×Int) (List Int×List Int)):=fun (l_9717,l_9718,a_9719) =>
 if a_9719 < n_9519 then
 (show Option (Bool) from
 if a_9719 < 8 then
 if a_9719 < 0 then none else
 some ((Int.tmod (Int.fdiv d_9520.Block (2 ^ (min (a_9719).toNat 8))) 2) == 1)
 else
 some false).bind (fun t107_9749 =>
 if t107_9749=true then
 if roomB (l_9717.length+1) 8=true then
 if a_9719 < (d_9520.Survive.length:Int) then
 (idx d_9520.Survive a_9719).bind fun (x_9758:Int) =>
 if roomB (l_9718.length+1) 8=true then
 some (.next ((l_9717++[a_9719]),(l_9718++[(IntKind.i64.wrap (1+(IntKind.i64.wrap (Int.tmod x_9758 5))))]),(IntKind.i64.wrap (a_9719+1))))
 else none
 else
 if roomB (l_9718.length+1) 8=true then
 some (.next ((l_9717++[a_9719]),(l_9718++[1]),(IntKind.i64.wrap (a_9719+1))))
 else none
 else none
 else
 if a_9719 < (d_9520.Survive.length:Int) then
 (idx d_9520.Survive a_9719).bind fun (x_9763:Int) =>
 if roomB (l_9718.length+1) 8=true then
 some (.next (l_9717,(l_9718++[(IntKind.i64.wrap (1+(IntKind.i64.wrap (Int.tmod x_9763 5))))]),(IntKind.i64.wrap (a_9719+1))))
 else none
 else
 if roomB (l_9718.length+1) 8=true then
 some (.next (l_9717,(l_9718++[1]),(IntKind.i64.wrap (a_9719+1))))
 else none)
 else
 some (.done (l_9717,l_9718))
noncomputable def drossref56_Of (n_9519:Int) (d_9520:Drossref56_Draft):Option (Linkage×Bool) :=
 (LoopF (drossref56_Of_l4 n_9519 d_9520) ([],0)).bind (fun o=>match o with
 | .inl l_9643 =>
 (LoopF (drossref56_Of_l5 n_9519 d_9520) ([],[],0)).bind (fun (l_9743,l_9744) =>
 some ((Linkage.mk l_9643 l_9743 l_9744),(decide ((d_9520.Rules.length:Int)≤4))))
 | .inr r_9771 =>
 some r_9771)
noncomputable def drossref01_Of (code_9775:Int):Option (Value) :=
 if ((Int.tmod code_9775 12) == 0)=true then
 some (Value.mk 1 0 [])
 else
 if ((Int.tmod code_9775 12) == 1)=true then
 some (Value.mk 1 1 [])
 else
 if ((Int.tmod code_9775 12) == 2)=true then
 some (Value.mk 1 2 [])
 else
 if ((Int.tmod code_9775 12) == 3)=true then
 some (Value.mk 0 0 [])
 else
 if ((Int.tmod code_9775 12) == 4)=true then
 some (Value.mk 2 0 [97])
 else
 if ((Int.tmod code_9775 12) == 5)=true then
 some (Value.mk 2 0 [98])
 else
 if ((Int.tmod code_9775 12) == 6)=true then
 some (Value.mk 2 0 [])
 else
 if ((Int.tmod code_9775 12) == 7)=true then
 some (Value.mk 3 1 [])
 else
 if ((Int.tmod code_9775 12) == 8)=true then
 some (Value.mk 1 (-1) [])
 else
 if ((Int.tmod code_9775 12) == 9)=true then
 some (Value.mk 2 0 [97,98])
 else
 if ((Int.tmod code_9775 12) == 10)=true then
 some (Value.mk 3 2 [])
 else
 some (Value.mk 1 7 [])
noncomputable def drossref03_Wide_l3 (x_9788:Drossref03_Recipe) (n_9789:Int) (i_9851:Int):(List Value×Int)→Option (LS (List Value×Int) (List Value)):=fun (r_9918,k_9919) =>
 if k_9919 < n_9789 then
 (idx x_9788.Rows i_9851).bind fun (x_9938:List Int) =>
 if k_9919 < (x_9938.length:Int) then
 (idx x_9938 k_9919).bind fun (x_9941:Int) =>
 (drossref01_Of x_9941).bind fun (r_9943:Value) =>
 if roomB (r_9918.length+1) 32=true then
 some (.next ((r_9918++[r_9943]),(IntKind.i64.wrap (k_9919+1))))
 else none
 else
 (drossref01_Of 0).bind fun (r_9946:Value) =>
 if roomB (r_9918.length+1) 32=true then
 some (.next ((r_9918++[r_9946]),(IntKind.i64.wrap (k_9919+1))))
 else none
 else
 some (.done r_9918)
noncomputable def drossref03_Wide_l4 (x_9788:Drossref03_Recipe) (n_9789:Int):(List Row×Int)→Option (LS (List Row×Int) (List Row)):=fun (t_9850,i_9851) =>
 if i_9851 < (x_9788.Rows.length:Int) then
 (LoopF (drossref03_Wide_l3 x_9788 n_9789 i_9851) ([],0)).bind (fun r_9934 =>
 if roomB (t_9850.length+1) 32=true then
 some (.next ((t_9850++[(Row.mk (IntKind.i64.wrap (1+(IntKind.i64.wrap (i_9851 * (IntKind.i64.wrap (1+(IntKind.i64.wrap (Int.tmod x_9788.Gap 3)))))))) r_9934)]),(IntKind.i64.wrap (i_9851+1))))
 else none)
 else
 some (.done t_9850)
noncomputable def drossref03_Wide (x_9788:Drossref03_Recipe) (n_9789:Int):Option (Table) :=
 if (0:Int)≤n_9789 then
 if n_9789≤8 then
 (some ([[97],[98],[99],[100],[101],[102],[103],[104]]:List (List UInt8))).bind fun (l_9797:List (List UInt8)) =>
 if roomB ((l_9797.take n_9789.toNat).length) 16=true then
 (LoopF (drossref03_Wide_l4 x_9788 n_9789) ([],0)).bind (fun t_9902 =>
 some (Table.mk [114] (l_9797.take n_9789.toNat) t_9902))
 else none
 else none
 else none
noncomputable def drossref03_Table (x_9957:Drossref03_Recipe) (most_9958:Int):Option (Table×Bool) :=
 if (x_9957.Rows.length:Int) > most_9958 then
 some ((Table.mk [] [] []),false)
 else
 (drossref03_Wide x_9957 (IntKind.i64.wrap (Int.tmod x_9957.Attrs 6))).bind fun (r_9960:Table) =>
 some (r_9960,true)
noncomputable def drosslaw56_of (x_9963:Drossref03_Recipe) (d_9964:Drossref56_Draft):Option (Table×Linkage×Bool) :=
 (drossref03_Table x_9963 6).bind fun (r_9967:Table×Bool) =>
 (show Option (Bool) from
 if r_9967.2=true then
 some ((r_9967.1.Attrs.length:Int) == 0)
 else
 some true).bind (fun t22_9970 =>
 if t22_9970=true then
 some ((Table.mk [] [] []),(Linkage.mk [] [] []),false)
 else
 (drossref56_Of (r_9967.1.Attrs.length:Int) d_9964).bind fun (r_9977:Linkage×Bool) =>
 some (r_9967.1,r_9977.1,r_9977.2))
noncomputable def drossref01_sign (a_9981:Int) (b_9982:Int):Option (Int) :=
 if a_9981 < b_9982 then
 some (-1)
 else
 if a_9981 > b_9982 then
 some 1
 else
 some 0
noncomputable def drossref01_strings_l1 (a_9986:List UInt8) (b_9987:List UInt8):Int→Option (LS (Int) ((Unit) ⊕ (Int))):=fun i_10001 =>
 if i_10001 < (a_9986.length:Int) then
 if i_10001 < (b_9987.length:Int) then
 (idx a_9986 i_10001).bind fun (c_10021:UInt8) =>
 (idx b_9987 i_10001).bind fun (c_10023:UInt8) =>
 if (((c_10021.toNat:Nat):Int) != ((c_10023.toNat:Nat):Int))=true then
 (drossref01_sign (IntKind.i64.wrap ((c_10021.toNat:Nat):Int)) (IntKind.i64.wrap ((c_10023.toNat:Nat):Int))).bind fun (r_10026:Int) =>
 some (.done (.inr r_10026))
 else
 some (.next (IntKind.i64.wrap (i_10001+1)))
 else
 some (.done (.inl ()))
 else
 some (.done (.inl ()))
noncomputable def drossref01_strings (a_9986:List UInt8) (b_9987:List UInt8):Option (Int) :=
 (LoopF (drossref01_strings_l1 a_9986 b_9987) 0).bind (fun o=>match o with
 | .inl () =>
 (drossref01_sign (a_9986.length:Int) (b_9987.length:Int)).bind fun (r_10030:Int) =>
 some r_10030
 | .inr r_10032 =>
 some r_10032)
noncomputable def drossref01_Compare (a_10036:Value) (b_10037:Value):Option (Int) :=
 (drossref01_sign a_10036.Kind b_10037.Kind).bind fun (r_10038:Int) =>
 if (r_10038 != 0)=true then
 some r_10038
 else
 (drossref01_sign a_10036.Num b_10037.Num).bind fun (r_10041:Int) =>
 if (r_10041 != 0)=true then
 some r_10041
 else
 (drossref01_strings a_10036.Str b_10037.Str).bind fun (r_10044:Int) =>
 some r_10044
noncomputable def drossref52_Distance_l1 (b_10048:List UInt8):(List Int×Int)→Option (LS (List Int×Int) (List Int)):=fun (d_10051,k_10052) =>
 if k_10052≤(b_10048.length:Int) then
 if roomB (d_10051.length+1) 8=true then
 some (.next ((d_10051++[k_10052]),(IntKind.i64.wrap (k_10052+1))))
 else none
 else
 some (.done d_10051)
noncomputable def drossref52_Distance_l4 (a_10047:List UInt8) (b_10048:List UInt8) (d_10129:List Int) (i_10130:Int):(List Int×Int)→Option (LS (List Int×Int) (List Int)):=fun (next_10220,k_10221) =>
 if k_10221 < (b_10048.length:Int) then
 (idx d_10129 k_10221).bind fun (x_10246:Int) =>
 (idx a_10047 i_10130).bind fun (c_10248:UInt8) =>
 (idx b_10048 k_10221).bind fun (c_10250:UInt8) =>
 if (((c_10248.toNat:Nat):Int) != ((c_10250.toNat:Nat):Int))=true then
 (idx d_10129 (IntKind.i64.wrap (k_10221+1))).bind fun (x_10253:Int) =>
 (idx next_10220 k_10221).bind fun (x_10255:Int) =>
 if roomB (next_10220.length+1) 8=true then
 some (.next ((next_10220++[(if (IntKind.i64.wrap (x_10255+1)) < (if (IntKind.i64.wrap (x_10253+1)) < (IntKind.i64.wrap (x_10246+1)) then (IntKind.i64.wrap (x_10253+1)) else (IntKind.i64.wrap (x_10246+1))) then (IntKind.i64.wrap (x_10255+1)) else (if (IntKind.i64.wrap (x_10253+1)) < (IntKind.i64.wrap (x_10246+1)) then (IntKind.i64.wrap (x_10253+1)) else (IntKind.i64.wrap (x_10246+1))))]),(IntKind.i64.wrap (k_10221+1))))
 else none
 else
 (idx d_10129 (IntKind.i64.wrap (k_10221+1))).bind fun (x_10258:Int) =>
 (idx next_10220 k_10221).bind fun (x_10260:Int) =>
 if roomB (next_10220.length+1) 8=true then
 some (.next ((next_10220++[(if (IntKind.i64.wrap (x_10260+1)) < (if (IntKind.i64.wrap (x_10258+1)) < x_10246 then (IntKind.i64.wrap (x_10258+1)) else x_10246) then (IntKind.i64.wrap (x_10260+1)) else (if (IntKind.i64.wrap (x_10258+1)) < x_10246 then (IntKind.i64.wrap (x_10258+1)) else x_10246))]),(IntKind.i64.wrap (k_10221+1))))
 else none
 else
 some (.done next_10220)
noncomputable def drossref52_Distance_l5 (a_10047:List UInt8) (b_10048:List UInt8):(List Int×Int)→Option (LS (List Int×Int) (List Int)):=fun (d_10129,i_10130) =>
 if i_10130 < (a_10047.length:Int) then
 (LoopF (drossref52_Distance_l4 a_10047 b_10048 d_10129 i_10130) ([(IntKind.i64.wrap (i_10130+1))],0)).bind (fun next_10242 =>
 some (.next (next_10242,(IntKind.i64.wrap (i_10130+1)))))
 else
 some (.done d_10129)
noncomputable def drossref52_Distance (a_10047:List UInt8) (b_10048:List UInt8):Option (Int) :=
 (LoopF (drossref52_Distance_l1 b_10048) ([],0)).bind (fun d_10055 =>
 (LoopF (drossref52_Distance_l5 a_10047 b_10048) (d_10055,0)).bind (fun d_10198 =>
 (idx d_10198 (b_10048.length:Int)).bind fun (x_10268:Int) =>
 some x_10268))
noncomputable def drossref52_long (s_10273:List UInt8):Option (Bool) :=
 some (decide ((s_10273.length:Int) > 200))
noncomputable def drossref52_Grams_l1 (q_10276:Int):(List UInt8×Int)→Option (LS (List UInt8×Int) (List UInt8)):=fun (wide_10285,i_10286) =>
 if i_10286 < q_10276 then
 if 1+wide_10285.length≤9223372036854775807 then
 if (wide_10285.length+1)+1≤9223372036854775807 then
 some (.next ((([1]++wide_10285)++[1]),(IntKind.i64.wrap (i_10286+1))))
 else none
 else none
 else
 some (.done wide_10285)
noncomputable def drossref52_Grams_l4:(List (List UInt8)×Int)→Option (LS (List (List UInt8)×Int) (List (List UInt8))):=fun (out_10423,k_10424) =>
 if k_10424 > 0 then
 (idx out_10423 k_10424).bind fun (x_10441:List UInt8) =>
 (idx out_10423 (IntKind.i64.wrap (k_10424 - 1))).bind fun (x_10445:List UInt8) =>
 if (Op.bytesLess x_10441 x_10445)=true then
 (idx (out_10423.set k_10424.toNat x_10445) (IntKind.i64.wrap (k_10424 - 1))).bind fun (x_10448:List UInt8) =>
 some (.next (((out_10423.set k_10424.toNat x_10445).set (IntKind.i64.wrap (k_10424 - 1)).toNat x_10441),(IntKind.i64.wrap (k_10424 - 1))))
 else
 some (.done out_10423)
 else
 some (.done out_10423)
noncomputable def drossref52_Grams_l5 (s_10275:List UInt8) (q_10276:Int) (wide_10290:List UInt8):(List (List UInt8)×Int)→Option (LS (List (List UInt8)×Int) (List (List UInt8))):=fun (out_10346,i_10347) =>
 if (IntKind.i64.wrap (i_10347+q_10276))≤(wide_10290.length:Int) then
 if i_10347 < (IntKind.i64.wrap ((IntKind.i64.wrap ((s_10275.length:Int)+q_10276)) - 1)) then
 if 0≤i_10347 then
 if i_10347≤(IntKind.i64.wrap (i_10347+q_10276)) then
 if (IntKind.i64.wrap (i_10347+q_10276))≤(wide_10290.length:Int) then
 if roomB (out_10346.length+1) 16=true then
 (LoopF drossref52_Grams_l4 ((out_10346++[((wide_10290.drop i_10347.toNat).take ((IntKind.i64.wrap (i_10347+q_10276)).toNat - i_10347.toNat))]),(IntKind.i64.wrap ((((out_10346.length+1):Nat):Int) - 1)))).bind (fun out_10437 =>
 some (.next (out_10437,(IntKind.i64.wrap (i_10347+1)))))
 else none
 else none
 else none
 else none
 else
 some (.done out_10346)
 else
 some (.done out_10346)
noncomputable def drossref52_Grams (s_10275:List UInt8) (q_10276:Int):Option (List (List UInt8)×Int) :=
 (drossref52_long s_10275).bind fun (r_10277:Bool) =>
 if r_10277=true then
 some ([],3)
 else
 if q_10276 < 1 then
 some ([],7)
 else
 if q_10276 > 4 then
 some ([],7)
 else
 (LoopF (drossref52_Grams_l1 q_10276) (s_10275,1)).bind (fun wide_10290 =>
 (LoopF (drossref52_Grams_l5 s_10275 q_10276 wide_10290) ([],0)).bind (fun out_10400 =>
 some (out_10400,0)))
noncomputable def drossref52_Shared_l3 (a_10458:List (List UInt8)) (b_10459:List (List UInt8)) (i_10521:Int):Int→Option (LS (Int) (Int)):=fun k_10593 =>
 if k_10593 < (b_10459.length:Int) then
 (idx b_10459 k_10593).bind fun (x_10608:List UInt8) =>
 (idx a_10458 i_10521).bind fun (x_10612:List UInt8) =>
 if (Op.bytesLess x_10608 x_10612)=true then
 some (.next (IntKind.i64.wrap (k_10593+1)))
 else
 some (.done k_10593)
 else
 some (.done k_10593)
noncomputable def drossref52_Shared_l4 (a_10458:List (List UInt8)) (b_10459:List (List UInt8)):(Int×Int×Int)→Option (LS (Int×Int×Int) (Int)):=fun (n_10519,k_10520,i_10521) =>
 if i_10521 < (a_10458.length:Int) then
 (LoopF (drossref52_Shared_l3 a_10458 b_10459 i_10521) k_10520).bind (fun k_10604 =>
 (show Option (Bool) from
 if k_10604 < (b_10459.length:Int) then
 (idx b_10459 k_10604).bind fun (x_10632:List UInt8) =>
 (idx a_10458 i_10521).bind fun (x_10636:List UInt8) =>
 some (x_10632 == x_10636)
 else
 some false).bind (fun t45_10626 =>
 if t45_10626=true then
 some (.next ((IntKind.i64.wrap (n_10519+1)),(IntKind.i64.wrap (k_10604+1)),(IntKind.i64.wrap (i_10521+1))))
 else
 some (.next (n_10519,k_10604,(IntKind.i64.wrap (i_10521+1))))))
 else
 some (.done n_10519)
noncomputable def drossref52_Shared (a_10458:List (List UInt8)) (b_10459:List (List UInt8)):Option (Int) :=
 (LoopF (drossref52_Shared_l4 a_10458 b_10459) (0,0,0)).bind (fun n_10581 =>
 some n_10581)
noncomputable def drossref52_Common (a_10645:List UInt8) (b_10646:List UInt8) (q_10647:Int):Option (Ratio×Int) :=
 (drossref52_long a_10645).bind fun (r_10648:Bool) =>
 if r_10648=true then
 some ((Ratio.mk 0 0),3)
 else
 (drossref52_long b_10646).bind fun (r_10651:Bool) =>
 if r_10651=true then
 some ((Ratio.mk 0 0),3)
 else
 (drossref52_Grams a_10645 q_10647).bind fun (r_10656:List (List UInt8)×Int) =>
 (drossref52_Grams b_10646 q_10647).bind fun (r_10660:List (List UInt8)×Int) =>
 if (r_10656.2 != 0)=true then
 some ((Ratio.mk 0 0),r_10656.2)
 else
 if ((IntKind.i64.wrap ((r_10656.1.length:Int)+(r_10660.1.length:Int))) == 0)=true then
 (drossref04_Of 1 1).bind fun (r_10664:Ratio) =>
 some (r_10664,0)
 else
 (drossref52_Shared r_10656.1 r_10660.1).bind fun (r_10666:Int) =>
 (drossref04_Of (IntKind.i64.wrap (2 * r_10666)) (IntKind.i64.wrap ((r_10656.1.length:Int)+(r_10660.1.length:Int)))).bind fun (r_10668:Ratio) =>
 some (r_10668,0)
noncomputable def drossref52_head (s_10671:List UInt8) (n_10672:Int):Option (List UInt8) :=
 if (0:Int)≤(if (s_10671.length:Int) < n_10672 then (s_10671.length:Int) else n_10672) then
 if (if (s_10671.length:Int) < n_10672 then (s_10671.length:Int) else n_10672)≤(s_10671.length:Int) then
 some (s_10671.take ((if (s_10671.length:Int) < n_10672 then (s_10671.length:Int) else n_10672).toNat))
 else none
 else none
noncomputable def drossref52_Match (x_10676:Row) (y_10677:Row) (c_10678:Similar):Option (Bool×Int) :=
 (drossref52_Error x_10676 y_10677 c_10678).bind fun (r_10681:Int) =>
 if (r_10681 != 0)=true then
 some (false,r_10681)
 else
 (idx x_10676.Values c_10678.Attr).bind fun (x_10688:Value) =>
 (idx y_10677.Values c_10678.Attr).bind fun (x_10690:Value) =>
 (show Option (Bool) from
 if (x_10688.Kind != 2)=true then
 some true
 else
 if (x_10690.Kind != 2)=true then
 some true
 else
 some (c_10678.Measure == 1)).bind (fun t44_10694 =>
 if t44_10694=true then
 (drossref01_Compare x_10688 x_10690).bind fun (r_10700:Int) =>
 some ((r_10700 == 0),0)
 else
 if (c_10678.Measure == 2)=true then
 (drossref52_Distance x_10688.Str x_10690.Str).bind fun (r_10703:Int) =>
 some ((decide (r_10703≤c_10678.Limit)),0)
 else
 if (c_10678.Measure == 3)=true then
 (drossref52_Common x_10688.Str x_10690.Str 2).bind fun (r_10708:Ratio×Int) =>
 some ((decide ((IntKind.i64.wrap (100 * r_10708.1.Num))≥(IntKind.i64.wrap (c_10678.Limit * r_10708.1.Den)))),0)
 else
 (drossref52_head x_10688.Str c_10678.Limit).bind fun (r_10710:List UInt8) =>
 (drossref52_head x_10690.Str c_10678.Limit).bind fun (r_10712:List UInt8) =>
 some ((r_10710 == r_10712),0))
noncomputable def drossref56_First_l3 (x_10716:Row) (y_10717:Row) (l_10718:Linkage) (i_10762:Int):(Bool×Int)→Option (LS (Bool×Int) (Bool)):=fun (all_10818,k_10819) =>
 (idx l_10718.Rules i_10762).bind fun (x_10833:List Similar) =>
 if k_10819 < (x_10833.length:Int) then
 (idx x_10833 k_10819).bind fun (x_10840:Similar) =>
 (drossref52_Match x_10716 y_10717 x_10840).bind fun (r_10842:Bool×Int) =>
 if all_10818=true then
 some (.next (r_10842.1,(IntKind.i64.wrap (k_10819+1))))
 else
 some (.next (false,(IntKind.i64.wrap (k_10819+1))))
 else
 some (.done all_10818)
noncomputable def drossref56_First_l4 (x_10716:Row) (y_10717:Row) (l_10718:Linkage):Int→Option (LS (Int) ((Unit) ⊕ (Int))):=fun i_10762 =>
 if i_10762 < (l_10718.Rules.length:Int) then
 (LoopF (drossref56_First_l3 x_10716 y_10717 l_10718 i_10762) (true,0)).bind (fun all_10832 =>
 if all_10832=true then
 some (.done (.inr i_10762))
 else
 some (.next (IntKind.i64.wrap (i_10762+1))))
 else
 some (.done (.inl ()))
noncomputable def drossref56_First (x_10716:Row) (y_10717:Row) (l_10718:Linkage):Option (Int) :=
 (LoopF (drossref56_First_l4 x_10716 y_10717 l_10718) 0).bind (fun o=>match o with
 | .inl () =>
 some (-1)
 | .inr r_10851 =>
 some r_10851)
noncomputable def drossref01_Lists_l1 (a_10855:List Value) (b_10856:List Value):Int→Option (LS (Int) ((Unit) ⊕ (Int))):=fun i_10866 =>
 if i_10866 < (a_10855.length:Int) then
 if i_10866 < (b_10856.length:Int) then
 (idx a_10855 i_10866).bind fun (x_10878:Value) =>
 (idx b_10856 i_10866).bind fun (x_10880:Value) =>
 (drossref01_Compare x_10878 x_10880).bind fun (r_10882:Int) =>
 if (r_10882 != 0)=true then
 some (.done (.inr r_10882))
 else
 some (.next (IntKind.i64.wrap (i_10866+1)))
 else
 some (.done (.inl ()))
 else
 some (.done (.inl ()))
noncomputable def drossref01_Lists (a_10855:List Value) (b_10856:List Value):Option (Int) :=
 (LoopF (drossref01_Lists_l1 a_10855 b_10856) 0).bind (fun o=>match o with
 | .inl () =>
 (drossref01_sign (a_10855.length:Int) (b_10856.length:Int)).bind fun (r_10887:Int) =>
 some r_10887
 | .inr r_10889 =>
 some r_10889)
noncomputable def drossref01_Same (a_10893:List Value) (b_10894:List Value):Option (Bool) :=
 (drossref01_Lists a_10893 b_10894).bind fun (r_10895:Int) =>
 some (r_10895 == 0)
noncomputable def drossref02_Has (s_10898:Int) (i_10899:Int):Option (Bool) :=
 if i_10899≥0 then
 if i_10899 < 32 then
 if i_10899 < 0 then none else
 some ((IntKind.u32.wrap ((BitVec.ofInt 32 (Int.fdiv s_10898 (2 ^ (min (i_10899).toNat 32))) &&& (1#32)).toNat:Int)) == 1)
 else
 some false
 else
 some false
noncomputable def drossref03_Values_l1 (r_10905:Row) (s_10906:Int):(List Value×Int)→Option (LS (List Value×Int) (List Value)):=fun (out_10916,i_10917) =>
 if i_10917 < (r_10905.Values.length:Int) then
 (drossref02_Has s_10906 i_10917).bind fun (r_10931:Bool) =>
 if r_10931=true then
 (idx r_10905.Values i_10917).bind fun (x_10934:Value) =>
 if roomB (out_10916.length+1) 32=true then
 some (.next ((out_10916++[x_10934]),(IntKind.i64.wrap (i_10917+1))))
 else none
 else
 some (.next (out_10916,(IntKind.i64.wrap (i_10917+1))))
 else
 some (.done out_10916)
noncomputable def drossref03_Values (r_10905:Row) (s_10906:Int):Option (List Value) :=
 (LoopF (drossref03_Values_l1 r_10905 s_10906) ([],0)).bind (fun out_10927 =>
 some out_10927)
noncomputable def drossref03_Agree (a_10941:Row) (b_10942:Row) (s_10943:Int):Option (Bool) :=
 (drossref03_Values a_10941 s_10943).bind fun (r_10944:List Value) =>
 (drossref03_Values b_10942 s_10943).bind fun (r_10946:List Value) =>
 (drossref01_Same r_10944 r_10946).bind fun (r_10948:Bool) =>
 some r_10948
noncomputable def drossref56_compared_l1 (x_10951:Row) (y_10952:Row) (l_10953:Linkage):Int→Option (LS (Int) ((Unit) ⊕ (Bool))):=fun i_10962 =>
 if i_10962 < (l_10953.Block.length:Int) then
 (idx l_10953.Block i_10962).bind fun (x_10971:Int) =>
 if x_10971 < 0 then none else
 (drossref03_Agree x_10951 y_10952 (IntKind.u32.wrap (1 * 2 ^ (min (x_10971).toNat 32)))).bind fun (r_10974:Bool) =>
 if r_10974=true then
 some (.done (.inr true))
 else
 some (.next (IntKind.i64.wrap (i_10962+1)))
 else
 some (.done (.inl ()))
noncomputable def drossref56_compared (x_10951:Row) (y_10952:Row) (l_10953:Linkage):Option (Bool) :=
 if ((l_10953.Block.length:Int) == 0)=true then
 some true
 else
 (LoopF (drossref56_compared_l1 x_10951 y_10952 l_10953) 0).bind (fun o=>match o with
 | .inl () =>
 some false
 | .inr r_10979 =>
 some r_10979)
noncomputable def drossref56_match (x_10983:Row) (y_10984:Row) (l_10985:Linkage):Option (Bool) :=
 if (x_10983.ID != y_10984.ID)=true then
 (drossref56_compared x_10983 y_10984 l_10985).bind fun (r_10987:Bool) =>
 if r_10987=true then
 (drossref56_First x_10983 y_10984 l_10985).bind fun (r_10990:Int) =>
 some (decide (r_10990≥0))
 else
 some false
 else
 some false
noncomputable def drossref56_Matches_l3 (t_10993:Table) (l_10994:Linkage) (i_11048:Int):(List Arr2_int64×Int)→Option (LS (List Arr2_int64×Int) (List Arr2_int64)):=fun (out_11118,k_11119) =>
 if k_11119 < (t_10993.Rows.length:Int) then
 (idx t_10993.Rows i_11048).bind fun (x_11143:Row) =>
 (idx t_10993.Rows k_11119).bind fun (x_11145:Row) =>
 (drossref56_match x_11143 x_11145 l_10994).bind fun (r_11147:Bool) =>
 if r_11147=true then
 if roomB (out_11118.length+1) 16=true then
 some (.next ((out_11118++[(Arr2_int64.mk x_11143.ID x_11145.ID)]),(IntKind.i64.wrap (k_11119+1))))
 else none
 else
 some (.next (out_11118,(IntKind.i64.wrap (k_11119+1))))
 else
 some (.done out_11118)
noncomputable def drossref56_Matches_l4 (t_10993:Table) (l_10994:Linkage):(List Arr2_int64×Int)→Option (LS (List Arr2_int64×Int) (List Arr2_int64)):=fun (out_11047,i_11048) =>
 if i_11048 < (t_10993.Rows.length:Int) then
 (LoopF (drossref56_Matches_l3 t_10993 l_10994 i_11048) (out_11047,(IntKind.i64.wrap (i_11048+1)))).bind (fun out_11135 =>
 some (.next (out_11135,(IntKind.i64.wrap (i_11048+1)))))
 else
 some (.done out_11047)
noncomputable def drossref56_Matches (t_10993:Table) (l_10994:Linkage):Option (List Arr2_int64) :=
 (LoopF (drossref56_Matches_l4 t_10993 l_10994) ([],0)).bind (fun out_11101 =>
 some out_11101)
noncomputable def drosslaw56_LinkageMatches (x_11158:Drossref03_Recipe) (d_11159:Drossref56_Draft):Option (Bool) :=
 (drosslaw56_of x_11158 d_11159).bind fun (r_11162:Table×Linkage×Bool) =>
 (show Option (Bool) from
 (drosslaw56_awake ).bind fun (r_11170:Bool) =>
 if r_11170=true then
 some (!r_11162.2.2)
 else
 some true).bind (fun t22_11167 =>
 if t22_11167=true then
 (drosslaw56_awake ).bind fun (r_11174:Bool) =>
 some r_11174
 else
 (linkage_Matches r_11162.1 r_11162.2.1).bind fun (r_11178:List Arr2_int64×Int) =>
 if (r_11178.2 == 0)=true then
 (drossref56_Matches r_11162.1 r_11162.2.1).bind fun (r_11181:List Arr2_int64) =>
 (drossref56_SamePairs r_11178.1 r_11181).bind fun (r_11183:Bool) =>
 some r_11183
 else
 some false)
noncomputable def drossref54_Groups_l1 (r_14242:List Int):(List (List Int)×Int)→Option (LS (List (List Int)×Int) (List (List Int))):=fun (out_14252,i_14253) =>
 if i_14253 < (r_14242.length:Int) then
 (idx r_14242 i_14253).bind fun (x_14267:Int) =>
 if (x_14267 == ((out_14252.length:Nat):Int))=true then
 if roomB (out_14252.length+1) 24=true then
 (idx (out_14252++[[]]) x_14267).bind fun (x_14271:List Int) =>
 if roomB (x_14271.length+1) 8=true then
 some (.next (((out_14252++[[]]).set x_14267.toNat (x_14271++[i_14253])),(IntKind.i64.wrap (i_14253+1))))
 else none
 else none
 else
 (idx out_14252 x_14267).bind fun (x_14274:List Int) =>
 if roomB (x_14274.length+1) 8=true then
 some (.next ((out_14252.set x_14267.toNat (x_14274++[i_14253])),(IntKind.i64.wrap (i_14253+1))))
 else none
 else
 some (.done out_14252)
noncomputable def drossref55_Table_l4:(List (List Int)×Int)→Option (LS (List (List Int)×Int) (List (List Int))):=fun (l_18955,k_18956) =>
 if k_18956 > 0 then
 (idx l_18955 k_18956).bind fun (x_18981:List Int) =>
 (x_18981[0]?).bind fun (x_18985:Int) =>
 (idx l_18955 (IntKind.i64.wrap (k_18956 - 1))).bind fun (x_18989:List Int) =>
 (x_18989[0]?).bind fun (x_18993:Int) =>
 if x_18985 < x_18993 then
 (idx (l_18955.set k_18956.toNat x_18989) (IntKind.i64.wrap (k_18956 - 1))).bind fun (x_18996:List Int) =>
 some (.next (((l_18955.set k_18956.toNat x_18989).set (IntKind.i64.wrap (k_18956 - 1)).toNat x_18981),(IntKind.i64.wrap (k_18956 - 1))))
 else
 some (.done l_18955)
 else
 some (.done l_18955)
noncomputable def drossref55_Table_l5:(List (List Int)×Int)→Option (LS (List (List Int)×Int) (List (List Int))):=fun (l_18864,i_18865) =>
 if i_18865 < ((l_18864.length:Nat):Int) then
 (LoopF drossref55_Table_l4 (l_18864,i_18865)).bind (fun l_18977 =>
 some (.next (l_18977,(IntKind.i64.wrap (i_18865+1)))))
 else
 some (.done l_18864)
end Go.Proofs.YtmlegeeinnkhkaaGreat
namespace Go.Ab
open Go
def foldR {α β τ:Type} (f:β→α→β ⊕ τ) (fin:β→τ):List α→β→τ
 | [],b=>fin b
 | x :: r,b=>match f b x with
  | .inl b'=>foldR f fin r b'
  | .inr t=>t
theorem LoopF_foldR {α β σ τ:Type} (l:List α) (S:β→Int→σ) (B:σ→Option (LS σ τ)) (f:β→α→β ⊕ τ) (fin:β→τ) (I:Nat→β→Prop)
  (hs:∀(k:Nat) b x,l[k]?=some x→I k b→(∀b',f b x=.inl b'→B (S b k)=some (.next (S b' (k+1:Nat)))∧I (k+1) b')∧(∀t,f b x=.inr t→B (S b k)=some (.done t)))
  (he:∀b,I l.length b→B (S b l.length)=some (.done (fin b))) :
  ∀(r:List α) (k:Nat) (b:β),l.drop k=r→k≤l.length→I k b→LoopF B (S b k)=some (foldR f fin r b):=by
 intro r
 induction r with
 | nil =>
  intro k b hd hk hI
  have:k=l.length:=by
   have:=congrArg List.length hd
   simp at this;omega
  subst this
  exact Loop_done (he b hI)
 | cons x r ih =>
  intro k b hd hk hI
  have hx:l[k]?=some x:=by
   have:=congrArg (·[0]?) hd
   simpa [List.getElem?_drop] using this
  have hlt:k < l.length:=(List.getElem?_eq_some_iff.1 hx).1
  have hd':l.drop (k+1)=r:=by
   rw [←List.drop_drop,hd];rfl
  obtain ⟨h1,h2⟩:=hs k b x hx hI
  cases hf:f b x with
  | inl b' =>
   obtain ⟨h3,h4⟩:=h1 b' hf
   rw [Loop_next h3,ih (k+1) b' hd' hlt h4]
   simp [foldR,hf]
  | inr t =>
   rw [Loop_done (h2 t hf)]
   simp [foldR,hf]
theorem LoopF_list {α β σ τ:Type} (l:List α) (S:β→Int→σ) (B:σ→Option (LS σ τ)) (f:β→α→β ⊕ τ) (fin:β→τ) (I:Nat→β→Prop) {b0:β} {s0:σ} (h0:s0=S b0 0) (hI:I 0 b0)
  (hs:∀(k:Nat) b x,l[k]?=some x→k < l.length→I k b→(∀b',f b x=.inl b'→B (S b k)=some (.next (S b' (k+1:Nat)))∧I (k+1) b')∧(∀t,f b x=.inr t→B (S b k)=some (.done t)))
  (he:∀b,I l.length b→B (S b l.length)=some (.done (fin b))):LoopF B s0=some (foldR f fin l b0):=by
 subst h0
 exact LoopF_foldR l S B f fin I (fun k b x hx=>hs k b x hx (lt_of_get hx)) he l 0 b0 rfl (Nat.zero_le _) hI
theorem wrap_succ {k n:Nat} (h:k < n) (hn:n≤4611686018427387904):IntKind.i64.wrap ((k:Int)+1)=((k+1:Nat):Int):=by
 rw [wrap_i64 (by omega) (by omega)];omega
theorem wrap_nat {k:Nat} (h:k < 4611686018427387904):IntKind.i64.wrap ((k:Int)+1)=((k+1:Nat):Int):=by
 rw [wrap_i64 (by omega) (by omega)];omega
theorem wrap_u8 (c:UInt8):IntKind.i64.wrap ((c.toNat:Nat):Int)=((c.toNat:Nat):Int):=by
 have:=c.toNat_lt
 exact wrap_i64 (by omega) (by omega)
theorem room_le {n b:Nat} (h:n≤1073741824) (hb:b≤65536):roomB n b=true:=by
 unfold roomB
 have:n * b≤1073741824 * 65536:=Nat.mul_le_mul h hb
 simp only [decide_eq_true_eq]
 omega
theorem idx_get {α:Type} {l:List α} {k:Nat} {x:α} (h:l[k]?=some x):idx l (k:Int)=some x:=by rw [idx_nat,h]
theorem lt_true {α:Type} {l:List α} {k:Nat} {x:α} (h:l[k]?=some x):((k:Int) < (l.length:Int)):=by have:=lt_of_get h;omega
theorem foldl_of {α β:Type} (g:β→α→β):∀(l:List α) (b:β),foldR (fun b x=>(Sum.inl (g b x):β ⊕ β)) id l b=l.foldl g b
 | [],_=>rfl
 | x :: r,b=>by simp only [foldR,List.foldl_cons];exact foldl_of g r _
theorem foldl_of' {α β τ:Type} (g:β→α→β) (fin:β→τ):∀(l:List α) (b:β),foldR (fun b x=>(Sum.inl (g b x):β ⊕ τ)) fin l b=fin (l.foldl g b)
 | [],_=>rfl
 | x :: r,b=>by simp only [foldR,List.foldl_cons];exact foldl_of' g fin r _
theorem LoopF_all {α ρ:Type} (l:List α) (B:Int→Option (LS Int (Unit ⊕ ρ))) (p:α→Bool) (bad:ρ)
  (h1:∀(k:Nat) x,l[k]?=some x→k < l.length→p x=true→B k=some (.next (k+1:Nat))) (h2:∀(k:Nat) x,l[k]?=some x→p x=false→B k=some (.done (.inr bad))) (h3:B l.length=some (.done (.inl ()))) :
  LoopF B 0=some (if l.all p then .inl () else .inr bad):=by
 have h:=LoopF_list l (fun (_:Unit) i=>i) B (fun (_:Unit) x=>if p x then Sum.inl () else Sum.inr (Sum.inr bad)) (fun _=>Sum.inl ()) (fun _ _=>True) (b0:=()) (s0:=0) rfl trivial
  (fun k b x hx hk _=>by
   constructor
   ·intro b' hf
    refine ⟨?_,trivial⟩
    rcases Bool.eq_false_or_eq_true (p x) with hp | hp
    ·exact h1 k x hx hk hp
    ·simp [hp] at hf
   ·intro t hf
    rcases Bool.eq_false_or_eq_true (p x) with hp | hp
    ·simp [hp] at hf
    ·simp [hp] at hf;subst hf;exact h2 k x hx hp)
  (fun b _=>h3)
 rw [h]
 congr 1
 clear h h1 h2 h3
 induction l with
 | nil=>rfl
 | cons x r ih=>rcases Bool.eq_false_or_eq_true (p x) with hp | hp <;> simp [foldR,hp,ih]
theorem LoopF_find {α:Type} (l:List α) (B:Int→Option (LS Int (Unit ⊕ Int))) (p:α→Bool)
  (h1:∀(k:Nat) x,l[k]?=some x→k < l.length→p x=false→B k=some (.next (k+1:Nat))) (h2:∀(k:Nat) x,l[k]?=some x→p x=true→B k=some (.done (.inr k))) (h3:B l.length=some (.done (.inl ()))) :
  LoopF B 0=some (match l.findIdx? p with | some i=>.inr (i:Int) | none=>.inl ()):=by
 have key:∀(r:List α) (k:Nat),l.drop k=r→k≤l.length→LoopF B (k:Int)=some (match r.findIdx? p with | some i=>.inr ((k+i:Nat):Int) | none=>.inl ()):=by
  intro r
  induction r with
  | nil =>
   intro k hd hk
   have:k=l.length:=by
    have:=congrArg List.length hd
    simp at this;omega
   subst this
   exact Loop_done h3
  | cons x r ih =>
   intro k hd hk
   have hx:l[k]?=some x:=by
    have:=congrArg (·[0]?) hd
    simpa [List.getElem?_drop] using this
   have hd':l.drop (k+1)=r:=by rw [←List.drop_drop,hd];rfl
   rcases Bool.eq_false_or_eq_true (p x) with hp | hp
   ·rw [Loop_done (h2 k x hx hp)]
    simp [List.findIdx?_cons,hp]
   ·rw [Loop_next (h1 k x hx (lt_of_get hx) hp),ih (k+1) hd' (lt_of_get hx)]
    simp only [List.findIdx?_cons,hp]
    cases r.findIdx? p with
    | none=>rfl
    | some i=>simp;omega
 have:=key l 0 (by simp) (Nat.zero_le _)
 simpa using this
theorem LoopF_foldl {α β σ τ:Type} (l:List α) (S:β→Int→σ) (B:σ→Option (LS σ τ)) (g:β→α→β) (fin:β→τ) (I:Nat→β→Prop) {b0:β} {s0:σ} (h0:s0=S b0 0) (hI:I 0 b0)
  (hs:∀(k:Nat) b x,l[k]?=some x→k < l.length→I k b→B (S b k)=some (.next (S (g b x) (k+1:Nat)))∧I (k+1) (g b x))
  (he:∀b,I l.length b→B (S b l.length)=some (.done (fin b))):LoopF B s0=some (fin (l.foldl g b0)):=by
 rw [LoopF_list l S B (fun b x=>Sum.inl (g b x)) fin I h0 hI (fun k b x hx hk hi=>⟨fun b' hb=>by cases hb;exact hs k b x hx hk hi,fun t ht=>by cases ht⟩) he,foldl_of']
def okI (k:IntKind) (n:Int):Prop:=(Lit.int k n).wf=true
def okS (s:List UInt8):Prop:=s.length≤1048576
def okL {α:Type} (ok:α→Prop) (l:List α):Prop:=l.length≤1048576∧∀x∈l,ok x
def allFrom {α:Type} (p:Nat→α→Bool):Nat→List α→Bool
 | _,[]=>true
 | k,x :: r=>p k x && allFrom p (k+1) r
theorem LoopF_allk {α ρ:Type} (l:List α) (B:Int→Option (LS Int (Unit ⊕ ρ))) (p:Nat→α→Bool) (bad:ρ)
  (h1:∀(k:Nat) x,l[k]?=some x→k < l.length→p k x=true→B k=some (.next (k+1:Nat))) (h2:∀(k:Nat) x,l[k]?=some x→p k x=false→B k=some (.done (.inr bad))) (h3:B l.length=some (.done (.inl ()))) :
  ∀(r:List α) (k:Nat),l.drop k=r→k≤l.length→LoopF B (k:Int)=some (if allFrom p k r then .inl () else .inr bad):=by
 intro r
 induction r with
 | nil =>
  intro k hd hk
  have:k=l.length:=by
   have:=congrArg List.length hd
   simp at this;omega
  subst this
  exact Loop_done h3
 | cons x r ih =>
  intro k hd hk
  have hx:l[k]?=some x:=by
   have:=congrArg (·[0]?) hd
   simpa [List.getElem?_drop] using this
  have hd':l.drop (k+1)=r:=by rw [←List.drop_drop,hd];rfl
  rcases Bool.eq_false_or_eq_true (p k x) with hp | hp
  ·rw [Loop_next (h1 k x hx (lt_of_get hx) hp),ih (k+1) hd' (lt_of_get hx)]
   simp [allFrom,hp]
  ·rw [Loop_done (h2 k x hx hp)]
   simp [allFrom,hp]
theorem allFrom_all {α:Type} (q:α→Bool):∀(l:List α) (k:Nat),allFrom (fun _ x=>q x) k l=l.all q
 | [],_=>rfl
 | x :: r,k=>by simp [allFrom,allFrom_all q r]
theorem allFrom_congr {α:Type} {p q:Nat→α→Bool}:∀(l:List α) (k:Nat),(∀j x,k≤j→x∈l→p j x=q j x)→allFrom p k l=allFrom q k l
 | [],_,_=>rfl
 | x :: r,k,h=>by
  simp only [allFrom]
  rw [h k x (Nat.le_refl _) (by simp),allFrom_congr r (k+1) (fun j y hj hy=>h j y (by omega) (by simp [hy]))]
theorem room8 {n:Nat} (h:n≤17592186044416):roomB n 8=true:=by
 unfold roomB
 simp only [decide_eq_true_eq]
 omega
end Go.Ab
namespace Go.Proofs.YtmlegeeinnkhkaaGreat
open Go Go.Ab
def okValue (x:Value):Prop:=(okI .i64) x.Kind∧(okI .i64) x.Num∧okS x.Str
def okSimilar (x:Similar):Prop:=(okI .i64) x.Attr∧(okI .i64) x.Measure∧(okI .i64) x.Limit
def okRow (x:Row):Prop:=(okI .i64) x.ID∧(okL okValue) x.Values
def okLinkage (x:Linkage):Prop:=(okL (okL okSimilar)) x.Rules∧(okL (okI .i64)) x.Block∧(okL (okI .i64)) x.Survive
def okTable (x:Table):Prop:=okS x.Name∧(okL okS) x.Attrs∧(okL okRow) x.Rows
def okArr2_int64 (x:Arr2_int64):Prop:=(okI .i64) x.x0∧(okI .i64) x.x1
def okDrossref56_Test (x:Drossref56_Test):Prop:=(okI .u8) x.Attr∧(okI .u8) x.Measure∧(okI .u8) x.Limit
def okDrossref56_Draft (x:Drossref56_Draft):Prop:=(okL (okL okDrossref56_Test)) x.Rules∧(okI .u8) x.Block∧(okL (okI .u8)) x.Survive
def okDrossref03_Recipe (x:Drossref03_Recipe):Prop:=(okI .u8) x.Attrs∧(okI .u8) x.Gap∧(okL (okL (okI .u8))) x.Rows
end Go.Proofs.YtmlegeeinnkhkaaGreat
namespace Go.Ab
def compl:Nat→List Int→Nat→List (List Int)
 | 0,p,u=>[p]
 | k+1,p,u=>(List.range (u+1)).flatMap fun (c:Nat)=>compl k (p++[(c:Int)]) (max u (c+1))
def usedN (l:List Int):Nat:=l.foldl (fun m x=>max m (x.toNat+1)) 0
theorem usedN_snoc (l:List Int) (c:Nat):usedN (l++[(c:Int)])=max (usedN l) (c+1):=by simp [usedN]
theorem compl_len:∀(k:Nat) (p:List Int) (u:Nat) (x:List Int),x∈compl k p u→x.length=p.length+k∧x.take p.length=p
 | 0,p,u,x,h=>by
  simp only [compl,List.mem_singleton] at h
  subst h;simp
 | k+1,p,u,x,h=>by
  simp only [compl,List.mem_flatMap] at h
  obtain ⟨c,_,hx⟩:=h
  obtain ⟨h1,h2⟩:=compl_len k _ _ x hx
  simp only [List.length_append,List.length_singleton] at h1 h2
  refine ⟨by omega,?_⟩
  have:=congrArg (List.take p.length) h2
  rw [List.take_take,Nat.min_eq_left (by omega),List.take_left] at this
  exact this
theorem compl_ne (k:Nat) (p:List Int) (u:Nat):compl k p u≠[]:=by
 induction k generalizing p u with
 | zero=>simp [compl]
 | succ k ih =>
  simp only [compl,ne_eq,List.flatMap_eq_nil_iff,List.mem_range]
  intro h
  exact ih _ _ (h 0 (by omega))
def stepLk (cost:List Int→Int) (b:Option (List Int×Int)) (x:List Int):Option (List Int×Int) :=
 match b with
 | none=>some (x,cost x)
 | some (l,c)=>if cost x < c then some (x,cost x) else some (l,c)
theorem fold_pruned (cost:List Int→Int) (l:List Int) (c:Int):∀xs:List (List Int),(∀x∈xs,c≤cost x)→xs.foldl (stepLk cost) (some (l,c))=some (l,c)
 | [],_=>rfl
 | x :: xs,h=>by
  have h0:=h x (by simp)
  simp only [List.foldl_cons,stepLk]
  rw [if_neg (by omega)]
  exact fold_pruned cost l c xs fun y hy=>h y (by simp [hy])
def priceI (w:Int) (t:Bool):Int:=if t then max (-w) 0 else max w 0
theorem priceI_nn (w:Int) (t:Bool):0≤priceI w t:=by unfold priceI;split <;> omega
def addV (W:Nat→Nat→Int) (l:List Int) (c:Int) (k:Nat):Int:=((List.range k).map fun i=>priceI (W i k) (l.getD i 0 == c)).sum
def costV (W:Nat→Nat→Int) (l:List Int) (v:Nat):Int:=((List.range v).map fun k=>addV W l (l.getD k 0) k).sum
theorem sum_nn:∀l:List Int,(∀x∈l,0≤x)→0≤l.sum
 | [],_=>by simp
 | x :: l,h=>by
  have h1:=h x (by simp)
  have h2:=sum_nn l fun y hy=>h y (by simp [hy])
  simp only [List.sum_cons];omega
theorem sum_snoc (l:List Int) (x:Int):(l++[x]).sum=l.sum+x:=by simp
theorem addV_nn (W:Nat→Nat→Int) (l:List Int) (c:Int) (k:Nat):0≤addV W l c k:=by
 refine sum_nn _ fun x hx=>?_
 obtain ⟨i,_,rfl⟩:=List.mem_map.1 hx
 exact priceI_nn _ _
theorem addV_take (W:Nat→Nat→Int) {l p:List Int} (c:Int) {k:Nat} (h:∀i,i < k→l.getD i 0=p.getD i 0):addV W l c k=addV W p c k:=by
 unfold addV
 congr 1
 refine List.map_congr_left fun i hi=>?_
 rw [h i (List.mem_range.1 hi)]
theorem costV_succ (W:Nat→Nat→Int) (l:List Int) (v:Nat):costV W l (v+1)=costV W l v+addV W l (l.getD v 0) v:=by
 unfold costV
 rw [List.range_succ,List.map_append,List.map_singleton,sum_snoc]
theorem costV_take (W:Nat→Nat→Int) {l p:List Int}:∀{v:Nat},(∀i,i < v→l.getD i 0=p.getD i 0)→costV W l v=costV W p v
 | 0,_=>rfl
 | v+1,h=>by
  rw [costV_succ,costV_succ,costV_take W (v:=v) (fun i hi=>h i (by omega)),h v (by omega),addV_take W _ (fun i hi=>h i (by omega))]
theorem costV_mono (W:Nat→Nat→Int) (l:List Int):∀(k v:Nat),costV W l v≤costV W l (v+k)
 | 0,v=>by simp
 | k+1,v=>by
  have h1:=costV_mono W l k v
  have h2:=addV_nn W l (l.getD (v+k) 0) (v+k)
  rw [←Nat.add_assoc,costV_succ];omega
theorem costV_prefix (W:Nat→Nat→Int) {x p:List Int} (h:x.take p.length=p) (n:Nat) (hn:p.length≤n):costV W p p.length≤costV W x n:=by
 have h1:costV W x p.length=costV W p p.length:=by
  refine costV_take W fun i hi=>?_
  have:p[i]?=x[i]?:=by rw [←h];rw [List.getElem?_take];rw [if_pos];rw [←h] at hi;simp at hi;omega
  simp only [List.getD_eq_getElem?_getD,this]
 have h2:=costV_mono W x (n - p.length) p.length
 rw [show p.length+(n - p.length)=n by omega] at h2
 omega
theorem costV_snoc (W:Nat→Nat→Int) (p:List Int) (c:Int):costV W (p++[c]) (p.length+1)=costV W p p.length+addV W p c p.length:=by
 rw [costV_succ]
 have h1:∀i,i < p.length→(p++[c]).getD i 0=p.getD i 0:=by
  intro i hi
  simp only [List.getD_eq_getElem?_getD,List.getElem?_append_left hi]
 rw [costV_take W h1,addV_take W _ h1]
 congr 2
 simp [List.getD_eq_getElem?_getD]
theorem usedN_get {l:List Int} {i:Nat} {x:Int} (h:l[i]?=some x):x.toNat < usedN l:=by
 have key:∀(l:List Int) (m:Nat),(m≤l.foldl (fun m x=>max m (x.toNat+1)) m)∧∀x∈l,x.toNat < l.foldl (fun m x=>max m (x.toNat+1)) m:=by
  intro l
  induction l with
  | nil=>intro m;simp
  | cons y l ih =>
   intro m
   simp only [List.foldl_cons,List.mem_cons]
   obtain ⟨h1,h2⟩:=ih (max m (y.toNat+1))
   refine ⟨by omega,?_⟩
   rintro x (rfl | hx)
   ·omega
   ·exact h2 x hx
 exact (key l 0).2 x (List.mem_of_getElem? h)
inductive Rch (R:Nat→Nat→Prop) (v:Nat):Nat→Prop
 | refl:Rch R v v
 | step {x y:Nat}:Rch R v x→R x y→Rch R v y
theorem Rch.trans {R:Nat→Nat→Prop} {a b c:Nat} (h:Rch R a b) (h2:Rch R b c):Rch R a c:=by
 induction h2 with
 | refl=>exact h
 | step _ hr ih=>exact ih.step hr
theorem Rch.symm {R:Nat→Nat→Prop} (hs:∀x y,R x y→R y x) {a b:Nat} (h:Rch R a b):Rch R b a:=by
 induction h with
 | refl=>exact .refl
 | step _ hr ih=>exact (Rch.step .refl (hs _ _ hr)).trans ih
theorem Rch.closed {R:Nat→Nat→Prop} {S:Nat→Prop} {v x:Nat} (h:Rch R v x) (h0:S v) (hs:∀x y,S x→R x y→S y):S x:=by
 induction h with
 | refl=>exact h0
 | step _ hr ih=>exact hs _ _ ih hr
open Classical in
noncomputable def compL (R:Nat→Nat→Prop) (n v:Nat):List Nat:=(List.range n).filter fun x=>decide (Rch R v x)
open Classical in
noncomputable def headsL (R:Nat→Nat→Prop) (n:Nat):List Nat:=(List.range n).filter fun v=>decide (∀u,u < v→¬Rch R u v)
noncomputable def compsL (R:Nat→Nat→Prop) (n:Nat):List (List Nat):=(headsL R n).map (compL R n)
theorem mem_compL {R:Nat→Nat→Prop} {n v x:Nat}:x∈compL R n v↔x < n∧Rch R v x:=by simp [compL]
theorem compL_asc (R:Nat→Nat→Prop) (n v:Nat):(compL R n v).Pairwise (· < ·):=List.pairwise_lt_range.filter _
theorem mem_headsL {R:Nat→Nat→Prop} {n v:Nat}:v∈headsL R n↔v < n∧∀u,u < v→¬Rch R u v:=by simp [headsL]
theorem head_of {R:Nat→Nat→Prop} (n:Nat):∀x,x < n→∃v∈headsL R n,Rch R v x:=by
 intro x
 induction x using Nat.strongRecOn with
 | _ x ih =>
  intro hx
  by_cases h:∀u,u < x→¬Rch R u x
  ·exact ⟨x,mem_headsL.2 ⟨hx,h⟩,.refl⟩
  ·simp only [Classical.not_forall,Classical.not_not] at h
   obtain ⟨u,hu,hr⟩:=h
   obtain ⟨v,hv,hvr⟩:=ih u hu (by omega)
   exact ⟨v,hv,hvr.trans hr⟩
theorem head_one {R:Nat→Nat→Prop} (hs:∀x y,R x y→R y x) {n v w x:Nat} (hv:v∈headsL R n) (hw:w∈headsL R n) (h1:Rch R v x) (h2:Rch R w x):v=w:=by
 have h:=h1.trans (h2.symm hs)
 have h':=h.symm hs
 rcases Nat.lt_trichotomy v w with hlt | rfl | hlt
 ·exact absurd h ((mem_headsL.1 hw).2 v hlt)
 ·rfl
 ·exact absurd h' ((mem_headsL.1 hv).2 w hlt)
theorem nodup_perm {a b:List Nat} (ha:a.Nodup) (hb:b.Nodup) (h:∀x,x∈a↔x∈b):a.Perm b:=(List.perm_ext_iff_of_nodup ha hb).2 h
theorem compsL_perm {R:Nat→Nat→Prop} (hs:∀x y,R x y→R y x) (n:Nat):(compsL R n).flatten.Perm (List.range n):=by
 refine nodup_perm ?_ List.nodup_range ?_
 ·unfold List.Nodup
  rw [List.pairwise_flatten]
  refine ⟨?_,?_⟩
  ·intro l hl
   obtain ⟨v,_,rfl⟩:=List.mem_map.1 hl
   exact (compL_asc R n v).imp fun h=>Nat.ne_of_lt h
  ·unfold compsL
   rw [List.pairwise_map]
   have hh:(headsL R n).Pairwise (·≠·):=(List.pairwise_lt_range.filter _).imp fun h=>Nat.ne_of_lt h
   refine (List.pairwise_iff_forall_sublist.2 ?_)
   intro a b hab x hxa y hxb hxy
   subst hxy
   have hne:=(List.pairwise_iff_forall_sublist.1 hh) hab
   have ha:a∈headsL R n:=hab.subset (by simp)
   have hb:b∈headsL R n:=hab.subset (by simp)
   exact hne (head_one hs ha hb (mem_compL.1 hxa).2 (mem_compL.1 hxb).2)
 ·intro x
  rw [List.mem_range,List.mem_flatten]
  constructor
  ·rintro ⟨l,hl,hx⟩
   obtain ⟨v,_,rfl⟩:=List.mem_map.1 hl
   exact (mem_compL.1 hx).1
  ·intro hx
   obtain ⟨v,hv,hr⟩:=head_of (R:=R) n x hx
   exact ⟨_,List.mem_map.2 ⟨v,hv,rfl⟩,mem_compL.2 ⟨hx,hr⟩⟩
theorem foldLk_min (cost:List Int→Int):∀(xs:List (List Int)) (b:Option (List Int×Int)) (l:List Int) (c:Int),xs.foldl (stepLk cost) b=some (l,c) →
  ((l∈xs∧c=cost l)∨b=some (l,c))∧(∀x∈xs,c≤cost x)∧(∀l' c',b=some (l',c')→c≤c')
 | [],b,l,c,e=>by
  simp only [List.foldl_nil] at e
  exact ⟨.inr e,by simp,fun l' c' h=>by rw [e] at h;cases h;exact Int.le_refl _⟩
 | x :: xs,b,l,c,e=>by
  simp only [List.foldl_cons] at e
  obtain ⟨h1,h2,h3⟩:=foldLk_min cost xs _ l c e
  cases b with
  | none =>
   have hx:=h3 x (cost x) rfl
   refine ⟨.inl ?_,?_,by simp⟩
   ·rcases h1 with ⟨h,h'⟩ | h
    ·exact ⟨List.mem_cons_of_mem _ h,h'⟩
    ·simp only [stepLk,Option.some.injEq,Prod.mk.injEq] at h
     exact ⟨by rw [←h.1];exact List.mem_cons_self,by rw [←h.1,h.2]⟩
   ·intro y hy
    rcases List.mem_cons.1 hy with rfl | hy
    ·exact hx
    ·exact h2 y hy
  | some q =>
   obtain ⟨l0,c0⟩:=q
   simp only [stepLk] at h1 h3
   by_cases hc:cost x < c0
   ·simp only [if_pos hc] at h1 h3
    have hx:=h3 x (cost x) rfl
    refine ⟨.inl ?_,?_,?_⟩
    ·rcases h1 with ⟨h,h'⟩ | h
     ·exact ⟨List.mem_cons_of_mem _ h,h'⟩
     ·simp only [Option.some.injEq,Prod.mk.injEq] at h
      exact ⟨by rw [←h.1];exact List.mem_cons_self,by rw [←h.1,h.2]⟩
    ·intro y hy
     rcases List.mem_cons.1 hy with rfl | hy
     ·exact hx
     ·exact h2 y hy
    ·intro l' c' h
     cases h;omega
   ·simp only [if_neg hc] at h1 h3
    have hx:=h3 l0 c0 rfl
    refine ⟨?_,?_,?_⟩
    ·rcases h1 with ⟨h,h'⟩ | h
     ·exact .inl ⟨List.mem_cons_of_mem _ h,h'⟩
     ·exact .inr h
    ·intro y hy
     rcases List.mem_cons.1 hy with rfl | hy
     ·omega
     ·exact h2 y hy
    ·intro l' c' h
     cases h;exact hx
def optB (W:Nat→Nat→Int) (n:Nat):Option (List Int×Int):=(compl n [] 0).foldl (stepLk fun x=>costV W x n) none
theorem fold_isSome (cost:List Int→Int):∀(xs:List (List Int)) (q:List Int×Int),∃r,xs.foldl (stepLk cost) (some q)=some r
 | [],q=>⟨q,rfl⟩
 | x :: xs,q=>by
  simp only [List.foldl_cons,stepLk]
  split
  ·exact fold_isSome cost xs _
  ·exact fold_isSome cost xs _
theorem optB_some (W:Nat→Nat→Int) (n:Nat):∃l c,optB W n=some (l,c)∧l∈compl n [] 0∧c=costV W l n∧∀x∈compl n [] 0,c≤costV W x n:=by
 have hne:=compl_ne n [] 0
 unfold optB
 cases hx:compl n [] 0 with
 | nil=>exact absurd hx hne
 | cons x xs =>
  obtain ⟨⟨l,c⟩,hr⟩:=fold_isSome (fun x=>costV W x n) xs (x,costV W x n)
  have hr':(x :: xs).foldl (stepLk fun x=>costV W x n) none=some (l,c):=hr
  obtain ⟨h1,h2,h3⟩:=foldLk_min _ _ _ l c hr'
  rcases h1 with ⟨h,h'⟩ | h
  ·exact ⟨l,c,hr',h,h',h2⟩
  ·cases h
theorem list_getD_map (C:List Nat):C=(List.range C.length).map fun i=>C.getD i 0:=by
 refine List.ext_getElem? fun i=>?_
 simp only [List.getElem?_map,List.getD_eq_getElem?_getD]
 by_cases h:i < C.length
 ·simp [List.getElem?_range h,h]
 ·simp [h]
def partW (W:Nat→Nat→Int) (C:List Nat) (i k:Nat):Int:=W (C.getD i 0) (C.getD k 0)
end Go.Ab
namespace Go.Proofs.YtmlegeeinnkhkaaGreat
open Go Go.Ab
def valid (v:Value):Bool:=decide ((v.Kind=0∧v.Num=0∧v.Str=[])∨(v.Kind=1∧v.Str=[])∨(v.Kind=2∧v.Num=0∧v.Str.length≤200)∨(v.Kind=3∧1≤v.Num∧v.Str=[]))
theorem value_Valid_eq (v:Value):value_Valid v=some (valid v):=by
 simp only [value_Valid,valid]
 repeat' split
 all_goals simp_all
 all_goals (try omega)
 all_goals (try (rw [Bool.eq_iff_iff];simp <;> omega))
theorem ref_Valid_eq (v:Value):drossref01_Valid v=some (valid v):=by
 simp only [drossref01_Valid,valid]
 repeat' split
 all_goals simp_all
 all_goals (try omega)
 all_goals (try (rw [Bool.eq_iff_iff];simp <;> omega))
def sgn (a b:Int):Int:=if a < b then -1 else if b < a then 1 else 0
theorem ref_sign_eq (a b:Int):drossref01_sign a b=some (sgn a b):=by
 simp only [drossref01_sign,sgn]
 split <;> (try split) <;> simp_all
theorem cmp_int64_eq (a b:Int):cmp_Compare_int64 a b=some (sgn a b):=by
 simp only [cmp_Compare_int64,cmp_isNaN_int64,sgn]
 simp
 split <;> (try split) <;> simp_all
def strc:List UInt8→List UInt8→Int
 | [],[]=>0
 | [],_ :: _=>-1
 | _ :: _,[]=>1
 | a :: x,b :: y=>if a=b then strc x y else sgn a.toNat b.toNat
theorem compareBytes_eq:∀a b:List UInt8,Lib.compareBytes a b=strc a b
 | [],[]=>rfl
 | [],_ :: _=>rfl
 | _ :: _,[]=>rfl
 | x :: a,y :: b=>by
  simp only [Lib.compareBytes,strc,sgn,compareBytes_eq a b,UInt8.lt_iff_toNat_lt,←UInt8.toNat_inj]
  split <;> split <;> (try split) <;> (try split) <;> omega
theorem strings_Compare_eq (a b:List UInt8):strings_Compare a b=some (strc a b):=by
 simp [strings_Compare,bytealg_CompareString,compareBytes_eq]
theorem sgn_ne {a b:Int} (h:a≠b):sgn a b≠0:=by
 unfold sgn;split <;> (try split) <;> omega
theorem sgn_self (a:Int):sgn a a=0:=by unfold sgn;simp
theorem strings_loop (a b:List UInt8) (ha:a.length≤1073741824):∀(r:List UInt8) (k:Nat),a.drop k=r→k≤a.length→k≤b.length→
  (∃o,LoopF (drossref01_strings_l1 a b) (k:Int)=some o∧(match o with | .inl ()=>sgn (r.length) ((b.drop k).length)=strc r (b.drop k) | .inr z=>z=strc r (b.drop k))):=by
 intro r
 induction r with
 | nil =>
  intro k hd hk hkb
  have hk':k=a.length:=by
   have:=congrArg List.length hd
   simp at this;omega
  subst hk'
  refine ⟨.inl (),Loop_done (by simp [drossref01_strings_l1]),?_⟩
  cases hb:b.drop a.length with
  | nil=>rfl
  | cons y s=>simp [strc,sgn]
 | cons x r ih =>
  intro k hd hk hkb
  have hx:a[k]?=some x:=by
   have:=congrArg (·[0]?) hd
   simpa [List.getElem?_drop] using this
  have hd':a.drop (k+1)=r:=by rw [←List.drop_drop,hd];rfl
  have hlt:=lt_of_get hx
  cases hb:b.drop k with
  | nil =>
   have hkb':k=b.length:=by
    have:=congrArg List.length hb
    simp at this;omega
   subst hkb'
   refine ⟨.inl (),Loop_done (by simp [drossref01_strings_l1]),?_⟩
   simp [strc,sgn];omega
  | cons y s =>
   have hy:b[k]?=some y:=by
    have:=congrArg (·[0]?) hb
    simpa [List.getElem?_drop] using this
   have hb':b.drop (k+1)=s:=by rw [←List.drop_drop,hb];rfl
   by_cases hxy:x=y
   ·subst hxy
    have h1:drossref01_strings_l1 a b (k:Int)=some (.next ((k+1:Nat):Int)):=by
     simp [drossref01_strings_l1,lt_true hx,lt_true hy,idx_get hx,idx_get hy,wrap_succ hlt (by omega)]
    obtain ⟨o,h2,h3⟩:=ih (k+1) hd' hlt (lt_of_get hy)
    refine ⟨o,by rw [Loop_next h1];exact h2,?_⟩
    rw [hb'] at h3
    cases o with
    | inl u =>
     simp only at h3 ⊢
     rw [strc,if_pos rfl,←h3]
     simp only [List.length_cons,sgn]
     split <;> split <;> (try split) <;> (try split) <;> omega
    | inr z =>
     simp only at h3 ⊢
     rw [strc,if_pos rfl,←h3]
   ·have hne:(((x.toNat:Nat):Int) != ((y.toNat:Nat):Int))=true:=by
     simp only [bne_iff_ne,ne_eq,Int.natCast_inj,UInt8.toNat_inj]
     exact hxy
    refine ⟨.inr (sgn x.toNat y.toNat),Loop_done ?_,?_⟩
    ·simp only [drossref01_strings_l1,if_pos (lt_true hx),if_pos (lt_true hy),idx_get hx,idx_get hy,Option.bind_some,if_pos hne,wrap_u8,ref_sign_eq]
    ·simp only [strc,if_neg hxy]
theorem ref_strings_eq (a b:List UInt8) (ha:a.length≤1073741824):drossref01_strings a b=some (strc a b):=by
 obtain ⟨o,h1,h2⟩:=strings_loop a b ha a 0 (by simp) (Nat.zero_le _) (Nat.zero_le _)
 simp only [drossref01_strings]
 have h1':LoopF (drossref01_strings_l1 a b) 0=some o:=h1
 rw [h1']
 cases o with
 | inl u =>
  simp only [List.drop_zero] at h2
  simp [ref_sign_eq,h2]
 | inr z =>
  simp only [List.drop_zero] at h2
  simp [h2]
def vcmp (a b:Value):Int:=if sgn a.Kind b.Kind≠0 then sgn a.Kind b.Kind else if sgn a.Num b.Num≠0 then sgn a.Num b.Num else strc a.Str b.Str
theorem ref_Compare_eq (a b:Value) (ha:a.Str.length≤1073741824):drossref01_Compare a b=some (vcmp a b):=by
 simp only [drossref01_Compare,ref_sign_eq,ref_strings_eq _ _ ha,vcmp,Option.bind_some]
 split <;> (try split) <;> (try split) <;> simp_all
theorem strc_eq:∀a b:List UInt8,strc a b=0↔a=b
 | [],[]=>by simp [strc]
 | [],_ :: _=>by simp [strc]
 | _ :: _,[]=>by simp [strc]
 | x :: a,y :: b=>by
  simp only [strc]
  by_cases h:x=y
  ·subst h;simp [strc_eq a b]
  ·have:sgn x.toNat y.toNat≠0:=sgn_ne (by simpa [Int.natCast_inj,UInt8.toNat_inj] using h)
   simp [h,this]
theorem sgn_zero (a b:Int):sgn a b=0↔a=b:=by
 unfold sgn;split <;> (try split) <;> omega
theorem vcmp_eq (a b:Value):vcmp a b=0↔a=b:=by
 unfold vcmp
 cases a;cases b
 simp only [Value.mk.injEq]
 split
 ·rename_i h;simp only [ne_eq,sgn_zero] at h;simp [sgn_zero,h]
 ·rename_i h;simp only [ne_eq,sgn_zero,Decidable.not_not] at h
  split
  ·rename_i h2;simp only [ne_eq,sgn_zero] at h2;simp [sgn_zero,h2]
  ·rename_i h2;simp only [ne_eq,sgn_zero,Decidable.not_not] at h2
   simp [strc_eq,h,h2]
def veq (a b:Value):Bool:=(a.Kind == b.Kind) && ((a.Num == b.Num) && (a.Str == b.Str))
def rowsErr:List Row→Int
 | []=>12
 | r :: l=>if (r :: l).all (fun x=>x.Values.length == r.Values.length) then 0 else 6
theorem IndexFunc_Value_eq (l:List Value) (f:Value→Option Bool) (p:Value→Bool) (hf:∀x∈l,f x=some (p x)) (hl:l.length≤1073741824):slices_IndexFunc_Value l f=some (match l.findIdx? p with | some i=>(i:Int) | none=>-1):=by
 have h:=LoopF_find l (slices_IndexFunc_Value_l1 l f) p
  (fun k x hx hk hp=>by simp [slices_IndexFunc_Value_l1,lt_true hx,idx_get hx,hf x (List.mem_of_getElem? hx),hp,wrap_succ hk (by omega)])
  (fun k x hx hp=>by simp [slices_IndexFunc_Value_l1,lt_true hx,idx_get hx,hf x (List.mem_of_getElem? hx),hp])
  (by simp [slices_IndexFunc_Value_l1])
 simp only [slices_IndexFunc_Value,h,Option.bind_some]
 cases l.findIdx? p <;> rfl
theorem findIdx_any {α:Type} (p:α→Bool) (l:List α):decide ((match l.findIdx? p with | some i=>((i:Nat):Int) | none=>-1)≥0)=l.any p:=by
 cases h:l.findIdx? p with
 | none =>
  rw [List.findIdx?_eq_none_iff] at h
  have:l.any p=false:=by rw [List.any_eq_false];intro x hx;simp [h x hx]
  rw [this];rfl
 | some i =>
  have:l.any p=true:=by
   rw [List.findIdx?_eq_some_iff_getElem] at h
   obtain ⟨hi,hp,_⟩:=h
   rw [List.any_eq_true]
   exact ⟨_,List.getElem_mem hi,hp⟩
  rw [this];simp
theorem ContainsFunc_Value_eq (l:List Value) (f:Value→Option Bool) (p:Value→Bool) (hf:∀x∈l,f x=some (p x)) (hl:l.length≤1073741824):slices_ContainsFunc_Value l f=some (l.any p):=by
 simp only [slices_ContainsFunc_Value,IndexFunc_Value_eq l f p hf hl,Option.bind_some,findIdx_any]
def okRows:Int→List Row→Bool
 | _,[]=>true
 | a,r :: l=>decide (a < r.ID) && r.Values.all valid && okRows r.ID l
theorem sgn_lt (a b:Int):sgn a b < 0↔a < b:=by unfold sgn;split <;> (try split) <;> omega
theorem sgn_neg (a b:Int):sgn b a=- sgn a b:=by unfold sgn;split <;> (try split) <;> (try split) <;> omega
theorem strc_neg:∀a b:List UInt8,strc b a=- strc a b
 | [],[]=>rfl
 | [],_ :: _=>rfl
 | _ :: _,[]=>rfl
 | x :: a,y :: b=>by
  simp only [strc]
  by_cases h:x=y
  ·subst h;simp [strc_neg a b]
  ·have h':¬y=x:=fun e=>h e.symm
   simp only [if_neg h,if_neg h'];exact sgn_neg _ _
theorem vcmp_self (a:Value):vcmp a a=0:=(vcmp_eq a a).2 rfl
def betterB (cnt:Value→Int) (rule:Int) (v b:Value):Bool :=
 if rule=2 then decide (cnt v > cnt b) else if rule=3 then decide (v.Kind=2) && (decide (b.Kind≠2) || decide ((v.Str.length:Int) > b.Str.length))
 else if rule=4 then decide (vcmp v b < 0) else if rule=5 then decide (vcmp v b > 0) else false
def cellV (r:Row) (a:Nat):Value:=r.Values.getD a ⟨0,0,[]⟩
def Short (rows:List Row):Prop:=∀r∈rows,∀v∈r.Values,v.Str.length≤1073741824
def pickF {β:Type} (B:Value→Value→Bool) (o:Value×β) (x:Value×β):Value×β:=if B x.1 o.1 then x else o
def nn (rows:List Row) (a:Nat):List Row:=rows.filter fun r=>(cellV r a).Kind != 0
def chosen (rows:List Row) (a:Nat) (rule:Int):Value×Int :=
 match nn rows a with
 | []=>(⟨0,0,[]⟩,(rows[0]?.map (·.ID)).getD 0)
 | r :: l=>(l.map fun x=>(cellV x a,x.ID)).foldl (pickF (betterB (fun x=>(((rows.map (cellV · a)).countP (veq · x):Nat):Int)) rule)) (cellV r a,r.ID)
def choice (rows:List Row) (attr rule:Int):Value×Int×Int :=
 if rowsErr rows≠0 then (⟨0,0,[]⟩,0,rowsErr rows)
 else if attr < 0∨((rows[0]?.map (·.Values.length)).getD 0:Nat)≤attr then (⟨0,0,[]⟩,0,6)
 else if okRows 0 rows=false∨rule < 1∨5 < rule then (⟨0,0,[]⟩,0,1)
 else ((chosen rows attr.toNat rule).1,(chosen rows attr.toNat rule).2,0)
theorem IDs_eq (a b:List Int) (ha:a.length≤1073741824):drossref03_IDs a b=some (decide (a=b)):=by
 simp only [drossref03_IDs]
 by_cases hl:a.length=b.length
 ·have hn:¬(((a.length:Int) != (b.length:Int))=true):=by simp;omega
  rw [if_neg hn]
  have key:∀(r:List Int) (k:Nat),a.drop k=r→k≤a.length→LoopF (drossref03_IDs_l1 a b) (k:Int)=some (if r=b.drop k then .inl () else .inr false):=by
   intro r
   induction r with
   | nil =>
    intro k hd hk
    have:k=a.length:=by
     have:=congrArg List.length hd
     simp at this;omega
    subst this
    have:b.drop a.length=[]:=by rw [hl];simp
    rw [this]
    exact Loop_done (by simp [drossref03_IDs_l1])
   | cons x r ih =>
    intro k hd hk
    have hx:a[k]?=some x:=by
     have:=congrArg (·[0]?) hd
     simpa [List.getElem?_drop] using this
    have hd':a.drop (k+1)=r:=by rw [←List.drop_drop,hd];rfl
    have hlt:=lt_of_get hx
    obtain ⟨y,hy⟩:∃y,b[k]?=some y:=⟨_,List.getElem?_eq_getElem (by omega)⟩
    have hb:b.drop k=y :: b.drop (k+1):=by
     rw [List.drop_eq_getElem_cons (by omega)]
     congr 1
     exact (List.getElem?_eq_some_iff.1 hy).2
    rw [hb]
    by_cases hxy:x=y
    ·subst hxy
     rw [Loop_next (s':=((k+1:Nat):Int)) (by simp [drossref03_IDs_l1,lt_true hx,idx_get hx,idx_get hy,wrap_succ hlt (by omega)]),ih (k+1) hd' hlt]
     simp
    ·rw [Loop_done (t:=.inr false) (by simp [drossref03_IDs_l1,lt_true hx,idx_get hx,idx_get hy,hxy])]
     simp [hxy]
  have h0:=key a 0 (by simp) (Nat.zero_le _)
  simp only [List.drop_zero,Int.natCast_zero] at h0
  rw [h0]
  by_cases hab:a=b <;> simp [hab]
 ·have hn:(((a.length:Int) != (b.length:Int))=true):=by simp;omega
  rw [if_pos hn]
  have:a≠b:=fun e=>hl (by rw [e])
  simp [this]
def lcmp:List Value→List Value→Int
 | [],[]=>0
 | [],_ :: _=>-1
 | _ :: _,[]=>1
 | a :: x,b :: y=>if vcmp a b≠0 then vcmp a b else lcmp x y
theorem lcmp_eq:∀a b:List Value,lcmp a b=0↔a=b
 | [],[]=>by simp [lcmp]
 | [],_ :: _=>by simp [lcmp]
 | _ :: _,[]=>by simp [lcmp]
 | x :: a,y :: b=>by
  simp only [lcmp]
  by_cases h:x=y
  ·subst h;simp [vcmp_self,lcmp_eq a b]
  ·have:vcmp x y≠0:=fun e=>h ((vcmp_eq _ _).1 e)
   simp [h,this]
theorem lists_loop (a b:List Value) (ha:a.length≤1073741824) (hs:∀v∈a,v.Str.length≤1073741824):∀(r:List Value) (k:Nat),a.drop k=r→k≤a.length→k≤b.length →
  (∃o,LoopF (drossref01_Lists_l1 a b) (k:Int)=some o∧(match o with | .inl ()=>sgn (r.length) ((b.drop k).length)=lcmp r (b.drop k) | .inr z=>z=lcmp r (b.drop k))):=by
 intro r
 induction r with
 | nil =>
  intro k hd hk hkb
  have hk':k=a.length:=by
   have:=congrArg List.length hd
   simp at this;omega
  subst hk'
  refine ⟨.inl (),Loop_done (by simp [drossref01_Lists_l1]),?_⟩
  cases hb:b.drop a.length with
  | nil=>rfl
  | cons y s=>simp [lcmp,sgn]
 | cons x r ih =>
  intro k hd hk hkb
  have hx:a[k]?=some x:=by
   have:=congrArg (·[0]?) hd
   simpa [List.getElem?_drop] using this
  have hd':a.drop (k+1)=r:=by rw [←List.drop_drop,hd];rfl
  have hlt:=lt_of_get hx
  have hsx:=hs x (List.mem_of_getElem? hx)
  cases hb:b.drop k with
  | nil =>
   have hkb':k=b.length:=by
    have:=congrArg List.length hb
    simp at this;omega
   subst hkb'
   refine ⟨.inl (),Loop_done (by simp [drossref01_Lists_l1]),?_⟩
   simp [lcmp,sgn];omega
  | cons y s =>
   have hy:b[k]?=some y:=by
    have:=congrArg (·[0]?) hb
    simpa [List.getElem?_drop] using this
   have hb':b.drop (k+1)=s:=by rw [←List.drop_drop,hb];rfl
   by_cases hxy:vcmp x y=0
   ·have h1:drossref01_Lists_l1 a b (k:Int)=some (.next ((k+1:Nat):Int)):=by
     simp [drossref01_Lists_l1,lt_true hx,lt_true hy,idx_get hx,idx_get hy,wrap_succ hlt (by omega),ref_Compare_eq _ _ hsx,hxy]
    obtain ⟨o,h2,h3⟩:=ih (k+1) hd' hlt (lt_of_get hy)
    refine ⟨o,by rw [Loop_next h1];exact h2,?_⟩
    rw [hb'] at h3
    have hl:lcmp (x :: r) (y :: s)=lcmp r s:=by simp [lcmp,hxy]
    rw [hl]
    cases o with
    | inl u =>
     simp only at h3 ⊢
     rw [←h3]
     simp only [List.length_cons,sgn]
     split <;> split <;> (try split) <;> (try split) <;> omega
    | inr z=>exact h3
   ·refine ⟨.inr (vcmp x y),Loop_done ?_,?_⟩
    ·simp [drossref01_Lists_l1,lt_true hx,lt_true hy,idx_get hx,idx_get hy,ref_Compare_eq _ _ hsx,hxy]
    ·simp [lcmp,hxy]
theorem Lists_eq (a b:List Value) (ha:a.length≤1073741824) (hs:∀v∈a,v.Str.length≤1073741824):drossref01_Lists a b=some (lcmp a b):=by
 obtain ⟨o,h1,h2⟩:=lists_loop a b ha hs a 0 (by simp) (Nat.zero_le _) (Nat.zero_le _)
 simp only [drossref01_Lists]
 have h1':LoopF (drossref01_Lists_l1 a b) 0=some o:=h1
 rw [h1']
 cases o with
 | inl u =>
  simp only [List.drop_zero] at h2
  simp [ref_sign_eq,h2]
 | inr z =>
  simp only [List.drop_zero] at h2
  simp [h2]
theorem Same_eq (a b:List Value) (ha:a.length≤1073741824) (hs:∀v∈a,v.Str.length≤1073741824):drossref01_Same a b=some (decide (a=b)):=by
 simp only [drossref01_Same,Lists_eq a b ha hs,Option.bind_some]
 congr 1
 rw [Bool.eq_iff_iff];simp [lcmp_eq]
def okRule (r:Int):Bool:=decide (1≤r) && decide (r≤5)
def stepM (rows:List Row) (b:List Value×List Int) (rule:Int):List Value×List Int:=(b.1++[(chosen rows b.1.length rule).1],b.2++[(chosen rows b.1.length rule).2])
def mergedV (rows:List Row) (rules:List Int):List Value×List Int:=rules.foldl (stepM rows) ([],[])
def merging (rows:List Row) (rules:List Int):(Row×List Int)×Int :=
 if rowsErr rows≠0 then ((⟨0,[]⟩,[]),rowsErr rows)
 else if rules.length≠(rows[0]?.map (·.Values.length)).getD 0 then ((⟨0,[]⟩,[]),6)
 else if okRows 0 rows=false∨rules.all okRule=false then ((⟨0,[]⟩,[]),1)
 else ((⟨(rows[0]?.map (·.ID)).getD 0,(mergedV rows rules).1⟩,(mergedV rows rules).2),0)
theorem any_not_all {α:Type} (p:α→Bool) (l:List α):(l.any fun x=>!p x)=!l.all p:=by simp [List.all_eq_not_any_not]
def letter (c:Int):Bool:=(decide (97≤c) && decide (c≤122)) || ((decide (65≤c) && decide (c≤90)) || c == 95)
theorem letter_shape (c : Int) : (show Option Bool from
            if c ≥ 97 then
              if c ≤ 122 then some true
              else if c ≥ 65 then if c ≤ 90 then some true else some (c == 95) else some (c == 95)
            else if c ≥ 65 then if c ≤ 90 then some true else some (c == 95) else some (c == 95)) = some (letter c) := by
  simp only [letter]
  by_cases h1 : 97 ≤ c <;> by_cases h2 : c ≤ 122 <;> by_cases h3 : 65 ≤ c <;> by_cases h4 : c ≤ 90 <;> simp [h1, h2, h3, h4]
def lod (c:UInt8):Bool:=letter c.toNat || (decide (48≤(c.toNat:Int)) && decide ((c.toNat:Int)≤57))
def nameB:List UInt8→Bool
 | []=>false
 | c :: r=>decide (r.length < 24) && letter c.toNat && !((c :: r) == [110,117,108,108]) && r.all lod
theorem isName_eq (s:List UInt8):table_isName s=some (nameB s):=by
 cases s with
 | nil=>rfl
 | cons c r =>
  have hn:¬(((c :: r) == [])=true):=by simp
  simp only [table_isName,if_neg hn]
  by_cases h24:((c :: r).length:Int) > 24
  ·have:¬r.length < 24:=by simp at h24;omega
   rw [if_pos h24];simp [nameB,this]
  ·have h24':r.length < 24:=by simp at h24;omega
   rw [if_neg h24]
   by_cases hnull:((c :: r) == [110,117,108,108])=true
   ·simp only [hnull,if_true,nameB];simp
   ·simp only [Bool.not_eq_true] at hnull
    have hlet:∀x:UInt8,(show Option Bool from
      if ((x.toNat:Nat):Int)≥97 then
       if ((x.toNat:Nat):Int)≤122 then some true
       else if ((x.toNat:Nat):Int)≥65 then if ((x.toNat:Nat):Int)≤90 then some true else some (((x.toNat:Nat):Int) == 95) else some (((x.toNat:Nat):Int) == 95)
      else if ((x.toNat:Nat):Int)≥65 then if ((x.toNat:Nat):Int)≤90 then some true else some (((x.toNat:Nat):Int) == 95) else some (((x.toNat:Nat):Int) == 95))=some (letter x.toNat):=fun x=>letter_shape x.toNat
    have h:=LoopF_allk (c :: r) (table_isName_l1 (c :: r)) (fun k x=>letter x.toNat || (decide (k≠0) && (decide (48≤(x.toNat:Int)) && decide ((x.toNat:Int)≤57)))) false
     (fun k x hx hk hp=>by
      simp only [table_isName_l1,if_pos (lt_true hx),idx_get hx,Option.bind_some,hlet,wrap_succ hk (by simp;omega)]
      by_cases hx1:letter x.toNat=true
      ·simp [hx1]
      ·simp only [Bool.not_eq_true] at hx1
       simp only [hx1,Bool.false_or,Bool.and_eq_true,decide_eq_true_eq] at hp
       have e0:¬(((k:Int) == 0)=true):=by simp;omega
       have e1:¬(x.toNat:Int) < 48:=by omega
       have e2:¬(x.toNat:Int) > 57:=by omega
       simp [hx1,e0,e1,e2])
     (fun k x hx hp=>by
      simp only [table_isName_l1,if_pos (lt_true hx),idx_get hx,Option.bind_some,hlet]
      simp only [Bool.or_eq_false_iff,Bool.and_eq_false_iff,decide_eq_false_iff_not] at hp
      simp only [hp.1,Bool.false_eq_true,if_false]
      by_cases e0:k=0
      ·simp [e0]
      ·have e0':¬(((k:Int) == 0)=true):=by simp;omega
       by_cases e1:(x.toNat:Int) < 48
       ·simp [e1]
       ·have e2:(x.toNat:Int) > 57:=by
         rcases hp.2 with h | h | h
         ·exact absurd e0 h
         ·omega
         ·omega
        simp [e1,e2])
     (by simp [table_isName_l1]) (c :: r) 0 rfl (Nat.zero_le _)
    simp only [Int.natCast_zero] at h
    simp only [hnull,Bool.false_eq_true,if_false,h,Option.bind_some]
    have e:allFrom (fun k x=>letter x.toNat || (decide (k≠0) && (decide (48≤(x.toNat:Int)) && decide ((x.toNat:Int)≤57)))) 0 (c :: r)=(letter c.toNat && r.all lod):=by
     simp only [allFrom]
     rw [allFrom_congr (q:=fun _ x=>lod x) r 1 (fun j x hj _=>by
      have hj0:j≠0:=by omega
      simp [lod,hj0]),allFrom_all]
     simp
    rw [e]
    simp only [nameB,h24',decide_true,Bool.true_and,hnull,Bool.not_false,Bool.and_true]
    cases letter c.toNat <;> cases r.all lod <;> rfl
def posI:Option Nat→Int
 | some i=>i
 | none=>-1
theorem posI_any {α:Type} (p:α→Bool) (l:List α):decide (posI (l.findIdx? p)≥0)=l.any p:=by
 rw [←findIdx_any]
 cases l.findIdx? p <;> rfl
theorem Index_string_eq (l:List (List UInt8)) (s:List UInt8) (hl:l.length≤1073741824):slices_Index_string l s=some (posI (l.findIdx? (fun x=>s == x))):=by
 have h:=LoopF_find l (slices_Index_string_l1 l s) (fun x=>s == x)
  (fun k x hx hk hp=>by simp only [slices_Index_string_l1,if_pos (lt_true hx),idx_get hx,Option.bind_some,hp,Bool.false_eq_true,if_false,if_true,wrap_succ hk (show l.length≤4611686018427387904 by omega)])
  (fun k x hx hp=>by simp only [slices_Index_string_l1,if_pos (lt_true hx),idx_get hx,Option.bind_some,hp,if_true])
  (by simp [slices_Index_string_l1])
 simp only [slices_Index_string,h,Option.bind_some]
 cases l.findIdx? (fun x=>s == x) <;> rfl
theorem Contains_string_eq (l:List (List UInt8)) (s:List UInt8) (hl:l.length≤1073741824):slices_Contains_string l s=some (l.any fun x=>s == x):=by
 simp only [slices_Contains_string,Index_string_eq l s hl,Option.bind_some]
 exact congrArg some (posI_any _ l)
def namesB (l:List (List UInt8)):Bool:=allFrom (fun k x=>nameB x && !(l.take k).any fun y=>x == y) 0 l
def rowsCode (n:Nat):Int→List Row→Int
 | _,[]=>0
 | a,r :: l=>if r.ID≤a then 1 else if r.Values.length≠n then 6 else if r.Values.all valid then rowsCode n r.ID l else 1
def tableErr (t:Table):Int :=
 if nameB t.Name=false then 1 else if t.Attrs.length > 16 then 3 else if t.Rows.length > 1000 then 3 else if namesB t.Attrs=false then 1 else rowsCode t.Attrs.length 0 t.Rows
theorem validValues_eq (l:List Value) (hl:l.length≤1073741824):table_validValues l=some (l.all valid):=by
 simp only [table_validValues,ContainsFunc_Value_eq l (fun y=>table_validValues_1 y) (fun v=>!valid v) (fun y _=>by simp [table_validValues_1,value_Valid_eq]) hl,Option.bind_some,any_not_all,Bool.not_not]
theorem rows_loop {B:Int×Int→Option (LS (Int×Int) (Unit ⊕ Int))} (rows:List Row) (n:Nat)
  (hB:∀(k:Nat) (a:Int) x,rows[k]?=some x→k < rows.length→B (a,(k:Int))=if x.ID≤a then some (.done (.inr 1)) else if x.Values.length≠n then some (.done (.inr 6)) else if x.Values.all valid then some (.next (x.ID,((k+1:Nat):Int))) else some (.done (.inr 1)))
  (hE:∀a,B (a,(rows.length:Int))=some (.done (.inl ()))):∀(r:List Row) (k:Nat) (a:Int),rows.drop k=r→k≤rows.length→∃o,LoopF B (a,(k:Int))=some o∧(match o with | .inl ()=>rowsCode n a r=0 | .inr z=>rowsCode n a r=z∧z≠0):=by
 intro r
 induction r with
 | nil =>
  intro k a hd hk
  have:k=rows.length:=by
   have:=congrArg List.length hd
   simp at this;omega
  subst this
  exact ⟨.inl (),Loop_done (hE a),rfl⟩
 | cons x r ih =>
  intro k a hd hk
  have hx:rows[k]?=some x:=by
   have:=congrArg (·[0]?) hd
   simpa [List.getElem?_drop] using this
  have hd':rows.drop (k+1)=r:=by rw [←List.drop_drop,hd];rfl
  have hlt:=lt_of_get hx
  have hb:=hB k a x hx hlt
  by_cases h1:x.ID≤a
  ·rw [if_pos h1] at hb
   exact ⟨_,Loop_done hb,by simp [rowsCode,h1]⟩
  ·rw [if_neg h1] at hb
   by_cases h2:x.Values.length≠n
   ·rw [if_pos h2] at hb
    exact ⟨_,Loop_done hb,by simp [rowsCode,h1,h2]⟩
   ·rw [if_neg h2] at hb
    by_cases h3:x.Values.all valid=true
    ·rw [if_pos h3] at hb
     obtain ⟨o,h4,h5⟩:=ih (k+1) x.ID hd' hlt
     refine ⟨o,by rw [Loop_next hb];exact h4,?_⟩
     have e:rowsCode n a (x :: r)=rowsCode n x.ID r:=by
      simp only [rowsCode,if_neg h1,if_neg h2,if_pos h3]
     rw [e];exact h5
    ·rw [if_neg h3] at hb
     exact ⟨_,Loop_done hb,by simp only [rowsCode,if_neg h1,if_neg h2,if_neg h3];exact ⟨trivial,by omega⟩⟩
structure TableOk (t:Table):Prop where
 attrs:t.Attrs.length≤1073741824
 rows:t.Rows.length≤1073741824
 vals:∀r∈t.Rows,r.Values.length≤1073741824
 short:Short t.Rows
theorem tabOk_of {t:Table} (h:okTable t):TableOk t:=by
 obtain ⟨_,h2,h3⟩:=h
 refine ⟨by have:=h2.1;omega,by have:=h3.1;omega,fun r hr=>?_,fun r hr v hv=>?_⟩
 ·have:=(h3.2 r hr).2.1;omega
 ·have:okS v.Str:=((h3.2 r hr).2.2 v hv).2.2
  unfold okS at this;omega
theorem table_Valid_table (t : Table) (H : TableOk t) : table_Valid t = some (tableErr t) := by
  simp only [table_Valid, isName_eq, Option.bind_some, tableErr]
  by_cases h1 : nameB t.Name = true
  · by_cases h2 : t.Attrs.length > 16
    · have : (t.Attrs.length : Int) > 16 := by omega
      simp [h1, h2, this]
    · have h2' : ¬ (t.Attrs.length : Int) > 16 := by omega
      by_cases h3 : t.Rows.length > 1000
      · have : (t.Rows.length : Int) > 1000 := by omega
        simp [h1, h2, h2', h3, this]
      · have h3' : ¬ (t.Rows.length : Int) > 1000 := by omega
        have hN := LoopF_allk t.Attrs (table_Valid_l1 t) (fun k x => nameB x && !(t.Attrs.take k).any fun y => x == y) 1
          (fun k x hx hk hp => by
            simp only [Bool.and_eq_true, Bool.not_eq_true'] at hp
            have h0 : ((0 : Int) ≤ (k : Int)) := by omega
            have h1 : ((k : Int) ≤ (t.Attrs.length : Int)) := by omega
            have hA := H.attrs
            simp only [table_Valid_l1, if_pos (lt_true hx), idx_get hx, Option.bind_some, isName_eq, hp.1, if_true, if_pos h0, if_pos h1, Int.toNat_natCast, Contains_string_eq _ x (show (t.Attrs.take k).length ≤ 1073741824 by simp; omega), hp.2, Bool.false_eq_true, if_false,
              wrap_succ hk (show t.Attrs.length ≤ 4611686018427387904 by omega)])
          (fun k x hx hp => by
            have hk := lt_of_get hx
            have h0 : ((0 : Int) ≤ (k : Int)) := by omega
            have h1 : ((k : Int) ≤ (t.Attrs.length : Int)) := by omega
            have hA := H.attrs
            simp only [table_Valid_l1, if_pos (lt_true hx), idx_get hx, Option.bind_some, isName_eq, if_pos h0, if_pos h1, Int.toNat_natCast, Contains_string_eq _ x (show (t.Attrs.take k).length ≤ 1073741824 by simp; omega)]
            rcases Bool.eq_false_or_eq_true (nameB x) with hn | hn
            · simp only [hn, Bool.true_and, Bool.not_eq_false'] at hp
              simp only [hn, if_true, hp]
            · simp [hn])
          (by simp [table_Valid_l1]) t.Attrs 0 rfl (Nat.zero_le _)
        simp only [Int.natCast_zero] at hN
        simp only [h1, if_true, if_neg h2', if_neg h3', hN, Option.bind_some, Bool.true_eq_false, if_false, if_neg h2, if_neg h3]
        have hNe : namesB t.Attrs = allFrom (fun k x => nameB x && !(t.Attrs.take k).any fun y => x == y) 0 t.Attrs := rfl
        rw [← hNe]
        by_cases h4 : namesB t.Attrs = true
        · obtain ⟨o, h5, h6⟩ := rows_loop (B := table_Valid_l2 t) t.Rows t.Attrs.length (fun k a x hx hk => by
              simp only [table_Valid_l2, if_pos (lt_true hx), idx_get hx, Option.bind_some, validValues_eq _ (H.vals x (List.mem_of_getElem? hx)), wrap_succ hk (show t.Rows.length ≤ 4611686018427387904 by have := H.rows; omega)]
              by_cases e1 : x.ID ≤ a
              · simp [e1]
              · by_cases e2 : x.Values.length = t.Attrs.length
                · simp [e1, e2]
                · have : ¬ ((x.Values.length : Int) = t.Attrs.length) := by omega
                  simp [e1, e2, this]) (fun a => by simp [table_Valid_l2]) t.Rows 0 0 rfl (Nat.zero_le _)
          simp only [Int.natCast_zero] at h5
          simp only [h4, if_true, h5, Option.bind_some, Bool.true_eq_false, if_false]
          cases o with
          | inl u => simp only at h6 ⊢; rw [h6]
          | inr z => simp only at h6 ⊢; rw [h6.1]
        · simp only [Bool.not_eq_true] at h4
          simp [h4]
  · simp only [Bool.not_eq_true] at h1
    simp [h1]
end Go.Proofs.YtmlegeeinnkhkaaGreat
namespace Go.Ab
open Go
theorem room16 {n:Nat} (h:n≤8000000000):roomB n 16=true:=by
 unfold roomB
 simp only [decide_eq_true_eq]
 omega
theorem range_get {n k x:Nat} (h:(List.range n)[k]?=some x):x=k∧k < n:=by
 have hl:=lt_of_get h
 rw [List.length_range] at hl
 rw [List.getElem?_range hl] at h
 exact ⟨(Option.some.inj h).symm,hl⟩
end Go.Ab
namespace Go.Proofs.YtmlegeeinnkhkaaGreat
open Go Go.Ab
end Go.Proofs.YtmlegeeinnkhkaaGreat
namespace Go.Ab
open Go
def insRev {α:Type} (lt:α→α→Bool) (x:α):List α→List α
 | []=>[x]
 | y :: r=>if lt x y then y :: insRev lt x r else x :: y :: r
def insR {α:Type} (lt:α→α→Bool) (x:α) (s:List α):List α:=(insRev lt x s.reverse).reverse
theorem insR_append {α:Type} (lt:α→α→Bool) (x y:α) (s:List α):insR lt x (s++[y])=if lt x y then insR lt x s++[y] else s++[y,x]:=by
 unfold insR
 rw [List.reverse_append]
 simp only [List.reverse_singleton,List.singleton_append,insRev]
 split <;> simp
theorem insRev_perm {α:Type} (lt:α→α→Bool) (x:α):∀s:List α,(insRev lt x s).Perm (x :: s)
 | []=>List.Perm.refl _
 | y :: r=>by
  simp only [insRev]
  split
  ·exact ((insRev_perm lt x r).cons y).trans (List.Perm.swap x y r)
  ·exact List.Perm.refl _
theorem insR_perm {α:Type} (lt:α→α→Bool) (x:α) (s:List α):(insR lt x s).Perm (x :: s):=by
 unfold insR
 exact (List.reverse_perm _).trans ((insRev_perm lt x _).trans ((List.reverse_perm s).cons x))
theorem insR_len {α:Type} (lt:α→α→Bool) (x:α) (s:List α):(insR lt x s).length=s.length+1:=by rw [(insR_perm lt x s).length_eq];rfl
theorem insRev_sorted {α:Type} (lt:α→α→Bool) (asym:∀x y,lt x y=true→lt y x=false) (ntr:∀x y z,lt y x=false→lt z y=false→lt z x=false) (x:α) :
  ∀s:List α,s.Pairwise (fun a b=>lt a b=false)→(insRev lt x s).Pairwise (fun a b=>lt a b=false)
 | [],_=>List.pairwise_singleton _ _
 | y :: r,h=>by
  simp only [insRev]
  obtain ⟨h1,h2⟩:=List.pairwise_cons.1 h
  by_cases hxy:lt x y=true
  ·rw [if_pos hxy]
   refine List.pairwise_cons.2 ⟨fun z hz=>?_,insRev_sorted lt asym ntr x r h2⟩
   rcases List.mem_cons.1 ((insRev_perm lt x r).mem_iff.1 hz) with rfl | hz
   ·exact asym _ _ hxy
   ·exact h1 z hz
  ·rw [if_neg hxy]
   have hxy:lt x y=false:=by simpa using hxy
   refine List.pairwise_cons.2 ⟨fun z hz=>?_,h⟩
   rcases List.mem_cons.1 hz with rfl | hz
   ·exact hxy
   ·exact ntr _ _ _ (h1 z hz) hxy
theorem insR_sorted {α:Type} (lt:α→α→Bool) (asym:∀x y,lt x y=true→lt y x=false) (ntr:∀x y z,lt y x=false→lt z y=false→lt z x=false) (x:α)
  (s:List α) (h:s.Pairwise (fun a b=>lt b a=false)):(insR lt x s).Pairwise (fun a b=>lt b a=false):=by
 unfold insR
 rw [List.pairwise_reverse]
 exact insRev_sorted lt asym ntr x _ (by rw [List.pairwise_reverse];exact h)
theorem sift_loop {α:Type} (lt:α→α→Bool) (B:(List α×Int)→Option (LS (List α×Int) (List α))) (N:Nat)
  (h0:∀l,B (l,0)=some (.done l))
  (h1:∀(l:List α) (k:Nat) x y,k+1 < N→l[k+1]?=some x→l[k]?=some y→lt x y=true→B (l,((k+1:Nat):Int))=some (.next ((l.set (k+1) y).set k x,(k:Int))))
  (h2:∀(l:List α) (k:Nat) x y,k+1 < N→l[k+1]?=some x→l[k]?=some y→lt x y=false→B (l,((k+1:Nat):Int))=some (.done l)) (x:α) :
  ∀(n:Nat) (s t:List α),s.length=n→n < N→LoopF B (s++x :: t,(n:Int))=some (insR lt x s++t):=by
 intro n
 induction n with
 | zero =>
  intro s t hs hN
  have:s=[]:=List.eq_nil_of_length_eq_zero hs
  subst this
  rw [Int.natCast_zero,Loop_done (h0 _)]
  rfl
 | succ n ih =>
  intro s t hs hN
  obtain ⟨s',y,rfl⟩:∃s' y,s=s'++[y]:=by
   rcases List.eq_nil_or_concat s with rfl | ⟨s',y,rfl⟩
   ·simp at hs
   ·exact ⟨s',y,by simp⟩
  have hs':s'.length=n:=by simpa using hs
  have e:s'++[y]++x :: t=s'++y :: x :: t:=by simp
  have g1:(s'++y :: x :: t)[n+1]?=some x:=by rw [List.getElem?_append_right (by omega),hs'];simp
  have g2:(s'++y :: x :: t)[n]?=some y:=by rw [List.getElem?_append_right (by omega),hs'];simp
  rw [e]
  by_cases hl:lt x y=true
  ·rw [Loop_next (h1 _ n x y hN g1 g2 hl)]
   have e2:((s'++y :: x :: t).set (n+1) y).set n x=s'++x :: y :: t:=by
    subst hs'
    rw [List.set_append_right _ _ (by omega),show s'.length+1 - s'.length=1 by omega]
    simp
   rw [e2,ih s' (y :: t) hs' (by omega),insR_append,if_pos hl]
   simp
  ·have hl:lt x y=false:=by simpa using hl
   rw [Loop_done (h2 _ n x y hN g1 g2 hl),insR_append,hl]
   simp
def insAll {α:Type} (lt:α→α→Bool) (l:List α):List α:=l.foldl (fun s x=>insR lt x s) []
theorem insAll_from {α:Type} (lt:α→α→Bool) (asym:∀x y,lt x y=true→lt y x=false) (ntr:∀x y z,lt y x=false→lt z y=false→lt z x=false) :
  ∀(l s:List α),s.Pairwise (fun a b=>lt b a=false)→(l.foldl (fun s x=>insR lt x s) s).Perm (s++l)∧(l.foldl (fun s x=>insR lt x s) s).Pairwise (fun a b=>lt b a=false)
 | [],s,h=>⟨by simp,h⟩
 | x :: l,s,h=>by
  obtain ⟨p,q⟩:=insAll_from lt asym ntr l (insR lt x s) (insR_sorted lt asym ntr x s h)
  refine ⟨p.trans ?_,q⟩
  exact ((insR_perm lt x s).append_right l).trans (by rw [List.cons_append];exact List.perm_middle.symm)
def comm {α:Type} (lt:α→α→Bool):List α→List α→Nat
 | [],_=>0
 | _ :: _,[]=>0
 | a :: u,b :: v=>if lt a b then comm lt u (b :: v) else if lt b a then comm lt (a :: u) v else comm lt u v+1
termination_by l r=>l.length+r.length
theorem comm_nil {α:Type} (lt:α→α→Bool) (l:List α):comm lt l []=0:=by cases l <;> simp [comm]
theorem comm_le {α:Type} (lt:α→α→Bool):∀n (l r:List α),l.length+r.length≤n→comm lt l r≤l.length:=by
 intro n
 induction n with
 | zero=>intro l r h;have:l=[]:=List.eq_nil_of_length_eq_zero (by omega);subst this;simp [comm]
 | succ n ih =>
  intro l r h
  cases l with
  | nil=>simp [comm]
  | cons a l =>
   cases r with
   | nil=>simp [comm]
   | cons b r =>
    simp only [List.length_cons] at h
    simp only [comm]
    split
    ·have:=ih l (b :: r) (by simp;omega);simp;omega
    ·split
     ·have:=ih (a :: l) r (by simp;omega);simpa using this
     ·have:=ih l r (by omega);simp;omega
end Go.Ab
namespace Go.Proofs.YtmlegeeinnkhkaaGreat
open Go Go.Ab
abbrev Str:=List UInt8
def ltS (a b:Str):Bool:=decide (a < b)
theorem bless:∀(x y:Str),Op.bytesLess x y=ltS x y:=fun x y=>by
 show Op.bytesLess x y=decide (x < y)
 induction x generalizing y with
 | nil=>cases y <;> simp [Op.bytesLess]
 | cons a x ih =>
  cases y with
  | nil=>simp [Op.bytesLess]
  | cons b y =>
   simp only [Op.bytesLess,ih]
   by_cases h1:a < b
   ·simp [h1,List.cons_lt_cons_iff]
   ·by_cases h2:a=b
    ·subst h2;simp [List.cons_lt_cons_iff]
    ·simp [h1,h2,List.cons_lt_cons_iff]
theorem ltS_irr (x:Str):ltS x x=false:=by simp [ltS,List.lt_irrefl]
theorem ltS_asym (x y:Str) (h:ltS x y=true):ltS y x=false:=by
 simp only [ltS,decide_eq_true_eq,decide_eq_false_iff_not] at *
 exact List.lt_asymm h
theorem ltS_ntr (x y z:Str) (h1:ltS y x=false) (h2:ltS z y=false):ltS z x=false:=by
 simp only [ltS,decide_eq_false_iff_not,List.not_lt] at *
 exact List.le_trans h1 h2
theorem ltS_eq {x y:Str} (h1:ltS x y=false) (h2:ltS y x=false):x=y:=by
 simp only [ltS,decide_eq_false_iff_not,List.not_lt] at *
 exact List.le_antisymm h2 h1
theorem repeat1:∀n:Nat,Lib.repeatL [1] n=List.replicate n (1:UInt8)
 | 0=>rfl
 | n+1=>by simp only [Lib.repeatL,repeat1 n];rfl
def wideB (s:Str) (q:Nat):Str:=List.replicate (q - 1) 1++s++List.replicate (q - 1) 1
theorem wideB_len (s:Str) (q:Nat):(wideB s q).length=s.length+2 * (q - 1):=by simp [wideB];omega
def gramAt (s:Str) (q i:Nat):Str:=((wideB s q).drop i).take q
def rawGrams (s:Str) (q:Nat):List Str:=(List.range (s.length+q - 1)).map (gramAt s q)
def gramsB (s:Str) (q:Nat):List Str:=insAll ltS (rawGrams s q)
theorem gramsB_perm (s:Str) (q:Nat):(gramsB s q).Perm (rawGrams s q):=by
 have:=(insAll_from ltS ltS_asym ltS_ntr (rawGrams s q) [] List.Pairwise.nil).1
 simpa [gramsB,insAll] using this
theorem gramsB_len (s:Str) (q:Nat):(gramsB s q).length=s.length+q - 1:=by rw [(gramsB_perm s q).length_eq];simp [rawGrams]
theorem srtS_ins (l:List Str):srtS l=insAll ltS l:=by
 obtain ⟨p,h⟩:=insAll_from ltS ltS_asym ltS_ntr l [] List.Pairwise.nil
 have p:(insAll ltS l).Perm l:=by simpa [insAll] using p
 refine List.Perm.eq_of_pairwise (le:=fun x y=>ltS y x=false) (fun a b _ _ h1 h2=>ltS_eq h2 h1) ?_ h ((srtS_perm l).trans p.symm)
 have:=List.pairwise_mergeSort (le:=fun x y:Str=>decide (x≤y)) (fun a b c h1 h2=>by simp only [decide_eq_true_eq] at *;exact List.le_trans h1 h2) (fun a b=>by simp only [Bool.or_eq_true,decide_eq_true_eq];exact List.le_total a b) l
 exact this.imp fun h=>by simpa [ltS,List.not_lt] using h
theorem wrapN {x:Int} (h1:-4611686018427387904≤x) (h2:x≤4611686018427387904):IntKind.i64.wrap x=x:=wrap_i64 (by omega) (by omega)
theorem Grams_eq (s:Str) (q:Nat) (hs:s.length≤200) (h1:1≤q) (h4:q≤4):similarity_Grams s (q:Int)=some (gramsB s q,0):=by
 have hlong:similarity_long [s]=some false:=by
  have:¬((s.length:Int) > 200):=by omega
  simp only [similarity_long,slices_ContainsFunc_string,slices_IndexFunc_string]
  have e1:slices_IndexFunc_string_l1 [s] (fun y=>similarity_long_1 y) 0=some (.next 1):=by
   have:idx [s] 0=some s:=rfl
   simp only [slices_IndexFunc_string_l1,this,Option.bind_some,similarity_long_1,List.length_singleton]
   have h0:(0:Int) < ((1:Nat):Int):=by omega
   have h2:(0:Int)+1=1:=rfl
   rw [if_pos h0]
   simp only [show ¬((s.length:Int) > 200) by omega,decide_false,Bool.false_eq_true,if_false]
   rw [wrapN (by omega) (by omega)];rfl
  have e2:slices_IndexFunc_string_l1 [s] (fun y=>similarity_long_1 y) 1=some (.done (.inl ())):=by simp [slices_IndexFunc_string_l1]
  rw [Loop_next e1,Loop_done e2]
  rfl
 have hq1:¬((q:Int) < 1):=by omega
 have hq2:¬((q:Int) > 4):=by omega
 have hw1:IntKind.i64.wrap ((q:Int) - 1)=((q - 1:Nat):Int):=by rw [wrapN (by omega) (by omega)];omega
 have hr:strings_Repeat [1] ((q - 1:Nat):Int)=some (List.replicate (q - 1) 1):=by
  simp only [strings_Repeat,repF]
  rw [if_pos ⟨by omega,by omega,by simp⟩,Int.toNat_natCast,repeat1]
 have hl1:(List.replicate (q - 1) (1:UInt8)).length+s.length≤9223372036854775807:=by simp;omega
 have hl2:(List.replicate (q - 1) (1:UInt8)++s).length+(List.replicate (q - 1) (1:UInt8)).length≤9223372036854775807:=by simp;omega
 have hN:IntKind.i64.wrap (IntKind.i64.wrap ((s.length:Int)+(q:Int)) - 1)=((s.length+q - 1:Nat):Int):=by
  rw [wrapN (x:=(s.length:Int)+(q:Int)) (by omega) (by omega),wrapN (by omega) (by omega)];omega
 have hL:=LoopF_list (List.range (s.length+q - 1)) (fun (out:List Str) (k:Int)=>(out,k)) (similarity_Grams_l1 s q (wideB s q)) (fun out i=>(Sum.inl (out++[gramAt s q i]):List Str ⊕ List Str)) id (fun k out=>out.length=k) (b0:=[]) (s0:=([],0)) rfl rfl
  (fun k b x hx hk hI=>by
   obtain ⟨rfl,hk⟩:=range_get hx
   refine ⟨fun b' hb=>?_,fun t ht=>by cases ht⟩
   cases hb
   have e1:((x:Nat):Int) < ((s.length+q - 1:Nat):Int):=by omega
   have e2:IntKind.i64.wrap ((x:Int)+(q:Int))=((x+q:Nat):Int):=by rw [wrapN (by omega) (by omega)];omega
   have e3:(x:Int)≤((x+q:Nat):Int):=by omega
   have e4:((x+q:Nat):Int)≤((wideB s q).length:Int):=by rw [wideB_len];omega
   refine ⟨?_,by simp [hI]⟩
   simp only [similarity_Grams_l1,hN,if_pos e1,e2,if_pos e3,if_pos e4,show (0:Int)≤(x:Int) by omega,if_true,room16 (show b.length+1≤8000000000 by omega),Int.toNat_natCast,wrap_nat (show x < 4611686018427387904 by omega)]
   rw [show x+q - x=q by omega];rfl)
  (fun b hI=>by simp only [List.length_range,similarity_Grams_l1,hN];simp)
 have hf:foldR (fun out i=>(Sum.inl (out++[gramAt s q i]):List Str ⊕ List Str)) id (List.range (s.length+q - 1)) []=rawGrams s q:=by
  rw [foldl_of (fun out i=>out++[gramAt s q i])]
  unfold rawGrams
  have:∀(l:List Nat) (out:List Str),l.foldl (fun out i=>out++[gramAt s q i]) out=out++l.map (gramAt s q):=by
   intro l
   induction l with
   | nil=>simp
   | cons x l ih=>intro out;simp [ih]
  rw [this];rfl
 rw [hf] at hL
 have hsz:(rawGrams s q).length < 4611686018427387904:=by simp [rawGrams];omega
 have hwide:List.replicate (q - 1) (1:UInt8)++s++List.replicate (q - 1) 1=wideB s q:=rfl
 simp only [similarity_Grams,hlong,Option.bind_some,Bool.false_eq_true,if_false,hq1,hq2,hw1,hr,if_pos hl1,if_pos hl2,hwide,hL,srtSF,if_pos hsz,srtS_ins]
 rfl
theorem ref_wide (s : Str) (q : Nat) (hs : s.length ≤ 200) (h1 : 1 ≤ q) (h4 : q ≤ 4) : LoopF (drossref52_Grams_l1 (q : Int)) (s, 1) = some (wideB s q) := by
  have step : ∀ (w : Str) (i : Nat), i < q → w.length ≤ 1000 → drossref52_Grams_l1 (q : Int) (w, (i : Int)) = some (.next ([1] ++ w ++ [1], ((i + 1 : Nat) : Int))) := fun w i hi hw => by
    have e1 : (i : Int) < (q : Int) := by omega
    have e2 : 1 + w.length ≤ 9223372036854775807 := by omega
    have e3 : w.length + 1 + 1 ≤ 9223372036854775807 := by omega
    simp only [drossref52_Grams_l1, if_pos e1, if_pos e2, if_pos e3, wrap_nat (show i < 4611686018427387904 by omega)]
  have fin : ∀ (w : Str), drossref52_Grams_l1 (q : Int) (w, (q : Int)) = some (.done w) := fun w => by simp [drossref52_Grams_l1]
  have key : ∀ (n i : Nat) (w : Str), i + n = q → w.length + 2 * n ≤ 1000 → LoopF (drossref52_Grams_l1 (q : Int)) (w, (i : Int)) = some (List.replicate n 1 ++ w ++ List.replicate n 1) := by
    intro n
    induction n with
    | zero => intro i w h _; obtain rfl : i = q := by omega
              rw [Loop_done (fin w)]; simp
    | succ n ih =>
      intro i w h hw
      rw [Loop_next (step w i (by omega) (by omega)), ih (i + 1) _ (by omega) (by simp; omega)]
      congr 1
      have : ∀ n : Nat, List.replicate n (1 : UInt8) ++ [1] = List.replicate (n + 1) 1 := fun n => List.replicate_succ'.symm
      rw [← List.append_assoc, ← List.append_assoc, this, List.append_assoc _ [1], List.singleton_append, ← List.replicate_succ]
  have := key (q - 1) 1 s (by omega) (by omega)
  exact this
theorem ref_Grams_eq (s:Str) (q:Nat) (hs:s.length≤200) (h1:1≤q) (h4:q≤4):drossref52_Grams s (q:Int)=some (gramsB s q,0):=by
 have hlong:drossref52_long s=some false:=by
  have:¬((s.length:Int) > 200):=by omega
  simp [drossref52_long,this]
 have hq1:¬((q:Int) < 1):=by omega
 have hq2:¬((q:Int) > 4):=by omega
 have hN:IntKind.i64.wrap (IntKind.i64.wrap ((s.length:Int)+(q:Int)) - 1)=((s.length+q - 1:Nat):Int):=by
  rw [wrapN (x:=(s.length:Int)+(q:Int)) (by omega) (by omega),wrapN (by omega) (by omega)];omega
 have hsift:=fun (x:Str) (out:List Str) (h:out.length < 1000)=>sift_loop ltS drossref52_Grams_l4 1000 (fun l=>by simp [drossref52_Grams_l4])
  (fun l k x y hk hx hy hl=>by
   have e1:((k+1:Nat):Int) > 0:=by omega
   have e2:IntKind.i64.wrap (((k+1:Nat):Int) - 1)=(k:Int):=by rw [wrapN (by omega) (by omega)];omega
   have e3:(l.set (k+1) y)[k]?=some y:=by rw [List.getElem?_set_ne (by omega)];exact hy
   simp only [drossref52_Grams_l4,if_pos e1,idx_get hx,e2,idx_get hy,Option.bind_some,bless,hl,if_true,Int.toNat_natCast,idx_get e3])
  (fun l k x y hk hx hy hl=>by
   have e1:((k+1:Nat):Int) > 0:=by omega
   have e2:IntKind.i64.wrap (((k+1:Nat):Int) - 1)=(k:Int):=by rw [wrapN (by omega) (by omega)];omega
   simp only [drossref52_Grams_l4,if_pos e1,idx_get hx,e2,idx_get hy,Option.bind_some,bless,hl,Bool.false_eq_true,if_false]) x out.length out [] rfl h
 have hL:=LoopF_list (List.range (s.length+q - 1)) (fun (out:List Str) (k:Int)=>(out,k)) (drossref52_Grams_l5 s q (wideB s q)) (fun out i=>(Sum.inl (insR ltS (gramAt s q i) out):List Str ⊕ List Str)) id (fun k out=>out.length=k) (b0:=[]) (s0:=([],0)) rfl rfl
  (fun k b x hx hk hI=>by
   obtain ⟨rfl,hk⟩:=range_get hx
   refine ⟨fun b' hb=>?_,fun t ht=>by cases ht⟩
   cases hb
   have e1:((x:Nat):Int) < ((s.length+q - 1:Nat):Int):=by omega
   have e2:IntKind.i64.wrap ((x:Int)+(q:Int))=((x+q:Nat):Int):=by rw [wrapN (by omega) (by omega)];omega
   have e3:(x:Int)≤((x+q:Nat):Int):=by omega
   have e4:((x+q:Nat):Int)≤((wideB s q).length:Int):=by rw [wideB_len];omega
   have e5:IntKind.i64.wrap (((b.length+1:Nat):Int) - 1)=(b.length:Int):=by rw [wrapN (by omega) (by omega)];omega
   refine ⟨?_,by rw [insR_len,hI]⟩
   simp only [drossref52_Grams_l5,hN,if_pos e1,e2,if_pos e3,if_pos e4,show (0:Int)≤(x:Int) by omega,if_true,room16 (show b.length+1≤8000000000 by omega),Int.toNat_natCast,wrap_nat (show x < 4611686018427387904 by omega),e5]
   rw [show x+q - x=q by omega]
   have:=hsift (gramAt s q x) b (by omega)
   rw [List.append_nil] at this
   unfold gramAt at this
   rw [this];rfl)
  (fun b hI=>by
   simp only [List.length_range,drossref52_Grams_l5,hN]
   simp)
 have hf:foldR (fun out i=>(Sum.inl (insR ltS (gramAt s q i) out):List Str ⊕ List Str)) id (List.range (s.length+q - 1)) []=gramsB s q:=by
  rw [foldl_of (fun out i=>insR ltS (gramAt s q i) out)]
  unfold gramsB insAll rawGrams
  rw [List.foldl_map]
 rw [hf] at hL
 simp only [drossref52_Grams,hlong,Option.bind_some,Bool.false_eq_true,if_false,hq1,hq2,ref_wide s q hs h1 h4,hL]
theorem drop_cons {α:Type} {l:List α} {k:Nat} {x:α} (h:l[k]?=some x):l.drop k=x :: l.drop (k+1):=by
 obtain ⟨h1,h2⟩:=List.getElem?_eq_some_iff.1 h
 rw [List.drop_eq_getElem_cons h1,h2]
def skipK (x:Str):List Str→Nat
 | []=>0
 | y :: l=>if ltS y x then skipK x l+1 else 0
theorem comm_skip (x:Str) (u:List Str):∀v:List Str,comm ltS (x :: u) v=comm ltS (x :: u) (v.drop (skipK x v))
 | []=>rfl
 | y :: v=>by
  simp only [skipK]
  by_cases h:ltS y x=true
  ·have h':ltS x y=false:=ltS_asym _ _ h
   rw [if_pos h,List.drop_succ_cons,←comm_skip x u v]
   simp [comm,h,h']
  ·rw [if_neg h];rfl
theorem skipK_le (x:Str):∀v:List Str,skipK x v≤v.length
 | []=>Nat.le_refl _
 | y :: v=>by simp only [skipK];split <;> simp [skipK_le x v]
theorem Shared_eq (a b:List Str) (ha:a.length≤1000000) (hb:b.length≤1000000):drossref52_Shared a b=some ((comm ltS a b:Nat):Int):=by
 have inner:∀(i:Nat) (x:Str),a[i]?=some x→∀(m k:Nat),b.length - k=m→k≤b.length→LoopF (drossref52_Shared_l3 a b (i:Int)) (k:Int)=some ((k+skipK x (b.drop k):Nat):Int):=by
  intro i x hx m
  induction m with
  | zero =>
   intro k hm hk
   have e2:¬(k:Int) < (b.length:Int):=by omega
   rw [Loop_done (t:=(k:Int)) (by simp only [drossref52_Shared_l3,if_neg e2]),List.drop_of_length_le (l:=b) (by omega)];rfl
  | succ m ih =>
   intro k hm hk
   have h2:k < b.length:=by omega
   have g2:b[k]?=some b[k]:=List.getElem?_eq_getElem h2
   have e2:(k:Int) < (b.length:Int):=by omega
   rw [drop_cons g2]
   simp only [skipK]
   by_cases l:ltS b[k] x=true
   ·rw [Loop_next (s':=((k+1:Nat):Int)) (by simp only [drossref52_Shared_l3,if_pos e2,idx_get g2,idx_get hx,Option.bind_some,bless,l,if_true,wrap_nat (show k < 4611686018427387904 by omega)]),ih (k+1) (by omega) (by omega),if_pos l]
    congr 2;omega
   ·rw [Loop_done (t:=(k:Int)) (by simp only [drossref52_Shared_l3,if_pos e2,idx_get g2,idx_get hx,Option.bind_some,bless,l,if_false,Bool.false_eq_true]),if_neg l];rfl
 have key:∀(m i k n:Nat),a.length - i=m→i≤a.length→k≤b.length→n≤i→LoopF (drossref52_Shared_l4 a b) ((n:Int),(k:Int),(i:Int))=some ((n+comm ltS (a.drop i) (b.drop k):Nat):Int):=by
  intro m
  induction m with
  | zero =>
   intro i k n hm hi hk hn
   have e1:¬(i:Int) < (a.length:Int):=by omega
   rw [Loop_done (t:=(n:Int)) (by simp only [drossref52_Shared_l4,if_neg e1]),List.drop_of_length_le (l:=a) (by omega)]
   simp [comm]
  | succ m ih =>
   intro i k n hm hi hk hn
   have h1:i < a.length:=by omega
   have g1:a[i]?=some a[i]:=List.getElem?_eq_getElem h1
   have e1:(i:Int) < (a.length:Int):=by omega
   have hin:=inner i _ g1 _ k rfl hk
   rw [drop_cons g1,comm_skip,List.drop_drop]
   have hk2:=skipK_le a[i] (b.drop k)
   rw [List.length_drop] at hk2
   generalize hk':k+skipK a[i] (b.drop k)=k' at hin
   have hle:k'≤b.length:=by omega
   by_cases h2:k' < b.length
   ·have g2:b[k']?=some b[k']:=List.getElem?_eq_getElem h2
    have e2:(k':Int) < (b.length:Int):=by omega
    rw [drop_cons g2]
    by_cases he:b[k']=a[i]
    ·rw [Loop_next (s':=(((n+1:Nat):Int),((k'+1:Nat):Int),((i+1:Nat):Int))) (by
      simp only [drossref52_Shared_l4,if_pos e1,hin,Option.bind_some,if_pos e2,idx_get g1,idx_get g2,he,beq_self_eq_true,if_true,wrap_nat (show i < 4611686018427387904 by omega),wrap_nat (show k' < 4611686018427387904 by omega),wrap_nat (show n < 4611686018427387904 by omega)]),
      ih (i+1) (k'+1) (n+1) (by omega) (by omega) (by omega) (by omega)]
     rw [he]
     simp only [comm,ltS_irr,if_false,Bool.false_eq_true]
     congr 2;omega
    · -- the next one is greater
     have hng:ltS b[k'] a[i]=false:=by
      have aux:∀(v:List Str) (y:Str),v[skipK a[i] v]?=some y→ltS y a[i]=false:=by
       intro v
       induction v with
       | nil=>intro y h;simp at h
       | cons z v ihv =>
        intro y h
        simp only [skipK] at h
        by_cases hz:ltS z a[i]=true
        ·rw [if_pos hz] at h;exact ihv y (by simpa using h)
        ·rw [if_neg hz] at h
         simp only [List.getElem?_cons_zero,Option.some.injEq] at h
         subst h;simpa using hz
      refine aux (b.drop k) _ ?_
      rw [List.getElem?_drop,hk'];exact g2
     have hgt:ltS a[i] b[k']=true:=by
      rcases Bool.eq_false_or_eq_true (ltS a[i] b[k']) with h | h
      ·exact h
      ·exact absurd (ltS_eq hng h) he
     have hbe:(b[k'] == a[i])=false:=by simpa using he
     rw [Loop_next (s':=((n:Int),(k':Int),((i+1:Nat):Int))) (by
      simp only [drossref52_Shared_l4,if_pos e1,hin,Option.bind_some,if_pos e2,idx_get g1,idx_get g2,hbe,if_false,Bool.false_eq_true,wrap_nat (show i < 4611686018427387904 by omega)]),
      ih (i+1) k' n (by omega) (by omega) (by omega) (by omega)]
     simp only [comm,hgt,if_true]
     rw [drop_cons g2]
   ·have e2:¬(k':Int) < (b.length:Int):=by omega
    rw [Loop_next (s':=((n:Int),(k':Int),((i+1:Nat):Int))) (by
     simp only [drossref52_Shared_l4,if_pos e1,hin,Option.bind_some,if_neg e2,if_false,Bool.false_eq_true,wrap_nat (show i < 4611686018427387904 by omega)]),
     ih (i+1) k' n (by omega) (by omega) (by omega) (by omega)]
    rw [List.drop_of_length_le (l:=b) (by omega),comm_nil,comm_nil]
 have:=key _ 0 0 0 rfl (Nat.zero_le _) (Nat.zero_le _) (Nat.le_refl _)
 simp only [Int.natCast_zero,List.drop_zero,Nat.zero_add] at this
 simp only [drossref52_Shared,this,Option.bind_some]
end Go.Proofs.YtmlegeeinnkhkaaGreat
namespace Go.Ab
inductive EdN {α:Type}:Nat→List α→List α→Prop
 | nil:EdN 0 [] []
 | keep {n:Nat} {a b:List α} {x:α}:EdN n a b→EdN n (a++[x]) (b++[x])
 | sub {n:Nat} {a b:List α} {x y:α}:EdN n a b→EdN (n+1) (a++[x]) (b++[y])
 | del {n:Nat} {a b:List α} {x:α}:EdN n a b→EdN (n+1) (a++[x]) b
 | ins {n:Nat} {a b:List α} {y:α}:EdN n a b→EdN (n+1) a (b++[y])
theorem EdN.len {α:Type} {n:Nat} {a b:List α} (h:EdN n a b):a.length≤b.length+n∧b.length≤a.length+n:=by
 induction h <;> simp only [List.length_append,List.length_singleton,List.length_nil] at * <;> omega
def wins {α:Type} (q:Nat) (w:List α):List (List α):=(List.range (w.length+1 - q)).map fun i=>(w.drop i).take q
theorem wins_snoc {α:Type} (q:Nat) (w:List α) (x:α) (h:q≤w.length+1):wins q (w++[x])=wins q w++[(w++[x]).drop (w.length+1 - q)]:=by
 unfold wins
 rw [List.length_append,List.length_singleton,show w.length+1+1 - q=(w.length+1 - q)+1 by omega,List.range_succ,List.map_append,List.map_singleton]
 congr 1
 ·apply List.map_congr_left
  intro i hi
  rw [List.mem_range] at hi
  rw [List.drop_append_of_le_length (by omega),List.take_append_of_le_length (by rw [List.length_drop];omega)]
 ·congr 1
  apply List.take_of_length_le
  rw [List.length_drop,List.length_append,List.length_singleton];omega
def EdI {α:Type} (q n:Nat) (a b:List α):Prop :=
 q≤a.length+1∧q≤b.length+1∧∃(u v t:List α) (C X Y:List (List α)),a=u++t∧b=v++t∧t.length≤q - 1 ∧
  (wins q a).Perm (C++X)∧(wins q b).Perm (C++Y)∧X.length+(q - 1)≤n * q+t.length∧Y.length+(q - 1)≤n * q+t.length
theorem perm_snoc {α:Type} {l C X:List α} (g:α) (h:l.Perm (C++X)):(l++[g]).Perm (C++(X++[g])):=by
 rw [←List.append_assoc];exact h.append_right _
theorem perm_snoc' {α:Type} {l C X:List α} (g:α) (h:l.Perm (C++X)):(l++[g]).Perm ((C++[g])++X):=by
 refine (h.append_right _).trans ?_
 rw [List.append_assoc,List.append_assoc]
 exact (List.perm_append_comm).append_left C
theorem EdI.keep {α:Type} {q n:Nat} {a b:List α} (hq:1≤q) (x:α) (h:EdI q n a b):EdI q n (a++[x]) (b++[x]):=by
 obtain ⟨ha,hb,u,v,t,C,X,Y,ea,eb,ht,hX,hY,lX,lY⟩:=h
 refine ⟨by rw [List.length_append];omega,by rw [List.length_append];omega,?_⟩
 rw [wins_snoc q a x ha,wins_snoc q b x hb]
 by_cases hs:t.length=q - 1
 ·have e1:(a++[x]).drop (a.length+1 - q)=t++[x]:=by
   rw [ea,List.append_assoc]
   rw [show (u++t).length+1 - q=u.length by rw [List.length_append];omega,List.drop_left]
  have e2:(b++[x]).drop (b.length+1 - q)=t++[x]:=by
   rw [eb,List.append_assoc]
   rw [show (v++t).length+1 - q=v.length by rw [List.length_append];omega,List.drop_left]
  rw [e1,e2]
  refine ⟨u++(t++[x]).take 1,v++(t++[x]).take 1,(t++[x]).drop 1,C++[t++[x]],X,Y,?_,?_,?_,perm_snoc' _ hX,perm_snoc' _ hY,?_,?_⟩
  ·rw [List.append_assoc,List.take_append_drop,ea,List.append_assoc]
  ·rw [List.append_assoc,List.take_append_drop,eb,List.append_assoc]
  all_goals (rw [List.length_drop,List.length_append,List.length_singleton];omega)
 ·refine ⟨u,v,t++[x],C,X++[_],Y++[_],by rw [ea,List.append_assoc],by rw [eb,List.append_assoc],?_,perm_snoc _ hX,perm_snoc _ hY,?_,?_⟩
  all_goals (simp only [List.length_append,List.length_singleton];omega)
theorem EdI.keeps {α:Type} {q n:Nat} (hq:1≤q):∀(p:List α) {a b:List α},EdI q n a b→EdI q n (a++p) (b++p)
 | [],a,b,h=>by simpa using h
 | x :: p,a,b,h=>by
  have:=EdI.keeps hq p (h.keep hq x)
  simpa [List.append_assoc] using this
theorem EdI.sub {α:Type} {q n:Nat} {a b:List α} (hq:1≤q) (x y:α) (h:EdI q n a b):EdI q (n+1) (a++[x]) (b++[y]):=by
 obtain ⟨ha,hb,u,v,t,C,X,Y,ea,eb,ht,hX,hY,lX,lY⟩:=h
 refine ⟨by rw [List.length_append];omega,by rw [List.length_append];omega,?_⟩
 rw [wins_snoc q a x ha,wins_snoc q b y hb]
 refine ⟨a++[x],b++[y],[],C,X++[_],Y++[_],by simp,by simp,by simp,perm_snoc _ hX,perm_snoc _ hY,?_,?_⟩
 all_goals (simp only [List.length_append,List.length_singleton,List.length_nil,Nat.add_mul,Nat.one_mul];omega)
theorem EdI.del {α:Type} {q n:Nat} {a b:List α} (hq:1≤q) (x:α) (h:EdI q n a b):EdI q (n+1) (a++[x]) b:=by
 obtain ⟨ha,hb,u,v,t,C,X,Y,ea,eb,ht,hX,hY,lX,lY⟩:=h
 refine ⟨by rw [List.length_append];omega,hb,?_⟩
 rw [wins_snoc q a x ha]
 refine ⟨a++[x],b,[],C,X++[_],Y,by simp,by simp,by simp,perm_snoc _ hX,hY,?_,?_⟩
 all_goals (simp only [List.length_append,List.length_singleton,List.length_nil,Nat.add_mul,Nat.one_mul];omega)
theorem EdI.ins {α:Type} {q n:Nat} {a b:List α} (hq:1≤q) (y:α) (h:EdI q n a b):EdI q (n+1) a (b++[y]):=by
 obtain ⟨ha,hb,u,v,t,C,X,Y,ea,eb,ht,hX,hY,lX,lY⟩:=h
 refine ⟨ha,by rw [List.length_append];omega,?_⟩
 rw [wins_snoc q b y hb]
 refine ⟨a,b++[y],[],C,X,Y++[_],by simp,by simp,by simp,hX,perm_snoc _ hY,?_,?_⟩
 all_goals (simp only [List.length_append,List.length_singleton,List.length_nil,Nat.add_mul,Nat.one_mul];omega)
end Go.Ab
namespace Go.Proofs.YtmlegeeinnkhkaaGreat
open Go Go.Ab
end Go.Proofs.YtmlegeeinnkhkaaGreat
namespace Go.Ab
open Go
def dpN {α:Type} [DecidableEq α] (a b:List α):Nat→Nat→Nat
 | 0,k=>k
 | i+1,0=>i+1
 | i+1,k+1=>min (min (dpN a b i k+if a[i]?=b[k]? then 0 else 1) (dpN a b i (k+1)+1)) (dpN a b (i+1) k+1)
theorem dpN_zero {α:Type} [DecidableEq α] (a b:List α) (k:Nat):dpN a b 0 k=k:=by simp [dpN]
theorem dpN_le {α:Type} [DecidableEq α] (a b:List α):∀i k,dpN a b i k≤i+k
 | 0,k=>by simp [dpN]
 | i+1,0=>by simp [dpN]
 | i+1,k+1=>by
  have:=dpN_le a b i (k+1)
  simp only [dpN];omega
theorem dpN_ed {α:Type} [DecidableEq α] (a b:List α):∀i k,i≤a.length→k≤b.length→EdN (dpN a b i k) (a.take i) (b.take k)
 | 0,0,_,_=>by simp only [dpN,List.take_zero];exact .nil
 | 0,k+1,hi,hk=>by
  have h:=dpN_ed a b 0 k hi (by omega)
  have hx:b[k]?=some b[k]:=List.getElem?_eq_getElem (by omega)
  simp only [dpN,List.take_zero] at *
  rw [List.take_add_one,hx]
  exact h.ins
 | i+1,0,hi,hk=>by
  have h:=dpN_ed a b i 0 (by omega) hk
  have hx:a[i]?=some a[i]:=List.getElem?_eq_getElem (by omega)
  have e:dpN a b i 0=i:=by cases i <;> simp [dpN]
  rw [e] at h
  simp only [dpN,List.take_zero] at *
  rw [List.take_add_one,hx]
  exact h.del
 | i+1,k+1,hi,hk=>by
  have h1:=dpN_ed a b i k (by omega) (by omega)
  have h2:=dpN_ed a b i (k+1) (by omega) hk
  have h3:=dpN_ed a b (i+1) k hi (by omega)
  have hx:a[i]?=some a[i]:=List.getElem?_eq_getElem (by omega)
  have hy:b[k]?=some b[k]:=List.getElem?_eq_getElem (by omega)
  have e1:a.take (i+1)=a.take i++[a[i]]:=by rw [List.take_add_one,hx];rfl
  have e2:b.take (k+1)=b.take k++[b[k]]:=by rw [List.take_add_one,hy];rfl
  have k1:EdN (dpN a b i k+if a[i]?=b[k]? then 0 else 1) (a.take (i+1)) (b.take (k+1)):=by
   rw [e1,e2]
   split
   ·rename_i h
    rw [hx,hy] at h
    rw [Option.some.inj h];exact h1.keep
   ·exact h1.sub
  have k2:EdN (dpN a b i (k+1)+1) (a.take (i+1)) (b.take (k+1)):=by rw [e1];exact h2.del
  have k3:EdN (dpN a b (i+1) k+1) (a.take (i+1)) (b.take (k+1)):=by
   rw [e2];exact h3.ins
  simp only [dpN]
  rcases Nat.le_total (dpN a b i k+if a[i]?=b[k]? then 0 else 1) (dpN a b i (k+1)+1) with c | c
  ·rw [Nat.min_eq_left c]
   rcases Nat.le_total (dpN a b i k+if a[i]?=b[k]? then 0 else 1) (dpN a b (i+1) k+1) with d | d
   ·rw [Nat.min_eq_left d];exact k1
   ·rw [Nat.min_eq_right d];exact k3
  ·rw [Nat.min_eq_right c]
   rcases Nat.le_total (dpN a b i (k+1)+1) (dpN a b (i+1) k+1) with d | d
   ·rw [Nat.min_eq_left d];exact k2
   ·rw [Nat.min_eq_right d];exact k3
def dpRow {α:Type} [DecidableEq α] (a b:List α) (i n:Nat):List Int:=(List.range n).map fun k=>((dpN a b i k:Nat):Int)
theorem dpRow_len {α:Type} [DecidableEq α] (a b:List α) (i n:Nat):(dpRow a b i n).length=n:=by simp [dpRow]
theorem dpRow_get {α:Type} [DecidableEq α] {a b:List α} {i n k:Nat} (h:k < n):(dpRow a b i n)[k]?=some ((dpN a b i k:Nat):Int):=by
 unfold dpRow
 rw [List.getElem?_map,List.getElem?_range h];rfl
theorem dpRow_snoc {α:Type} [DecidableEq α] (a b:List α) (i n:Nat):dpRow a b i (n+1)=dpRow a b i n++[((dpN a b i n:Nat):Int)]:=by
 unfold dpRow
 rw [List.range_succ,List.map_append];rfl
end Go.Ab
namespace Go.Proofs.YtmlegeeinnkhkaaGreat
open Go Go.Ab
theorem roomI8 {n:Nat} (h:n≤8000000000):roomB n 8=true:=by
 unfold roomB
 simp only [decide_eq_true_eq]
 omega
theorem dist_first (b:List UInt8) (a:List UInt8) (hb:b.length≤1048576):LoopF (drossref52_Distance_l1 b) ([],0)=some (dpRow a b 0 (b.length+1)):=by
 have key:∀(d k:Nat),k+d=b.length+1→LoopF (drossref52_Distance_l1 b) (dpRow a b 0 k,(k:Int))=some (dpRow a b 0 (b.length+1)):=by
  intro d
  induction d with
  | zero =>
   intro k hk
   have e:k=b.length+1:=by omega
   subst e
   have c:¬(((b.length+1:Nat):Int)≤(b.length:Int)):=by omega
   exact Loop_done (by simp only [drossref52_Distance_l1,if_neg c])
  | succ d ih =>
   intro k hk
   have c:((k:Int)≤(b.length:Int)):=by omega
   have hr:roomB ((dpRow a b 0 k).length+1) 8=true:=roomI8 (by rw [dpRow_len];omega)
   rw [Loop_next (s':=(dpRow a b 0 (k+1),((k+1:Nat):Int))) (by
    simp only [drossref52_Distance_l1,if_pos c,hr,if_true,wrap_nat (show k < 4611686018427387904 by omega),dpRow_snoc,dpN_zero])]
   exact ih (k+1) (by omega)
 exact key (b.length+1) 0 (by omega)
theorem u8_ne (x y:UInt8):((((x.toNat:Nat):Int) != ((y.toNat:Nat):Int))=true)↔¬x=y:=by
 rw [bne_iff_ne]
 constructor
 ·intro h e;exact h (by rw [e])
 ·intro h e;exact h (UInt8.toNat_inj.1 (by omega))
theorem min3 (x y z:Nat):(if ((z:Nat):Int) < (if ((y:Nat):Int) < ((x:Nat):Int) then ((y:Nat):Int) else ((x:Nat):Int)) then ((z:Nat):Int) else (if ((y:Nat):Int) < ((x:Nat):Int) then ((y:Nat):Int) else ((x:Nat):Int)))=((min (min x y) z:Nat):Int):=by
 split <;> split <;> omega
theorem dist_row (a b:List UInt8) (i:Nat) (hi:i < a.length) (ha:a.length≤1048576) (hb:b.length≤1048576) :
  LoopF (drossref52_Distance_l4 a b (dpRow a b i (b.length+1)) (i:Int)) ([((i+1:Nat):Int)],0)=some (dpRow a b (i+1) (b.length+1)):=by
 have key:∀(d k:Nat),k+d=b.length→LoopF (drossref52_Distance_l4 a b (dpRow a b i (b.length+1)) (i:Int)) (dpRow a b (i+1) (k+1),(k:Int))=some (dpRow a b (i+1) (b.length+1)):=by
  intro d
  induction d with
  | zero =>
   intro k hk
   have e:k=b.length:=by omega
   subst e
   exact Loop_done (by simp [drossref52_Distance_l4])
  | succ d ih =>
   intro k hk
   have hkb:k < b.length:=by omega
   have c:((k:Int) < (b.length:Int)):=by omega
   have hx:a[i]?=some a[i]:=List.getElem?_eq_getElem hi
   have hy:b[k]?=some b[k]:=List.getElem?_eq_getElem hkb
   have hr:roomB ((dpRow a b (i+1) (k+1)).length+1) 8=true:=roomI8 (by rw [dpRow_len];omega)
   have g1:idx (dpRow a b i (b.length+1)) (k:Int)=some ((dpN a b i k:Nat):Int):=idx_get (dpRow_get (by omega))
   have g2:idx (dpRow a b i (b.length+1)) ((k+1:Nat):Int)=some ((dpN a b i (k+1):Nat):Int):=idx_get (dpRow_get (by omega))
   have g3:idx (dpRow a b (i+1) (k+1)) (k:Int)=some ((dpN a b (i+1) k:Nat):Int):=idx_get (dpRow_get (by omega))
   have b1:=dpN_le a b i k
   have b2:=dpN_le a b i (k+1)
   have b3:=dpN_le a b (i+1) k
   have w:=wrap_nat (show k < 4611686018427387904 by omega)
   have w1:=wrap_nat (show dpN a b i k < 4611686018427387904 by omega)
   have w2:=wrap_nat (show dpN a b i (k+1) < 4611686018427387904 by omega)
   have w3:=wrap_nat (show dpN a b (i+1) k < 4611686018427387904 by omega)
   rw [Loop_next (s':=(dpRow a b (i+1) (k+2),((k+1:Nat):Int))) (by
    simp only [drossref52_Distance_l4,if_pos c,g1,idx_get hx,idx_get hy,Option.bind_some,w,g2,g3,hr,if_true,w1,w2,w3,min3]
    rw [dpRow_snoc a b (i+1) (k+1)]
    by_cases h:a[i]=b[k]
    ·rw [if_neg (fun q=>(u8_ne _ _).1 q h)]
     have e:dpN a b (i+1) (k+1)=min (min (dpN a b i k) (dpN a b i (k+1)+1)) (dpN a b (i+1) k+1):=by
      simp only [dpN,hx,hy,h,if_true,Nat.add_zero]
     rw [e]
    ·rw [if_pos ((u8_ne _ _).2 h)]
     have e:dpN a b (i+1) (k+1)=min (min (dpN a b i k+1) (dpN a b i (k+1)+1)) (dpN a b (i+1) k+1):=by
      have:¬(some a[i]=some b[k]):=fun q=>h (Option.some.inj q)
      simp only [dpN,hx,hy,this,if_false]
     rw [e])]
   exact ih (k+1) (by omega)
 have:=key b.length 0 (by omega)
 have e:dpRow a b (i+1) 1=[((i+1:Nat):Int)]:=by simp [dpRow,dpN]
 rw [e] at this
 exact this
theorem Distance_eq (a b:List UInt8) (ha:a.length≤1048576) (hb:b.length≤1048576):drossref52_Distance a b=some ((dpN a b a.length b.length:Nat):Int):=by
 have key:∀(d i:Nat),i+d=a.length→LoopF (drossref52_Distance_l5 a b) (dpRow a b i (b.length+1),(i:Int))=some (dpRow a b a.length (b.length+1)):=by
  intro d
  induction d with
  | zero =>
   intro i hi
   have e:i=a.length:=by omega
   subst e
   exact Loop_done (by simp [drossref52_Distance_l5])
  | succ d ih =>
   intro i hi
   have c:((i:Int) < (a.length:Int)):=by omega
   rw [Loop_next (s':=(dpRow a b (i+1) (b.length+1),((i+1:Nat):Int))) (by
    simp only [drossref52_Distance_l5,if_pos c,wrap_nat (show i < 4611686018427387904 by omega),dist_row a b i (by omega) ha hb,Option.bind_some])]
   exact ih (i+1) (by omega)
 have h:=key a.length 0 (by omega)
 simp only [Int.natCast_zero] at h
 simp only [drossref52_Distance,dist_first b a hb,Option.bind_some,h,idx_get (dpRow_get (a:=a) (b:=b) (i:=a.length) (show b.length < b.length+1 by omega))]
end Go.Proofs.YtmlegeeinnkhkaaGreat
namespace Go.Ab
def sed {α:Type} [DecidableEq α]:List α→List α→Nat
 | [],b=>b.length
 | _ :: a,[]=>a.length+1
 | x :: a,y :: b=>if x=y then sed a b else 1+min (min (sed a b) (sed a (y :: b))) (sed (x :: a) b)
termination_by a b=>a.length+b.length
theorem sed_nil {α:Type} [DecidableEq α] (b:List α):sed [] b=b.length:=by rw [sed]
theorem sed_nil2 {α:Type} [DecidableEq α] (a:List α):sed a []=a.length:=by cases a <;> rw [sed] <;> rfl
theorem sed_eq {α:Type} [DecidableEq α] (x:α) (a b:List α):sed (x :: a) (x :: b)=sed a b:=by rw [sed,if_pos rfl]
theorem sed_ne {α:Type} [DecidableEq α] {x y:α} (h:x≠y) (a b:List α):sed (x :: a) (y :: b)=1+min (min (sed a b) (sed a (y :: b))) (sed (x :: a) b):=by rw [sed,if_neg h]
theorem EdN.front {α:Type} {n:Nat} {a b:List α} (x:α) (h:EdN n a b):EdN n (x :: a) (x :: b):=by
 induction h with
 | nil=>exact (EdN.nil).keep (x:=x)
 | keep _ ih=>exact ih.keep
 | sub _ ih=>exact ih.sub
 | del _ ih=>exact ih.del
 | ins _ ih=>exact ih.ins
theorem EdN.subF {α:Type} {n:Nat} {a b:List α} (x y:α) (h:EdN n a b):EdN (n+1) (x :: a) (y :: b):=by
 induction h with
 | nil=>exact (EdN.nil).sub (x:=x) (y:=y)
 | keep _ ih=>exact ih.keep
 | sub _ ih=>exact ih.sub
 | del _ ih=>exact ih.del
 | ins _ ih=>exact ih.ins
theorem EdN.delF {α:Type} {n:Nat} {a b:List α} (x:α) (h:EdN n a b):EdN (n+1) (x :: a) b:=by
 induction h with
 | nil=>exact (EdN.nil).del (x:=x)
 | keep _ ih=>exact ih.keep
 | sub _ ih=>exact ih.sub
 | del _ ih=>exact ih.del
 | ins _ ih=>exact ih.ins
theorem EdN.insF {α:Type} {n:Nat} {a b:List α} (y:α) (h:EdN n a b):EdN (n+1) a (y :: b):=by
 induction h with
 | nil=>exact (EdN.nil).ins (y:=y)
 | keep _ ih=>exact ih.keep
 | sub _ ih=>exact ih.sub
 | del _ ih=>exact ih.del
 | ins _ ih=>exact ih.ins
theorem EdN.nil_any {α:Type}:∀b:List α,EdN b.length [] b
 | []=>.nil
 | y :: b=>(EdN.nil_any b).insF y
theorem EdN.any_nil {α:Type}:∀a:List α,EdN a.length a []
 | []=>.nil
 | y :: b=>(EdN.any_nil b).delF y
theorem min3_cases (a b c:Nat):min (min a b) c=a∨min (min a b) c=b∨min (min a b) c=c:=by omega
theorem sed_ed {α:Type} [DecidableEq α]:∀a b:List α,EdN (sed a b) a b
 | [],b=>by rw [sed_nil];exact EdN.nil_any b
 | x :: a,[]=>by rw [sed_nil2];exact EdN.any_nil (x :: a)
 | x :: a,y :: b=>by
  have h1:=sed_ed a b
  have h2:=sed_ed a (y :: b)
  have h3:=sed_ed (x :: a) b
  by_cases h:x=y
  ·subst h
   rw [sed_eq];exact h1.front x
  ·rw [sed_ne h,Nat.add_comm]
   rcases min3_cases (sed a b) (sed a (y :: b)) (sed (x :: a) b) with e | e | e
   ·rw [e];exact h1.subF x y
   ·rw [e];exact h2.delF x
   ·rw [e];exact h3.insF y
termination_by a b=>a.length+b.length
theorem sed_del {α:Type} [DecidableEq α] (z:α):∀a b:List α,sed (a++[z]) b≤sed a b+1
 | [],b=>by
  induction b with
  | nil=>rw [List.nil_append,sed_nil2,sed_nil];simp
  | cons y b ih =>
   rw [List.nil_append] at *
   by_cases h:z=y
   ·subst h;rw [sed_eq,sed_nil,sed_nil,List.length_cons];omega
   ·rw [sed_ne h]
    simp only [sed_nil,List.length_cons] at *
    omega
 | x :: a,[]=>by rw [sed_nil2,sed_nil2];simp
 | x :: a,y :: b=>by
  have h1:=sed_del z a b
  have h2:=sed_del z a (y :: b)
  have h3:=sed_del z (x :: a) b
  rw [List.cons_append] at *
  by_cases h:x=y
  ·subst h;rw [sed_eq,sed_eq];exact h1
  ·rw [sed_ne h,sed_ne h]
   omega
termination_by a b=>a.length+b.length
theorem sed_ins {α:Type} [DecidableEq α] (z:α):∀a b:List α,sed a (b++[z])≤sed a b+1
 | [],b=>by rw [sed_nil,sed_nil];simp
 | x :: a,[]=>by
  rw [List.nil_append]
  by_cases h:x=z
  ·subst h;rw [sed_eq,sed_nil2,sed_nil2,List.length_cons];omega
  ·rw [sed_ne h,sed_nil2,sed_nil2,List.length_cons]
   omega
 | x :: a,y :: b=>by
  have h1:=sed_ins z a b
  have h2:=sed_ins z a (y :: b)
  have h3:=sed_ins z (x :: a) b
  rw [List.cons_append] at *
  by_cases h:x=y
  ·subst h;rw [sed_eq,sed_eq];exact h1
  ·rw [sed_ne h,sed_ne h]
   omega
termination_by a b=>a.length+b.length
theorem sed_keep {α:Type} [DecidableEq α] (z:α):∀a b:List α,sed (a++[z]) (b++[z])≤sed a b
 | [],b=>by
  induction b with
  | nil=>rw [List.nil_append,sed_eq];exact Nat.le_refl _
  | cons y b ih =>
   rw [List.nil_append] at *
   rw [List.cons_append]
   by_cases h:z=y
   ·subst h;rw [sed_eq,sed_nil,sed_nil,List.length_cons];simp
   ·rw [sed_ne h]
    simp only [sed_nil,List.length_cons] at *
    omega
 | x :: a,[]=>by
  have h1:=sed_keep z a []
  rw [List.nil_append] at *
  rw [List.cons_append]
  by_cases h:x=z
  ·subst h;rw [sed_eq,sed_nil2,sed_nil2];simp
  ·rw [sed_ne h]
   simp only [sed_nil2,List.length_cons] at *
   omega
 | x :: a,y :: b=>by
  have h1:=sed_keep z a b
  have h2:=sed_keep z a (y :: b)
  have h3:=sed_keep z (x :: a) b
  rw [List.cons_append,List.cons_append] at *
  by_cases h:x=y
  ·subst h;rw [sed_eq,sed_eq];exact h1
  ·rw [sed_ne h,sed_ne h]
   omega
termination_by a b=>a.length+b.length
theorem sed_sub {α:Type} [DecidableEq α] (z u:α):∀a b:List α,sed (a++[z]) (b++[u])≤sed a b+1
 | [],b=>by
  induction b with
  | nil =>
   rw [List.nil_append,List.nil_append]
   by_cases h:z=u
   ·subst h;rw [sed_eq];omega
   ·rw [sed_ne h];simp only [sed_nil];simp
  | cons y b ih =>
   rw [List.nil_append] at *
   rw [List.cons_append]
   by_cases h:z=y
   ·subst h;rw [sed_eq,sed_nil,sed_nil,List.length_cons];simp
   ·rw [sed_ne h]
    simp only [sed_nil,List.length_cons] at *
    omega
 | x :: a,[]=>by
  have h1:=sed_sub z u a []
  rw [List.nil_append] at *
  rw [List.cons_append]
  by_cases h:x=u
  ·subst h;rw [sed_eq,sed_nil2,sed_nil2];simp
  ·rw [sed_ne h]
   simp only [sed_nil2,List.length_cons] at *
   omega
 | x :: a,y :: b=>by
  have h1:=sed_sub z u a b
  have h2:=sed_sub z u a (y :: b)
  have h3:=sed_sub z u (x :: a) b
  rw [List.cons_append,List.cons_append] at *
  by_cases h:x=y
  ·subst h;rw [sed_eq,sed_eq];exact h1
  ·rw [sed_ne h,sed_ne h]
   omega
termination_by a b=>a.length+b.length
theorem sed_least {α:Type} [DecidableEq α] {n:Nat} {a b:List α} (h:EdN n a b):sed a b≤n:=by
 induction h with
 | nil=>rw [sed_nil];exact Nat.le_refl _
 | keep _ ih=>exact Nat.le_trans (sed_keep _ _ _) ih
 | sub _ ih=>exact Nat.le_trans (sed_sub _ _ _ _) (by omega)
 | del _ ih=>exact Nat.le_trans (sed_del _ _ _) (by omega)
 | ins _ ih=>exact Nat.le_trans (sed_ins _ _ _) (by omega)
theorem take_snocLk {α:Type} {a u:List α} {x:α} {i:Nat} (hi:i≤a.length) (h:u++[x]=a.take i):∃j,i=j+1∧u=a.take j∧a[j]?=some x:=by
 have hl:=congrArg List.length h
 rw [List.length_append,List.length_take,List.length_singleton] at hl
 cases i with
 | zero=>omega
 | succ j =>
  have hx:a[j]?=some a[j]:=List.getElem?_eq_getElem (by omega)
  rw [List.take_add_one,hx] at h
  have:=List.append_inj h (by rw [List.length_take];omega)
  refine ⟨j,rfl,this.1,?_⟩
  rw [hx]
  simpa using this.2.symm
theorem dpN_least {α:Type} [DecidableEq α] (a b:List α) {n:Nat} {u v:List α} (h:EdN n u v):∀i k,i≤a.length→k≤b.length→u=a.take i→v=b.take k→dpN a b i k≤n:=by
 induction h with
 | nil =>
  intro i k hi hk hu hv
  have h1:=congrArg List.length hu
  have h2:=congrArg List.length hv
  rw [List.length_take] at h1 h2
  simp only [List.length_nil] at h1 h2
  have:i=0:=by omega
  have:k=0:=by omega
  subst i;subst k
  simp [dpN]
 | keep _ ih =>
  intro i k hi hk hu hv
  obtain ⟨i,rfl,hu,hx⟩:=take_snocLk hi hu
  obtain ⟨k,rfl,hv,hy⟩:=take_snocLk hk hv
  have:=ih i k (by omega) (by omega) hu hv
  simp only [dpN,hx,hy,if_true]
  omega
 | sub _ ih =>
  intro i k hi hk hu hv
  obtain ⟨i,rfl,hu,hx⟩:=take_snocLk hi hu
  obtain ⟨k,rfl,hv,hy⟩:=take_snocLk hk hv
  have:=ih i k (by omega) (by omega) hu hv
  have h2:(if a[i]?=b[k]? then 0 else 1)≤1:=by split <;> omega
  simp only [dpN]
  omega
 | del _ ih =>
  intro i k hi hk hu hv
  obtain ⟨i,rfl,hu,hx⟩:=take_snocLk hi hu
  have:=ih i k (by omega) hk hu hv
  cases k with
  | zero=>cases i <;> simp only [dpN] at * <;> omega
  | succ k=>simp only [dpN];omega
 | ins _ ih =>
  intro i k hi hk hu hv
  obtain ⟨k,rfl,hv,hx⟩:=take_snocLk hk hv
  have:=ih i k hi (by omega) hu hv
  cases i with
  | zero=>simp only [dpN] at *;omega
  | succ i=>simp only [dpN];omega
theorem sed_dpN {α:Type} [DecidableEq α] (a b:List α):sed a b=dpN a b a.length b.length:=by
 have h1:=dpN_ed a b a.length b.length (Nat.le_refl _) (Nat.le_refl _)
 rw [List.take_length,List.take_length] at h1
 have h2:=sed_least h1
 have h3:=dpN_least a b (sed_ed a b) a.length b.length (Nat.le_refl _) (Nat.le_refl _) List.take_length.symm List.take_length.symm
 omega
end Go.Ab
namespace Go.Ab
open Go
theorem wrap_u64 {n:Int} (h1:0≤n) (h2:n≤18446744073709551615):IntKind.u64.wrap n=n:=by
 simp only [IntKind.wrap,IntKind.signed,IntKind.bits]
 simp only [Bool.false_and,Bool.false_eq_true,if_false]
 rw [show ((2:Int) ^ 64)=18446744073709551616 from rfl]
 omega
theorem w32_and1 {a:Nat} (ha:a < 4294967296):IntKind.u32.wrap ((BitVec.ofInt 32 (a:Int) &&& (1#32)).toNat:Int)=((a % 2:Nat):Int):=by
 rw [bv_lt,BitVec.toNat_and,bv_nat ha]
 congr 1
 have:(1#32).toNat=1:=rfl
 rw [this,Nat.and_one_is_mod]
theorem pow_lt {i:Nat} (h:i < 32):2 ^ i < 4294967296:=Nat.pow_lt_pow_right (by omega) h
theorem w32_shl1 {i:Nat} (h:i < 32):IntKind.u32.wrap (1 * 2 ^ (min i 32))=((2 ^ i:Nat):Int):=by
 rw [Nat.min_eq_left (by omega),Int.one_mul]
 have:((2:Int) ^ i)=((2 ^ i:Nat):Int):=by simp
 rw [this]
 have h2:=pow_lt h
 generalize 2 ^ i=p at h2 ⊢
 exact wrap_u32 (by omega) (by omega)
theorem bit_div (a i:Nat):(((a / 2 ^ i % 2:Nat):Int) == 1)=a.testBit i:=by
 rw [Nat.testBit_eq_decide_div_mod_eq,Bool.eq_iff_iff]
 simp only [beq_iff_eq,decide_eq_true_eq]
 omega
theorem w32_bit {a:Nat} (ha:a < 4294967296) {i:Nat} (hi:i≤32):((IntKind.u32.wrap ((BitVec.ofInt 32 (Int.fdiv (a:Int) (2 ^ (min i 32))) &&& (1#32)).toNat:Int)) == 1)=a.testBit i:=by
 rw [Nat.min_eq_left hi,fdiv_pow,w32_and1 (Nat.lt_of_le_of_lt (Nat.div_le_self _ _) ha),bit_div]
theorem lt_bits {a n:Nat} (h:∀i,n≤i→a.testBit i=false):a < 2 ^ n:=Nat.lt_pow_two_of_testBit a h
theorem bit_lt {a n i:Nat} (h:a < 2 ^ n) (hi:n≤i):a.testBit i=false:=Nat.testBit_lt_two_pow (Nat.lt_of_lt_of_le h (Nat.pow_le_pow_right (by omega) hi))
end Go.Ab
namespace Go.Proofs.YtmlegeeinnkhkaaGreat
open Go Go.Ab
def ratioN (n d:Nat):Ratio:=⟨((n / Nat.gcd n d:Nat):Int),((d / Nat.gcd n d:Nat):Int)⟩
theorem dmod {b y d c:Nat} (h:c+b * d=y) (hc:c < b):y / b=d∧y % b=c:=(Nat.div_mod_unique (by omega)).2 ⟨h,hc⟩
theorem ratio_abs_nat (n:Nat) (h:n < 4611686018427387904):ratio_abs (n:Int)=some (n:Int):=by
 simp only [ratio_abs]
 rw [if_neg (by omega),wrap_u64 (by omega) (by omega)]
theorem ratio_gcd_loop:∀(b a:Nat),LoopF ratio_gcd_l1 ((a:Int),(b:Int))=some ((Nat.gcd a b:Nat):Int):=by
 intro b
 induction b using Nat.strongRecOn with
 | ind b ih =>
  intro a
  by_cases hb:b=0
  ·subst hb
   rw [Loop_done (t:=(a:Int)) (by simp [ratio_gcd_l1]),Nat.gcd_zero_right]
  ·have h1:((b:Int) > 0):=by omega
   have h2:¬((b:Int)=0):=by omega
   have e:Int.tmod (a:Int) (b:Int)=((a % b:Nat):Int):=by rw [Int.ofNat_tmod]
   rw [Loop_next (s':=((b:Int),((a % b:Nat):Int))) (by simp only [ratio_gcd_l1,if_pos h1,if_neg h2,e]),ih (a % b) (Nat.mod_lt _ (by omega)) b]
   rw [Nat.gcd_comm a b,Nat.gcd_rec b a,Nat.gcd_comm]
theorem ratio_gcd_nat (a b:Nat):ratio_gcd (a:Int) (b:Int)=some ((Nat.gcd a b:Nat):Int):=by
 simp only [ratio_gcd,ratio_gcd_loop,Option.bind_some]
theorem tdiv_nat (a b:Nat):Int.tdiv (a:Int) (b:Int)=((a / b:Nat):Int):=Int.ofNat_tdiv a b
theorem ratio_Make_nat (n d:Nat) (hn:n < 4611686018427387904) (hd:0 < d) (hd':d < 4611686018427387904):ratio_Make (n:Int) (d:Int)=some (ratioN n d,0):=by
 have hg:0 < Nat.gcd n d:=Nat.gcd_pos_of_pos_right _ hd
 have h0:((d:Int) == 0)=false:=by simp;omega
 have hdn:n / Nat.gcd n d≤n:=Nat.div_le_self _ _
 have hdd:d / Nat.gcd n d≤d:=Nat.div_le_self _ _
 have hg0:¬((Nat.gcd n d:Nat):Int)=0:=by omega
 have e1:(decide ((n:Int) < 0))=false:=by simp
 have e2:(decide ((d:Int) < 0))=false:=by simp
 simp only [ratio_Make,h0,Bool.false_eq_true,if_false,ratio_abs_nat n hn,ratio_abs_nat d hd',Option.bind_some,ratio_gcd_nat,if_neg hg0,tdiv_nat,e1,e2,ratioN]
 generalize n / Nat.gcd n d=p at *
 generalize d / Nat.gcd n d=q at *
 rw [wrap_u64 (n:=(p:Int)) (by omega) (by omega),wrap_u64 (n:=(q:Int)) (by omega) (by omega)]
 have c1:¬((p:Int) > 9223372036854775807):=by omega
 have c2:¬((q:Int) > 9223372036854775807):=by omega
 simp only [ratio_of,if_neg c1,if_neg c2,beq_self_eq_true,Bool.not_true,Bool.false_eq_true,if_false,Option.bind_some]
 rw [wrap_i64 (n:=(p:Int)) (by omega) (by omega),wrap_i64 (n:=(q:Int)) (by omega) (by omega)]
theorem wide_plus (a:Nat) (h:a < 4611686018427387904):drossref04_plus ⟨0,(a:Int)⟩ ⟨0,(a:Int)⟩=some ⟨0,((2 * a:Nat):Int)⟩:=by
 have e1:addF (a:Int) (a:Int) 0=some (((2 * a:Nat):Int),0):=by
  unfold addF
  rw [if_pos (by omega)]
  congr 2 <;> omega
 have e2:addF 0 0 0=some (0,0):=by decide
 simp only [drossref04_plus,e1,e2,Option.bind_some]
theorem wide_minus (a b:Nat) (h:a < 9223372036854775808) (hb:b≤a):drossref04_minus ⟨0,(a:Int)⟩ ⟨0,(b:Int)⟩=some ⟨0,((a - b:Nat):Int)⟩:=by
 have e1:subF (a:Int) (b:Int) 0=some (((a - b:Nat):Int),0):=by
  unfold subF
  rw [if_pos (by omega),if_neg (by omega)]
  congr 2;omega
 have e2:subF 0 0 0=some (0,0):=by decide
 simp only [drossref04_minus,e1,e2,Option.bind_some]
theorem wide_less (a b:Nat):drossref04_less ⟨0,(a:Int)⟩ ⟨0,(b:Int)⟩=some (decide (a < b)):=by
 simp only [drossref04_less]
 rw [if_neg (by omega),if_pos (by rfl)]
 simp
theorem parts_step0 (a b k:Nat) (hb:0 < b) (hk:64≤k) (hk':k < 128):drossref04_parts_l1 ⟨0,(a:Int)⟩ ⟨0,(b:Int)⟩ (⟨0,0⟩,⟨0,0⟩,(k:Int))=some (.next (⟨0,0⟩,⟨0,0⟩,(k:Int) - 1)):=by
 have h1:(k:Int)≥0:=by omega
 have h2:(k:Int)≥64:=by omega
 have h3:Int.tmod (k:Int) 64=((k % 64:Nat):Int):=Int.ofNat_tmod k 64
 have h4:¬((k % 64:Nat):Int) < 0:=by omega
 have h5:drossref04_plus ⟨0,0⟩ ⟨0,0⟩=some ⟨0,0⟩:=wide_plus 0 (by omega)
 have h6:IntKind.u64.wrap ((0:Int)+(Int.tmod (Int.fdiv 0 (2 ^ (min (((k % 64:Nat):Int)).toNat 64))) 2))=0:=by rw [Int.zero_fdiv];rfl
 have h7:drossref04_less ⟨0,0⟩ ⟨0,(b:Int)⟩=some true:=by
  have:=wide_less 0 b
  rw [show decide (0 < b)=true by simp [hb]] at this
  exact this
 have h8:IntKind.i64.wrap ((k:Int) - 1)=(k:Int) - 1:=wrap_i64 (by omega) (by omega)
 simp only [drossref04_parts_l1,if_pos h1,if_pos h2,h3,if_neg h4,h5,Option.bind_some,h6,h7,if_true,h8]
theorem fdiv_pow (a k:Nat):Int.fdiv (a:Int) (2 ^ k)=((a / 2 ^ k:Nat):Int):=by
 have e:(2:Int) ^ k=((2 ^ k:Nat):Int):=by simp
 rw [e];exact (Int.ofNat_fdiv a (2 ^ k)).symm
theorem parts_step1 (a b k:Nat) (ha:a < 4611686018427387904) (hb:0 < b) (hb':b < 2305843009213693952) (hk:k < 64) :
  drossref04_parts_l1 ⟨0,(a:Int)⟩ ⟨0,(b:Int)⟩ (⟨0,((a / 2 ^ (k+1) / b:Nat):Int)⟩,⟨0,((a / 2 ^ (k+1) % b:Nat):Int)⟩,(k:Int)) =
   some (.next (⟨0,((a / 2 ^ k / b:Nat):Int)⟩,⟨0,((a / 2 ^ k % b:Nat):Int)⟩,(k:Int) - 1)):=by
 have h1:(k:Int)≥0:=by omega
 have h2:¬(k:Int)≥64:=by omega
 have h3:Int.tmod (k:Int) 64=(k:Int):=by
  have:Int.tmod (k:Int) 64=((k % 64:Nat):Int):=Int.ofNat_tmod k 64
  rw [this];omega
 have h4:¬(k:Int) < 0:=by omega
 have hx:a / 2 ^ k=2 * (a / 2 ^ (k+1))+a / 2 ^ k % 2:=by
  rw [Nat.pow_succ,←Nat.div_div_eq_div_mul];omega
 have hy:a / 2 ^ k≤a:=Nat.div_le_self _ _
 have hbit:Int.tmod (Int.fdiv (a:Int) (2 ^ (min ((k:Int)).toNat 64))) 2=((a / 2 ^ k % 2:Nat):Int):=by
  rw [Int.toNat_natCast,Nat.min_eq_left (by omega),fdiv_pow]
  exact Int.ofNat_tmod _ 2
 have hbit2:a / 2 ^ k % 2 < 2:=Nat.mod_lt _ (by omega)
 generalize a / 2 ^ k % 2=bit at *
 generalize a / 2 ^ k=y at *
 generalize a / 2 ^ (k+1)=x at *
 have hr:x % b < b:=Nat.mod_lt _ hb
 have hq:x / b≤x:=Nat.div_le_self _ _
 have hm:=Nat.mod_add_div x b
 have p1:=wide_plus (x % b) (by omega)
 have p2:=wide_plus (x / b) (by omega)
 have h6:IntKind.u64.wrap (((2 * (x % b):Nat):Int)+(bit:Int))=((2 * (x % b)+bit:Nat):Int):=by
  rw [←Int.natCast_add];exact wrap_u64 (by omega) (by omega)
 have h7:IntKind.u64.wrap (((2 * (x / b):Nat):Int)+1)=((2 * (x / b)+1:Nat):Int):=by
  rw [wrap_u64 (by omega) (by omega)];omega
 have h8:IntKind.i64.wrap ((k:Int) - 1)=(k:Int) - 1:=wrap_i64 (by omega) (by omega)
 simp only [drossref04_parts_l1,if_pos h1,if_neg h2,h3,if_neg h4,p1,p2,Option.bind_some,hbit,h6,h7,h8,wide_less]
 have hmul:b * (2 * (x / b))=2 * (b * (x / b)):=by rw [Nat.mul_left_comm]
 by_cases hl:2 * (x % b)+bit < b
 ·obtain ⟨e1,e2⟩:=dmod (b:=b) (y:=y) (d:=2 * (x / b)) (c:=2 * (x % b)+bit) (by rw [hmul];omega) hl
  simp only [hl,decide_true,if_true,e1,e2]
 ·obtain ⟨e1,e2⟩:=dmod (b:=b) (y:=y) (d:=2 * (x / b)+1) (c:=2 * (x % b)+bit - b) (by rw [Nat.mul_add,hmul,Nat.mul_one];omega) (by omega)
  have m1:=wide_minus (2 * (x % b)+bit) b (by omega) (by omega)
  simp only [hl,decide_false,Bool.false_eq_true,if_false,m1,Option.bind_some,e1,e2]
theorem parts_eq (a b:Nat) (ha:a < 4611686018427387904) (hb:0 < b) (hb':b < 2305843009213693952):drossref04_parts ⟨0,(a:Int)⟩ ⟨0,(b:Int)⟩=some (⟨0,((a / b:Nat):Int)⟩,⟨0,((a % b:Nat):Int)⟩):=by
 have low:∀k:Nat,k≤64→LoopF (drossref04_parts_l1 ⟨0,(a:Int)⟩ ⟨0,(b:Int)⟩) (⟨0,((a / 2 ^ k / b:Nat):Int)⟩,⟨0,((a / 2 ^ k % b:Nat):Int)⟩,(k:Int) - 1)=some (⟨0,((a / b:Nat):Int)⟩,⟨0,((a % b:Nat):Int)⟩):=by
  intro k
  induction k with
  | zero =>
   intro _
   rw [Nat.pow_zero,Nat.div_one]
   exact Loop_done (by simp [drossref04_parts_l1])
  | succ k ih =>
   intro hk
   have e:((k+1:Nat):Int) - 1=(k:Int):=by omega
   rw [e,Loop_next (parts_step1 a b k ha hb hb' (by omega))]
   exact ih (by omega)
 have hz:a / 2 ^ 64=0:=Nat.div_eq_of_lt (by omega)
 have high:∀k:Nat,k≤64→LoopF (drossref04_parts_l1 ⟨0,(a:Int)⟩ ⟨0,(b:Int)⟩) (⟨0,0⟩,⟨0,0⟩,((64+k:Nat):Int) - 1)=some (⟨0,((a / b:Nat):Int)⟩,⟨0,((a % b:Nat):Int)⟩):=by
  intro k
  induction k with
  | zero =>
   intro _
   have:=low 64 (Nat.le_refl _)
   rw [hz,Nat.zero_div,Nat.zero_mod] at this
   exact this
  | succ k ih =>
   intro hk
   have e:((64+(k+1):Nat):Int) - 1=((64+k:Nat):Int):=by omega
   rw [e,Loop_next (parts_step0 a b (64+k) hb (by omega) (by omega))]
   exact ih (by omega)
 have:=high 64 (Nat.le_refl _)
 simp only [drossref04_parts]
 rw [show (127:Int)=((64+64:Nat):Int) - 1 by omega,this]
 rfl
theorem build_loop:∀(b a:Nat),a < 2305843009213693952→b < 2305843009213693952→LoopF drossref04_build_l1 (⟨0,(a:Int)⟩,⟨0,(b:Int)⟩)=some ⟨0,((Nat.gcd a b:Nat):Int)⟩:=by
 intro b
 induction b using Nat.strongRecOn with
 | ind b ih =>
  intro a ha hb
  by_cases hz:b=0
  ·subst hz
   rw [Loop_done (t:=⟨0,(a:Int)⟩) (by simp [drossref04_build_l1,drossref04_zero]),Nat.gcd_zero_right]
  ·have h1:drossref04_zero ⟨0,(b:Int)⟩=some false:=by
    simp only [drossref04_zero]
    rw [if_pos (by rfl)]
    congr 1;simp;omega
   rw [Loop_next (s':=(⟨0,(b:Int)⟩,⟨0,((a % b:Nat):Int)⟩)) (by simp only [drossref04_build_l1,h1,Option.bind_some,Bool.false_eq_true,if_false,parts_eq a b (by omega) (by omega) hb]),ih (a % b) (Nat.mod_lt _ (by omega)) b hb (Nat.lt_trans (Nat.mod_lt _ (by omega)) hb)]
   rw [Nat.gcd_comm a b,Nat.gcd_rec b a,Nat.gcd_comm]
theorem ref_Make_nat (n d:Nat) (hn:n < 2305843009213693952) (hd:0 < d) (hd':d < 2305843009213693952):drossref04_Make (n:Int) (d:Int)=some (ratioN n d,0):=by
 have hg:0 < Nat.gcd n d:=Nat.gcd_pos_of_pos_right _ hd
 have hgd:Nat.gcd n d≤d:=Nat.gcd_le_right _ hd
 have h0:((d:Int) == 0)=false:=by simp;omega
 have hdn:n / Nat.gcd n d≤n:=Nat.div_le_self _ _
 have hdd:d / Nat.gcd n d≤d:=Nat.div_le_self _ _
 have e1:(decide ((n:Int) < 0))=false:=by simp
 have e2:(decide ((d:Int) < 0))=false:=by simp
 have s1:∀m:Nat,m < 2305843009213693952→drossref04_size (m:Int)=some ⟨0,(m:Int)⟩:=by
  intro m hm
  simp only [drossref04_size]
  rw [if_neg (by omega),wrap_u64 (by omega) (by omega)]
 have l1:∀m:Nat,m < 2305843009213693952→drossref04_less ⟨0,9223372036854775807⟩ ⟨0,(m:Int)⟩=some false:=by
  intro m hm
  have:=wide_less 9223372036854775807 m
  rw [show decide (9223372036854775807 < m)=false by simp;omega] at this
  exact this
 simp only [drossref04_Make,h0,Bool.false_eq_true,if_false,s1 n hn,s1 d hd',Option.bind_some,drossref04_build,build_loop d n hn hd',parts_eq n _ (by omega) hg (by omega),parts_eq d _ (by omega) hg (by omega),l1 _ (show n / Nat.gcd n d < 2305843009213693952 by omega),l1 _ (show d / Nat.gcd n d < 2305843009213693952 by omega),e1,e2,beq_self_eq_true,Bool.not_true]
 simp only [ratioN]
 generalize n / Nat.gcd n d=p at *
 generalize d / Nat.gcd n d=q at *
 rw [wrap_i64 (n:=(p:Int)) (by omega) (by omega),wrap_i64 (n:=(q:Int)) (by omega) (by omega)]
theorem ref_Of_nat (n d:Nat) (hn:n < 2305843009213693952) (hd:0 < d) (hd':d < 2305843009213693952):drossref04_Of (n:Int) (d:Int)=some (ratioN n d):=by
 simp only [drossref04_Of,ref_Make_nat n d hn hd hd',Option.bind_some]
 rfl
theorem strc_lt:∀a b:List UInt8,strc a b < 0↔ltS a b=true
 | [],[]=>by simp [strc,ltS,List.lt_irrefl]
 | [],y :: b=>by simp [strc,ltS]
 | x :: a,[]=>by simp [strc,ltS]
 | x :: a,y :: b=>by
  simp only [strc,ltS,decide_eq_true_eq,List.cons_lt_cons_iff]
  by_cases h:x=y
  ·subst h
   have:=strc_lt a b
   simp only [ltS,decide_eq_true_eq] at this
   simp [this,UInt8.lt_irrefl]
  ·rw [if_neg h,sgn_lt]
   simp only [h,false_and,or_false,UInt8.lt_iff_toNat_lt]
   omega
theorem strc_gt (a b:List UInt8):0 < strc a b↔ltS b a=true:=by
 rw [←strc_lt b a,strc_neg a b];omega
theorem drop1 {α:Type} (x:α) (l:List α):(((x :: l).drop 1).take ((x :: l).length - 1))=l:=by simp
theorem shared_eq:∀(m:Nat) (a b:List Str) (n:Nat),a.length+b.length=m→n+a.length≤1000000→LoopF similarity_shared_l1 (a,b,(n:Int))=some ((n+comm ltS a b:Nat):Int):=by
 intro m
 induction m using Nat.strongRecOn with
 | ind m ih =>
  intro a b n hm hn
  cases a with
  | nil=>rw [Loop_done (t:=(n:Int)) (by simp [similarity_shared_l1])];simp [comm]
  | cons x a =>
   cases b with
   | nil=>rw [Loop_done (t:=(n:Int)) (by simp [similarity_shared_l1])];simp [comm]
   | cons y b =>
    have c1:((x :: a).length:Int) > 0:=by simp only [List.length_cons];omega
    have c2:((y :: b).length:Int) > 0:=by simp only [List.length_cons];omega
    have c3:(1:Int)≤((x :: a).length:Int):=by simp only [List.length_cons];omega
    have c4:(1:Int)≤((y :: b).length:Int):=by simp only [List.length_cons];omega
    have g1:(x :: a)[0]?=some x:=rfl
    have g2:(y :: b)[0]?=some y:=rfl
    have w:=wrap_nat (show n < 4611686018427387904 by omega)
    have hB:similarity_shared_l1 (x :: a,y :: b,(n:Int))=if strc x y < 0 then some (.next (a,y :: b,(n:Int))) else if strc x y > 0 then some (.next (x :: a,b,(n:Int))) else some (.next (a,b,((n+1:Nat):Int))):=by
     simp only [similarity_shared_l1,if_pos c1,if_pos c2,if_pos c3,if_pos c4,g1,g2,Option.bind_some,strings_Compare_eq,drop1,w]
    simp only [List.length_cons] at hm hn
    by_cases h1:strc x y < 0
    ·rw [if_pos h1] at hB
     have l1:=(strc_lt x y).1 h1
     rw [Loop_next hB,ih _ (by simp only [List.length_cons];omega) a (y :: b) n rfl (by omega)]
     simp only [comm,l1,if_true]
    ·rw [if_neg h1] at hB
     have l1:ltS x y=false:=by
      rcases Bool.eq_false_or_eq_true (ltS x y) with h | h
      ·exact absurd ((strc_lt x y).2 h) h1
      ·exact h
     by_cases h2:strc x y > 0
     ·rw [if_pos h2] at hB
      have l2:=(strc_gt x y).1 h2
      rw [Loop_next hB,ih _ (by simp only [List.length_cons];omega) (x :: a) b n rfl (by simp only [List.length_cons];omega)]
      simp only [comm,l1,l2,if_true,if_false,Bool.false_eq_true]
     ·rw [if_neg h2] at hB
      have l2:ltS y x=false:=by
       rcases Bool.eq_false_or_eq_true (ltS y x) with h | h
       ·exact absurd ((strc_gt x y).2 h) h2
       ·exact h
      rw [Loop_next hB,ih _ (by omega) a b (n+1) rfl (by omega)]
      simp only [comm,l1,l2,if_false,Bool.false_eq_true]
      congr 2;omega
theorem IndexFuncS_lnk (l:List Str) (f:Str→Option Bool) (p:Str→Bool) (hf:∀x∈l,f x=some (p x)) (hl:l.length≤1073741824):slices_IndexFunc_string l f=some (posI (l.findIdx? p)):=by
 have h:=LoopF_find l (slices_IndexFunc_string_l1 l f) p
  (fun k x hx hk hp=>by simp [slices_IndexFunc_string_l1,lt_true hx,idx_get hx,hf x (List.mem_of_getElem? hx),hp,wrap_succ hk (show l.length≤4611686018427387904 by omega)])
  (fun k x hx hp=>by simp [slices_IndexFunc_string_l1,lt_true hx,idx_get hx,hf x (List.mem_of_getElem? hx),hp])
  (by simp [slices_IndexFunc_string_l1])
 simp only [slices_IndexFunc_string,h,Option.bind_some]
 cases l.findIdx? p <;> rfl
theorem IndexFuncI_lnk (l:List Int) (f:Int→Option Bool) (p:Int→Bool) (hf:∀x∈l,f x=some (p x)) (hl:l.length≤1073741824):slices_IndexFunc_int l f=some (posI (l.findIdx? p)):=by
 have h:=LoopF_find l (slices_IndexFunc_int_l1 l f) p
  (fun k x hx hk hp=>by simp [slices_IndexFunc_int_l1,lt_true hx,idx_get hx,hf x (List.mem_of_getElem? hx),hp,wrap_succ hk (show l.length≤4611686018427387904 by omega)])
  (fun k x hx hp=>by simp [slices_IndexFunc_int_l1,lt_true hx,idx_get hx,hf x (List.mem_of_getElem? hx),hp])
  (by simp [slices_IndexFunc_int_l1])
 simp only [slices_IndexFunc_int,h,Option.bind_some]
 cases l.findIdx? p <;> rfl
theorem IndexFuncL_lnk (l:List (List Similar)) (f:List Similar→Option Bool) (p:List Similar→Bool) (hf:∀x∈l,f x=some (p x)) (hl:l.length≤1073741824):slices_IndexFunc_Similar l f=some (posI (l.findIdx? p)):=by
 have h:=LoopF_find l (slices_IndexFunc_Similar_l1 l f) p
  (fun k x hx hk hp=>by simp [slices_IndexFunc_Similar_l1,lt_true hx,idx_get hx,hf x (List.mem_of_getElem? hx),hp,wrap_succ hk (show l.length≤4611686018427387904 by omega)])
  (fun k x hx hp=>by simp [slices_IndexFunc_Similar_l1,lt_true hx,idx_get hx,hf x (List.mem_of_getElem? hx),hp])
  (by simp [slices_IndexFunc_Similar_l1])
 simp only [slices_IndexFunc_Similar,h,Option.bind_some]
 cases l.findIdx? p <;> rfl
theorem IndexFuncC_lnk (l:List Similar) (f:Similar→Option Bool) (p:Similar→Bool) (hf:∀x∈l,f x=some (p x)) (hl:l.length≤1073741824):slices_IndexFunc_Similar_2 l f=some (posI (l.findIdx? p)):=by
 have h:=LoopF_find l (slices_IndexFunc_Similar_2_l1 l f) p
  (fun k x hx hk hp=>by simp [slices_IndexFunc_Similar_2_l1,lt_true hx,idx_get hx,hf x (List.mem_of_getElem? hx),hp,wrap_succ hk (show l.length≤4611686018427387904 by omega)])
  (fun k x hx hp=>by simp [slices_IndexFunc_Similar_2_l1,lt_true hx,idx_get hx,hf x (List.mem_of_getElem? hx),hp])
  (by simp [slices_IndexFunc_Similar_2_l1])
 simp only [slices_IndexFunc_Similar_2,h,Option.bind_some]
 cases l.findIdx? p <;> rfl
theorem ContainsFuncI_lnk (l:List Int) (f:Int→Option Bool) (p:Int→Bool) (hf:∀x∈l,f x=some (p x)) (hl:l.length≤1073741824):slices_ContainsFunc_int l f=some (l.any p):=by
 simp only [slices_ContainsFunc_int,IndexFuncI_lnk l f p hf hl,Option.bind_some]
 exact congrArg some (posI_any p l)
theorem ContainsFuncC_lnk (l:List Similar) (f:Similar→Option Bool) (p:Similar→Bool) (hf:∀x∈l,f x=some (p x)) (hl:l.length≤1073741824):slices_ContainsFunc_Similar l f=some (l.any p):=by
 simp only [slices_ContainsFunc_Similar,IndexFuncC_lnk l f p hf hl,Option.bind_some]
 exact congrArg some (posI_any p l)
theorem Long_eq (a b:Str) (ha:a.length≤200) (hb:b.length≤200):similarity_long [a,b]=some false:=by
 simp only [similarity_long,slices_ContainsFunc_string,IndexFuncS_lnk [a,b] (fun y=>similarity_long_1 y) (fun x=>decide ((x.length:Int) > 200)) (fun _ _=>rfl) (by simp),Option.bind_some]
 have h1:¬((a.length:Int) > 200):=by omega
 have h2:¬((b.length:Int) > 200):=by omega
 simp [List.findIdx?_cons,h1,h2,posI]
def dRow (a b:Str) (i j:Nat):List Int:=(List.range (b.length+1)).map fun k=>if j≤k then ((sed (a.drop i) (b.drop k):Nat):Int) else 0
def dTab (a b:Str) (i j:Nat):List (List Int):=(List.range (a.length+1)).map fun k=>if i < k then dRow a b k 0 else if i=k then dRow a b k j else List.replicate (b.length+1) 0
theorem sed_le {α:Type} [DecidableEq α]:∀a b:List α,sed a b≤a.length+b.length
 | [],b=>by rw [sed_nil];simp
 | x :: a,[]=>by rw [sed_nil2];simp
 | x :: a,y :: b=>by
  have h1:=sed_le a b
  have h2:=sed_le a (y :: b)
  by_cases h:x=y
  ·subst h;rw [sed_eq];simp only [List.length_cons];omega
  ·rw [sed_ne h];simp only [List.length_cons] at *;omega
termination_by a b=>a.length+b.length
theorem dRow_len (a b:Str) (i j:Nat):(dRow a b i j).length=b.length+1:=by simp [dRow]
theorem dTab_len (a b:Str) (i j:Nat):(dTab a b i j).length=a.length+1:=by simp [dTab]
theorem dRow_get {a b:Str} {i j k:Nat} (h:k≤b.length):(dRow a b i j)[k]?=some (if j≤k then ((sed (a.drop i) (b.drop k):Nat):Int) else 0):=by
 simp only [dRow,List.getElem?_map,List.getElem?_range (show k < b.length+1 by omega),Option.map_some]
theorem dTab_get {a b:Str} {i j k:Nat} (h:k≤a.length):(dTab a b i j)[k]?=some (if i < k then dRow a b k 0 else if i=k then dRow a b k j else List.replicate (b.length+1) 0):=by
 simp only [dTab,List.getElem?_map,List.getElem?_range (show k < a.length+1 by omega),Option.map_some]
theorem dRow_top (a b:Str) (i:Nat):dRow a b i (b.length+1)=List.replicate (b.length+1) 0:=by
 refine List.ext_getElem? fun k=>?_
 by_cases h:k≤b.length
 ·rw [dRow_get h,List.getElem?_replicate,if_neg (by omega),if_pos (by omega)]
 ·simp only [dRow,List.getElem?_map,List.getElem?_eq_none (show (List.range (b.length+1)).length≤k by simp;omega),List.getElem?_replicate]
  rw [if_neg (by omega)];rfl
theorem dRow_set {a b:Str} {i j:Nat} (h:j≤b.length):(dRow a b i (j+1)).set j ((sed (a.drop i) (b.drop j):Nat):Int)=dRow a b i j:=by
 refine List.ext_getElem? fun k=>?_
 rw [List.getElem?_set]
 by_cases hk:k≤b.length
 ·rw [dRow_get hk,dRow_get hk,dRow_len]
  by_cases e:j=k
  ·subst e;simp;omega
  ·rw [if_neg e]
   congr 1
   by_cases hjk:j≤k
   ·rw [if_pos hjk,if_pos (by omega)]
   ·rw [if_neg hjk,if_neg (by omega)]
 ·have h1:(dRow a b i (j+1))[k]?=none:=List.getElem?_eq_none (by rw [dRow_len];omega)
  have h2:(dRow a b i j)[k]?=none:=List.getElem?_eq_none (by rw [dRow_len];omega)
  rw [if_neg (by omega),h1,h2]
theorem dTab_set {a b:Str} {i j:Nat} (hi:i≤a.length) (h:j≤b.length):(dTab a b i (j+1)).set i (dRow a b i j)=dTab a b i j:=by
 refine List.ext_getElem? fun k=>?_
 rw [List.getElem?_set]
 by_cases hk:k≤a.length
 ·rw [dTab_get hk,dTab_get hk,dTab_len]
  by_cases e:i=k
  ·subst e;simp;omega
  ·rw [if_neg e]
   simp [e]
 ·have h1:(dTab a b i (j+1))[k]?=none:=List.getElem?_eq_none (by rw [dTab_len];omega)
  have h2:(dTab a b i j)[k]?=none:=List.getElem?_eq_none (by rw [dTab_len];omega)
  rw [if_neg (by omega),h1,h2]
theorem dTab_next {a b:Str} {i:Nat}:dTab a b (i+1) 0=dTab a b i (b.length+1):=by
 refine List.ext_getElem? fun k=>?_
 by_cases hk:k≤a.length
 ·rw [dTab_get hk,dTab_get hk]
  congr 1
  by_cases h1:i+1 < k
  ·rw [if_pos h1,if_pos (by omega)]
  ·rw [if_neg h1]
   by_cases h2:i+1=k
   ·subst h2;rw [if_pos rfl,if_pos (by omega)]
   ·rw [if_neg h2,if_neg (by omega)]
    by_cases h3:i=k
    ·rw [if_pos h3,dRow_top]
    ·rw [if_neg h3]
 ·have h1:(dTab a b (i+1) 0)[k]?=none:=List.getElem?_eq_none (by rw [dTab_len];omega)
  have h2:(dTab a b i (b.length+1))[k]?=none:=List.getElem?_eq_none (by rw [dTab_len];omega)
  rw [h1,h2]
theorem drop_end {α:Type} (l:List α):l.drop l.length=[]:=List.drop_length
theorem dist_inner (a b:Str) (ha:a.length≤200) (hb:b.length≤200) (i:Nat) (hi:i≤a.length):∀(j:Nat),j≤b.length+1→LoopF (similarity_distances_l4 a b (i:Int)) (dTab a b i j,(j:Int) - 1)=some (dTab a b i 0):=by
 intro j
 induction j with
 | zero=>intro _;exact Loop_done (by simp [similarity_distances_l4])
 | succ j ih =>
  intro hj
  have hj':j≤b.length:=by omega
  have e0:(((j+1:Nat):Int) - 1)=(j:Int):=by omega
  have c0:(j:Int)≥0:=by omega
  have gi:idx (dTab a b i (j+1)) (i:Int)=some (dRow a b i (j+1)):=by
   rw [idx_get (dTab_get hi)];simp
  have gj:∀v,(dRow a b i (j+1))[j]?=some v→idx (dRow a b i (j+1)) (j:Int)=some v:=fun v h=>idx_get h
  have gj0:idx (dRow a b i (j+1)) (j:Int)=some 0:=by rw [idx_get (dRow_get hj'),if_neg (by omega)]
  have wj:IntKind.i64.wrap ((j:Int) - 1)=(j:Int) - 1:=wrap_i64 (by omega) (by omega)
  have wi:=wrap_nat (show i < 4611686018427387904 by omega)
  have wj1:=wrap_nat (show j < 4611686018427387904 by omega)
  rw [e0]
  refine (Loop_next (s':=(dTab a b i j,(j:Int) - 1)) ?_).trans (ih (by omega))
  have key:∀v:Int,v=((sed (a.drop i) (b.drop j):Nat):Int)→(dTab a b i (j+1)).set (i:Int).toNat ((dRow a b i (j+1)).set (j:Int).toNat v)=dTab a b i j:=by
   intro v hv
   rw [hv,Int.toNat_natCast,Int.toNat_natCast,dRow_set hj',dTab_set hi hj']
  by_cases h1:i=a.length
  ·have c1:((i:Int) == (a.length:Int))=true:=by simp [h1]
   have hv:IntKind.i64.wrap ((b.length:Int) - (j:Int))=((sed (a.drop i) (b.drop j):Nat):Int):=by
    rw [wrap_i64 (by omega) (by omega),h1,drop_end,sed_nil,List.length_drop];omega
   simp only [similarity_distances_l4,if_pos c0,c1,if_true,gi,Option.bind_some,gj0,key _ hv,wj]
  ·have c1:((i:Int) == (a.length:Int))=false:=by simp;omega
   by_cases h2:j=b.length
   ·have c2:((j:Int) == (b.length:Int))=true:=by simp [h2]
    have hv:IntKind.i64.wrap ((a.length:Int) - (i:Int))=((sed (a.drop i) (b.drop j):Nat):Int):=by
     rw [wrap_i64 (by omega) (by omega),h2,drop_end,sed_nil2,List.length_drop];omega
    simp only [similarity_distances_l4,if_pos c0,c1,c2,if_true,Bool.false_eq_true,if_false,gi,Option.bind_some,gj0,key _ hv,wj]
   ·have c2:((j:Int) == (b.length:Int))=false:=by simp;omega
    have hia:i < a.length:=by omega
    have hjb:j < b.length:=by omega
    have ga:a[i]?=some a[i]:=List.getElem?_eq_getElem hia
    have gb:b[j]?=some b[j]:=List.getElem?_eq_getElem hjb
    have da:=drop_cons ga
    have db:=drop_cons gb
    have gi1:idx (dTab a b i (j+1)) ((i+1:Nat):Int)=some (dRow a b (i+1) 0):=by
     rw [idx_get (dTab_get (show i+1≤a.length by omega))];simp
    have r1:idx (dRow a b (i+1) 0) ((j+1:Nat):Int)=some ((sed (a.drop (i+1)) (b.drop (j+1)):Nat):Int):=by
     rw [idx_get (dRow_get (show j+1≤b.length by omega))];simp
    have r2:idx (dRow a b (i+1) 0) (j:Int)=some ((sed (a.drop (i+1)) (b.drop j):Nat):Int):=by
     rw [idx_get (dRow_get hj')];simp
    have r3:idx (dRow a b i (j+1)) ((j+1:Nat):Int)=some ((sed (a.drop i) (b.drop (j+1)):Nat):Int):=by
     rw [idx_get (dRow_get (show j+1≤b.length by omega))];simp
    by_cases h:a[i]=b[j]
    ·have c3:(((a[i].toNat:Nat):Int) == ((b[j].toNat:Nat):Int))=true:=by simp [h]
     have hv:((sed (a.drop (i+1)) (b.drop (j+1)):Nat):Int)=((sed (a.drop i) (b.drop j):Nat):Int):=by
      rw [da,db,h,sed_eq]
     simp only [similarity_distances_l4,if_pos c0,c1,c2,c3,if_true,Bool.false_eq_true,if_false,idx_get ga,idx_get gb,gi,Option.bind_some,gj0,wi,wj1,gi1,r1,key _ hv,wj]
    ·have c3:(((a[i].toNat:Nat):Int) == ((b[j].toNat:Nat):Int))=false:=by
      rw [beq_eq_false_iff_ne]
      exact fun e=>h (UInt8.toNat_inj.1 (by omega))
     have hle:=sed_le (a.drop i) (b.drop j)
     simp only [List.length_drop] at hle
     have hs:sed (a.drop i) (b.drop j)=1+min (min (sed (a.drop (i+1)) (b.drop (j+1))) (sed (a.drop (i+1)) (b.drop j))) (sed (a.drop i) (b.drop (j+1))):=by
      rw [da,db,sed_ne h,←da,←db]
     have hv:IntKind.i64.wrap (1+(if ((sed (a.drop i) (b.drop (j+1)):Nat):Int) < (if ((sed (a.drop (i+1)) (b.drop j):Nat):Int) < ((sed (a.drop (i+1)) (b.drop (j+1)):Nat):Int) then ((sed (a.drop (i+1)) (b.drop j):Nat):Int) else ((sed (a.drop (i+1)) (b.drop (j+1)):Nat):Int)) then ((sed (a.drop i) (b.drop (j+1)):Nat):Int) else (if ((sed (a.drop (i+1)) (b.drop j):Nat):Int) < ((sed (a.drop (i+1)) (b.drop (j+1)):Nat):Int) then ((sed (a.drop (i+1)) (b.drop j):Nat):Int) else ((sed (a.drop (i+1)) (b.drop (j+1)):Nat):Int))))=((sed (a.drop i) (b.drop j):Nat):Int):=by
      rw [min3,hs]
      rw [hs] at hle
      generalize min (min (sed (a.drop (i+1)) (b.drop (j+1))) (sed (a.drop (i+1)) (b.drop j))) (sed (a.drop i) (b.drop (j+1)))=m at *
      rw [wrap_i64 (by omega) (by omega)];omega
     simp only [similarity_distances_l4,if_pos c0,c1,c2,c3,if_true,Bool.false_eq_true,if_false,idx_get ga,idx_get gb,gi,Option.bind_some,gj0,wi,wj1,gi1,r1,r2,r3,key _ hv,wj]
theorem dist_outer (a b:Str) (ha:a.length≤200) (hb:b.length≤200):∀(i:Nat),i≤a.length+1→LoopF (similarity_distances_l5 a b) (dTab a b i 0,(i:Int) - 1)=some (dTab a b 0 0):=by
 intro i
 induction i with
 | zero=>intro _;exact Loop_done (by simp [similarity_distances_l5])
 | succ i ih =>
  intro hi
  have e0:(((i+1:Nat):Int) - 1)=(i:Int):=by omega
  have c0:(i:Int)≥0:=by omega
  have wi:IntKind.i64.wrap ((i:Int) - 1)=(i:Int) - 1:=wrap_i64 (by omega) (by omega)
  have hin:=dist_inner a b ha hb i (by omega) (b.length+1) (Nat.le_refl _)
  rw [←dTab_next,show (((b.length+1:Nat):Int) - 1)=(b.length:Int) by omega] at hin
  rw [e0]
  refine (Loop_next (s':=(dTab a b i 0,(i:Int) - 1)) ?_).trans (ih (by omega))
  simp only [similarity_distances_l5,if_pos c0,hin,Option.bind_some,wi]
theorem set_rep {α:Type} {x y:α} {n k:Nat} (h:k < n):(List.replicate k y++List.replicate (n - k) x).set k y=List.replicate (k+1) y++List.replicate (n - (k+1)) x:=by
 rw [show n - k=(n - (k+1))+1 by omega,List.replicate_succ,List.set_append_right _ _ (by simp),List.length_replicate,Nat.sub_self,List.set_cons_zero,List.replicate_succ',List.append_assoc]
 rfl
theorem dist_init (a b:Str) (ha:a.length≤200) (hb:b.length≤200):LoopF (similarity_distances_l1 a b) (List.replicate (a.length+1) [],0)=some (dTab a b (a.length+1) 0):=by
 have w1:IntKind.i64.wrap ((a.length:Int)+1)=((a.length+1:Nat):Int):=wrap_nat (by omega)
 have w2:IntKind.i64.wrap ((b.length:Int)+1)=((b.length+1:Nat):Int):=wrap_nat (by omega)
 have hroom:roomB (b.length+1) 8=true:=roomI8 (by omega)
 have h0:(0:Int)≤((b.length+1:Nat):Int):=by omega
 have key:∀(d k:Nat),k+d=a.length+1→LoopF (similarity_distances_l1 a b) (List.replicate k (List.replicate (b.length+1) (0:Int))++List.replicate (a.length+1 - k) [],(k:Int))=some (List.replicate (a.length+1) (List.replicate (b.length+1) (0:Int))):=by
  intro d
  induction d with
  | zero =>
   intro k hk
   obtain rfl:k=a.length+1:=by omega
   have c:¬(((a.length+1:Nat):Int) < (((List.replicate (a.length+1) ([]:List Int)).length:Nat):Int)):=by simp
   exact Loop_done (by simp only [similarity_distances_l1,w1,Int.toNat_natCast,if_neg c,Nat.sub_self,List.replicate_zero,List.append_nil])
  | succ d ih =>
   intro k hk
   have c:((k:Int) < (((List.replicate (a.length+1) ([]:List Int)).length:Nat):Int)):=by simp;omega
   have g:idx (List.replicate k (List.replicate (b.length+1) (0:Int))++List.replicate (a.length+1 - k) []) (k:Int)=some []:=by
    refine idx_get ?_
    rw [List.getElem?_append,List.length_replicate,if_neg (by omega),List.getElem?_replicate,if_pos (by omega)]
   refine (Loop_next (s':=(List.replicate (k+1) (List.replicate (b.length+1) (0:Int))++List.replicate (a.length+1 - (k+1)) [],((k+1:Nat):Int))) ?_).trans (ih (k+1) (by omega))
   simp only [similarity_distances_l1,w1,w2,Int.toNat_natCast,if_pos c,if_pos h0,hroom,if_true,g,Option.bind_some,wrap_nat (show k < 4611686018427387904 by omega),set_rep (show k < a.length+1 by omega)]
 have h:=key (a.length+1) 0 (by omega)
 simp only [List.replicate_zero,List.nil_append,Nat.sub_zero,Int.natCast_zero] at h
 rw [h]
 congr 1
 refine List.ext_getElem? fun k=>?_
 by_cases hk:k≤a.length
 ·rw [dTab_get hk,List.getElem?_replicate,if_pos (by omega),if_neg (by omega),if_neg (by omega)]
 ·have h2:(dTab a b (a.length+1) 0)[k]?=none:=List.getElem?_eq_none (by rw [dTab_len];omega)
  rw [h2,List.getElem?_replicate,if_neg (by omega)]
theorem sDistance_eq (a b:Str) (ha:a.length≤200) (hb:b.length≤200):similarity_Distance a b=some (((sed a b:Nat):Int),0):=by
 have w1:IntKind.i64.wrap ((a.length:Int)+1)=((a.length+1:Nat):Int):=wrap_nat (by omega)
 have h0:(0:Int)≤((a.length+1:Nat):Int):=by omega
 have hroom:roomB (a.length+1) 24=true:=by
  unfold roomB;simp only [decide_eq_true_eq];omega
 have ho:=dist_outer a b ha hb (a.length+1) (Nat.le_refl _)
 rw [show (((a.length+1:Nat):Int) - 1)=(a.length:Int) by omega] at ho
 have hd:similarity_distances a b=some (dTab a b 0 0):=by
  simp only [similarity_distances,w1,Int.toNat_natCast,if_pos h0,hroom,if_true,dist_init a b ha hb,Option.bind_some,ho]
 have g1:(dTab a b 0 0)[0]?=some (dRow a b 0 0):=by rw [dTab_get (Nat.zero_le _)];simp
 have g2:(dRow a b 0 0)[0]?=some ((sed a b:Nat):Int):=by rw [dRow_get (Nat.zero_le _)];simp
 simp only [similarity_Distance,Long_eq a b ha hb,Option.bind_some,Bool.false_eq_true,if_false,hd,g1,g2]
theorem rDistance_eq (a b:Str) (ha:a.length≤200) (hb:b.length≤200):drossref52_Distance a b=some ((sed a b:Nat):Int):=by
 rw [Distance_eq a b (by omega) (by omega),sed_dpN]
def limB (c:Similar):Bool :=
 if c.Measure=1 then decide (c.Limit=0) else if c.Measure=2∨c.Measure=4 then decide (0≤c.Limit∧c.Limit≤200) else if c.Measure=3 then decide (0≤c.Limit∧c.Limit≤100) else false
theorem slimit_eq (c:Similar):similarity_valid c=some (limB c):=by
 simp only [similarity_valid,limB,beq_iff_eq]
 by_cases h1:c.Measure=1
 ·simp [h1]
  rw [Bool.eq_iff_iff];simp
 by_cases h2:c.Measure=2
 ·simp [h2];split <;> simp [*] <;> omega
 by_cases h4:c.Measure=4
 ·simp [h4];split <;> simp [*] <;> omega
 by_cases h3:c.Measure=3
 ·simp [h3];split <;> simp [*] <;> omega
 simp [h1,h2,h3,h4]
theorem rlimit_eq (c:Similar):drossref52_limit c=some (limB c):=slimit_eq c
def vAt (x:Row) (c:Similar):Value:=x.Values.getD c.Attr.toNat ⟨0,0,[]⟩
def simCode (x y:Row) (c:Similar):Int :=
 if c.Attr < 0 then 6 else if c.Attr≥(x.Values.length:Int) then 6 else if c.Attr≥(y.Values.length:Int) then 6 else if valid (vAt x c) && (valid (vAt y c) && limB c) then 0 else 1
def gramR (a b:Str):Ratio:=ratioN (2 * comm ltS (gramsB a 2) (gramsB b 2)) ((gramsB a 2).length+(gramsB b 2).length)
def gramB (a b:Str) (lim:Int):Bool:=decide (IntKind.i64.wrap (100 * (gramR a b).Num)≥IntKind.i64.wrap (lim * (gramR a b).Den))
def headN (s:Str) (n:Int):Nat:=min s.length n.toNat
def simVal (v w:Value) (c:Similar):Bool :=
 if v.Kind≠2∨w.Kind≠2∨c.Measure=1 then decide (v=w)
 else if c.Measure=2 then decide (((sed v.Str w.Str:Nat):Int)≤c.Limit)
 else if c.Measure=3 then gramB v.Str w.Str c.Limit
 else decide (v.Str.take (headN v.Str c.Limit)=w.Str.take (headN w.Str c.Limit))
def simR (x y:Row) (c:Similar):Bool×Int:=if simCode x y c=0 then (simVal (vAt x c) (vAt y c) c,0) else (false,simCode x y c)
theorem vAt_get {x:Row} {c:Similar} (h0:¬c.Attr < 0) (h1:¬c.Attr≥(x.Values.length:Int)):idx x.Values c.Attr=some (vAt x c):=by
 have e:c.Attr=((c.Attr.toNat:Nat):Int):=by omega
 have hlt:c.Attr.toNat < x.Values.length:=by omega
 rw [e,idx_nat,vAt,List.getD_eq_getElem?_getD,List.getElem?_eq_getElem hlt];rfl
theorem gramsLen (a:Str):(gramsB a 2).length=a.length+1:=by rw [gramsB_len];omega
theorem comm_small (a b:Str):comm ltS (gramsB a 2) (gramsB b 2)≤a.length+1:=by
 have:=comm_le ltS _ (gramsB a 2) (gramsB b 2) (Nat.le_refl _)
 rwa [gramsLen] at this
theorem Common_p (a b:Str) (ha:a.length≤200) (hb:b.length≤200):similarity_Common a b 2=some (gramR a b,0):=by
 have g1:=Grams_eq a 2 ha (by omega) (by omega)
 have g2:=Grams_eq b 2 hb (by omega) (by omega)
 have l1:=gramsLen a
 have l2:=gramsLen b
 have hc:=comm_small a b
 have hs:=shared_eq _ (gramsB a 2) (gramsB b 2) 0 rfl (by omega)
 simp only [Nat.zero_add,Int.natCast_zero] at hs
 have w1:IntKind.i64.wrap (((gramsB a 2).length:Int)+((gramsB b 2).length:Int))=(((gramsB a 2).length+(gramsB b 2).length:Nat):Int):=by rw [wrap_i64 (by omega) (by omega)];omega
 have w2:IntKind.i64.wrap (2 * ((comm ltS (gramsB a 2) (gramsB b 2):Nat):Int))=((2 * comm ltS (gramsB a 2) (gramsB b 2):Nat):Int):=by rw [wrap_i64 (by omega) (by omega)];omega
 have z:((((gramsB a 2).length+(gramsB b 2).length:Nat):Int) == 0)=false:=by
  rw [beq_eq_false_iff_ne];omega
 have g1':similarity_Grams a 2=some (gramsB a 2,0):=g1
 have g2':similarity_Grams b 2=some (gramsB b 2,0):=g2
 have hsh:similarity_shared (gramsB a 2) (gramsB b 2)=some ((comm ltS (gramsB a 2) (gramsB b 2):Nat):Int):=by
  simp only [similarity_shared,hs,Option.bind_some]
 have hm:=ratio_Make_nat (2 * comm ltS (gramsB a 2) (gramsB b 2)) ((gramsB a 2).length+(gramsB b 2).length) (by omega) (by omega) (by omega)
 simp only [similarity_Common,Long_eq a b ha hb,Option.bind_some,Bool.false_eq_true,if_false,g1',g2',w1,z,bne_self_eq_false,hsh,w2,hm]
 rfl
theorem Common_r (a b:Str) (ha:a.length≤200) (hb:b.length≤200):drossref52_Common a b 2=some (gramR a b,0):=by
 have g1':drossref52_Grams a 2=some (gramsB a 2,0):=ref_Grams_eq a 2 ha (by omega) (by omega)
 have g2':drossref52_Grams b 2=some (gramsB b 2,0):=ref_Grams_eq b 2 hb (by omega) (by omega)
 have l1:=gramsLen a
 have l2:=gramsLen b
 have hc:=comm_small a b
 have w1:IntKind.i64.wrap (((gramsB a 2).length:Int)+((gramsB b 2).length:Int))=(((gramsB a 2).length+(gramsB b 2).length:Nat):Int):=by rw [wrap_i64 (by omega) (by omega)];omega
 have w2:IntKind.i64.wrap (2 * ((comm ltS (gramsB a 2) (gramsB b 2):Nat):Int))=((2 * comm ltS (gramsB a 2) (gramsB b 2):Nat):Int):=by rw [wrap_i64 (by omega) (by omega)];omega
 have z:((((gramsB a 2).length+(gramsB b 2).length:Nat):Int) == 0)=false:=by
  rw [beq_eq_false_iff_ne];omega
 have hsh:=Shared_eq (gramsB a 2) (gramsB b 2) (by omega) (by omega)
 have hm:=ref_Of_nat (2 * comm ltS (gramsB a 2) (gramsB b 2)) ((gramsB a 2).length+(gramsB b 2).length) (by omega) (by omega) (by omega)
 have n1:¬((a.length:Int) > 200):=by omega
 have n2:¬((b.length:Int) > 200):=by omega
 simp only [drossref52_Common,drossref52_long,n1,n2,decide_false,Option.bind_some,Bool.false_eq_true,if_false,g1',g2',w1,z,bne_self_eq_false,hsh,w2,hm]
 rfl
theorem valid_str {v:Value} (h:valid v=true):v.Str.length≤200:=by
 simp only [valid,decide_eq_true_eq] at h
 rcases h with ⟨_,_,h⟩ | ⟨_,h⟩ | ⟨_,_,h⟩ | ⟨_,_,h⟩
 ·rw [h];simp
 ·rw [h];simp
 ·exact h
 ·rw [h];simp
theorem valid_text {v:Value} (h:valid v=true) (k:v.Kind=2):v.Num=0:=by
 simp only [valid,decide_eq_true_eq] at h
 omega
theorem text_eq {v w:Value} (hv:valid v=true) (hw:valid w=true) (kv:v.Kind=2) (kw:w.Kind=2):(v.Str == w.Str)=decide (v=w):=by
 have n1:=valid_text hv kv
 have n2:=valid_text hw kw
 rw [Bool.eq_iff_iff,beq_iff_eq,decide_eq_true_eq]
 obtain ⟨a,b,c⟩:=v
 obtain ⟨a',b',c'⟩:=w
 simp only at *
 subst kv kw n1 n2
 simp
theorem head_eq {s:Str} {n:Int} (h:0≤n):(if (s.length:Int) < n then (s.length:Int) else n)=((headN s n:Nat):Int):=by
 unfold headN;split <;> omega
theorem veq_raw (v w:Value):((v.Kind == w.Kind) && ((v.Num == w.Num) && (v.Str == w.Str)))=decide (v=w):=by
 obtain ⟨a,b,c⟩:=v
 obtain ⟨a',b',c'⟩:=w
 rw [Bool.eq_iff_iff];simp
theorem simCode_ok {x y:Row} {c:Similar} (h:simCode x y c=0):¬c.Attr < 0∧¬c.Attr≥(x.Values.length:Int)∧¬c.Attr≥(y.Values.length:Int)∧valid (vAt x c)=true∧valid (vAt y c)=true∧limB c=true:=by
 unfold simCode at h
 split at h
 ·simp at h
 ·split at h
  ·simp at h
  ·split at h
   ·simp at h
   ·split at h
    ·rename_i h1 h2 h3 h4
     simp only [Bool.and_eq_true] at h4
     exact ⟨h1,h2,h3,h4.1,h4.2.1,h4.2.2⟩
    ·simp at h
theorem lim_cases {c:Similar} (h:limB c=true):c.Measure=1∨((c.Measure=2∨c.Measure=3∨c.Measure=4)∧0≤c.Limit∧c.Limit≤200):=by
 unfold limB at h
 split at h
 ·exact .inl ‹_›
 ·split at h
  ·have:=of_decide_eq_true h;right;omega
  ·split at h
   ·have:=of_decide_eq_true h;right;omega
   ·simp at h
theorem Match_p (x y:Row) (c:Similar):similarity_Match x y c=some (simR x y c):=by
 by_cases hc:simCode x y c=0
 ·obtain ⟨h0,h1,h2,hv,hw,hl⟩:=simCode_ok hc
  have sv:=valid_str hv
  have sw:=valid_str hw
  rw [simR,if_pos hc]
  simp only [similarity_Match,if_neg h0,if_neg h1,if_neg h2,vAt_get h0 h1,vAt_get h0 h2,Option.bind_some,value_Valid_eq,hv,hw,if_true,slimit_eq,hl,veq_raw]
  by_cases k1:(vAt x c).Kind=2
  ·by_cases k2:(vAt y c).Kind=2
   ·have b1:((vAt x c).Kind != 2)=false:=by rw [k1];rfl
    have b2:((vAt y c).Kind != 2)=false:=by rw [k2];rfl
    simp only [b1,b2,Bool.false_eq_true,if_false,Option.bind_some,beq_iff_eq]
    rcases lim_cases hl with hm | ⟨hm,hl0,hl2⟩
    ·have m2:¬c.Measure=2:=by omega
     have m3:¬c.Measure=3:=by omega
     have m4:¬c.Measure=4:=by omega
     simp only [if_neg m2,if_neg m3,if_neg m4,text_eq hv hw k1 k2]
     unfold simVal
     rw [if_pos (.inr (.inr hm))]
    ·have m1:¬c.Measure=1:=by omega
     have hneg:¬((vAt x c).Kind≠2∨(vAt y c).Kind≠2∨c.Measure=1):=by simp [k1,k2,m1]
     unfold simVal
     rw [if_neg hneg]
     by_cases m2:c.Measure=2
     ·simp only [if_pos m2,similarity_Within,sDistance_eq _ _ sv sw,Option.bind_some,beq_self_eq_true,if_true]
     ·by_cases m3:c.Measure=3
      ·simp only [if_neg m2,if_pos m3,Common_p _ _ sv sw,Option.bind_some,beq_self_eq_true,if_true,gramB]
      ·have m4:c.Measure=4:=by omega
       simp only [if_neg m2,if_neg m3,if_pos m4,head_eq hl0,Int.toNat_natCast]
       have q1:(0:Int)≤((headN (vAt x c).Str c.Limit:Nat):Int):=by omega
       have q2:((headN (vAt x c).Str c.Limit:Nat):Int)≤((vAt x c).Str.length:Int):=by unfold headN;omega
       have q3:(0:Int)≤((headN (vAt y c).Str c.Limit:Nat):Int):=by omega
       have q4:((headN (vAt y c).Str c.Limit:Nat):Int)≤((vAt y c).Str.length:Int):=by unfold headN;omega
       rw [if_pos q1,if_pos q2,if_pos q3,if_pos q4]
       congr 2
       rw [Bool.eq_iff_iff];simp
   ·have b1:((vAt x c).Kind != 2)=false:=by rw [k1];rfl
    have b2:((vAt y c).Kind != 2)=true:=by simp [k2]
    simp only [b1,b2,Bool.false_eq_true,if_false,Option.bind_some,if_true]
    unfold simVal
    rw [if_pos (.inr (.inl k2))]
  ·have b1:((vAt x c).Kind != 2)=true:=by simp [k1]
   simp only [b1,if_true,Option.bind_some]
   unfold simVal
   rw [if_pos (.inl k1)]
 ·rw [simR,if_neg hc]
  unfold simCode at hc ⊢
  by_cases h0:c.Attr < 0
  ·simp only [similarity_Match,if_pos h0]
  by_cases h1:c.Attr≥(x.Values.length:Int)
  ·simp only [similarity_Match,if_neg h0,if_pos h1]
  by_cases h2:c.Attr≥(y.Values.length:Int)
  ·simp only [similarity_Match,if_neg h0,if_neg h1,if_pos h2]
  simp only [if_neg h0,if_neg h1,if_neg h2] at hc ⊢
  simp only [similarity_Match,if_neg h0,if_neg h1,if_neg h2,vAt_get h0 h1,vAt_get h0 h2,Option.bind_some,value_Valid_eq,slimit_eq]
  rcases Bool.eq_false_or_eq_true (valid (vAt x c)) with a | a <;> rcases Bool.eq_false_or_eq_true (valid (vAt y c)) with b | b <;> rcases Bool.eq_false_or_eq_true (limB c) with d | d <;> simp [a,b,d] at hc ⊢
theorem Error_r (x y:Row) (c:Similar):drossref52_Error x y c=some (simCode x y c):=by
 unfold simCode
 by_cases h0:c.Attr < 0
 ·simp only [drossref52_Error,if_pos h0]
 by_cases h1:c.Attr≥(x.Values.length:Int)
 ·simp only [drossref52_Error,if_neg h0,if_pos h1]
 by_cases h2:c.Attr≥(y.Values.length:Int)
 ·simp only [drossref52_Error,if_neg h0,if_neg h1,if_pos h2]
 simp only [drossref52_Error,if_neg h0,if_neg h1,if_neg h2,vAt_get h0 h1,vAt_get h0 h2,Option.bind_some,ref_Valid_eq,rlimit_eq]
 rcases Bool.eq_false_or_eq_true (valid (vAt x c)) with a | a <;> rcases Bool.eq_false_or_eq_true (valid (vAt y c)) with b | b <;> rcases Bool.eq_false_or_eq_true (limB c) with d | d <;> simp [a,b,d]
theorem Match_r (x y:Row) (c:Similar):drossref52_Match x y c=some (simR x y c):=by
 by_cases hc:simCode x y c=0
 ·obtain ⟨h0,h1,h2,hv,hw,hl⟩:=simCode_ok hc
  have sv:=valid_str hv
  have sw:=valid_str hw
  rw [simR,if_pos hc]
  simp only [drossref52_Match,Error_r,hc,Option.bind_some,bne_self_eq_false,Bool.false_eq_true,if_false,vAt_get h0 h1,vAt_get h0 h2]
  have hcmp:drossref01_Compare (vAt x c) (vAt y c)=some (vcmp (vAt x c) (vAt y c)):=ref_Compare_eq _ _ (by omega)
  have hdec:(vcmp (vAt x c) (vAt y c) == 0)=decide (vAt x c=vAt y c):=by
   rw [Bool.eq_iff_iff,beq_iff_eq,decide_eq_true_eq,vcmp_eq]
  by_cases k1:(vAt x c).Kind=2
  ·have b1:((vAt x c).Kind != 2)=false:=by rw [k1];rfl
   by_cases k2:(vAt y c).Kind=2
   ·have b2:((vAt y c).Kind != 2)=false:=by rw [k2];rfl
    simp only [b1,b2,Bool.false_eq_true,if_false,Option.bind_some,beq_iff_eq]
    rcases lim_cases hl with hm | ⟨hm,hl0,hl2⟩
    ·simp only [if_pos hm,hcmp,Option.bind_some,hdec]
     unfold simVal
     rw [if_pos (.inr (.inr hm))]
    ·have m1:¬c.Measure=1:=by omega
     have hneg:¬((vAt x c).Kind≠2∨(vAt y c).Kind≠2∨c.Measure=1):=by simp [k1,k2,m1]
     unfold simVal
     rw [if_neg hneg]
     by_cases m2:c.Measure=2
     ·simp only [if_neg m1,if_pos m2,rDistance_eq _ _ sv sw,Option.bind_some]
     ·by_cases m3:c.Measure=3
      ·simp only [if_neg m1,if_neg m2,if_pos m3,Common_r _ _ sv sw,Option.bind_some,gramB]
      ·have m4:c.Measure=4:=by omega
       have q1:(0:Int)≤((headN (vAt x c).Str c.Limit:Nat):Int):=by omega
       have q2:((headN (vAt x c).Str c.Limit:Nat):Int)≤((vAt x c).Str.length:Int):=by unfold headN;omega
       have q3:(0:Int)≤((headN (vAt y c).Str c.Limit:Nat):Int):=by omega
       have q4:((headN (vAt y c).Str c.Limit:Nat):Int)≤((vAt y c).Str.length:Int):=by unfold headN;omega
       simp only [if_neg m1,if_neg m2,if_neg m3,drossref52_head,head_eq hl0,Int.toNat_natCast,if_pos q1,if_pos q2,if_pos q3,if_pos q4,Option.bind_some]
       congr 2
       rw [Bool.eq_iff_iff];simp
   ·have b2:((vAt y c).Kind != 2)=true:=by simp [k2]
    simp only [b1,b2,Bool.false_eq_true,if_false,Option.bind_some,if_true,hcmp,hdec]
    unfold simVal
    rw [if_pos (.inr (.inl k2))]
  ·have b1:((vAt x c).Kind != 2)=true:=by simp [k1]
   simp only [b1,if_true,Option.bind_some,hcmp,hdec]
   unfold simVal
   rw [if_pos (.inl k1)]
 ·rw [simR,if_neg hc]
  have:(simCode x y c != 0)=true:=by simp [hc]
  simp only [drossref52_Match,Error_r,Option.bind_some,this,if_true]
end Go.Proofs.YtmlegeeinnkhkaaGreat
namespace Go.Ab
open Go
def firstE {α:Type} (f:α→Int):List α→Int
 | []=>0
 | x :: r=>if f x≠0 then f x else firstE f r
theorem LoopF_first {α:Type} (l:List α) (B:Int→Option (LS Int (Unit ⊕ Int))) (f:α→Int)
  (h1:∀(k:Nat) x,l[k]?=some x→k < l.length→B k=if f x≠0 then some (.done (.inr (f x))) else some (.next (k+1:Nat))) (h3:B l.length=some (.done (.inl ()))) :
  LoopF B 0=some (if firstE f l=0 then .inl () else .inr (firstE f l)):=by
 have key:∀(r:List α) (k:Nat),l.drop k=r→k≤l.length→LoopF B (k:Int)=some (if firstE f r=0 then .inl () else .inr (firstE f r)):=by
  intro r
  induction r with
  | nil =>
   intro k hd hk
   have:k=l.length:=by
    have:=congrArg List.length hd
    simp at this;omega
   subst this
   exact Loop_done h3
  | cons x r ih =>
   intro k hd hk
   have hx:l[k]?=some x:=by
    have:=congrArg (·[0]?) hd
    simpa [List.getElem?_drop] using this
   have hd':l.drop (k+1)=r:=by rw [←List.drop_drop,hd];rfl
   have hB:=h1 k x hx (lt_of_get hx)
   by_cases hf:f x≠0
   ·rw [if_pos hf] at hB
    rw [Loop_done hB]
    simp only [firstE,if_pos hf]
    rw [if_neg hf]
   ·rw [if_neg hf] at hB
    rw [Loop_next hB,ih (k+1) hd' (lt_of_get hx)]
    simp only [firstE,if_neg hf]
 exact key l 0 (by simp) (Nat.zero_le _)
theorem compact_mem (zs:List Int) (x:Int):x∈Lib.compact zs↔x∈zs:=by
 unfold Lib.compact Lib.compactUpTo
 simp only [List.mem_map,List.mem_filter,List.mem_range]
 constructor
 ·rintro ⟨j,⟨hj,_⟩,rfl⟩
  simp [getElem!_pos,hj]
 ·intro hx
  have hlt:=List.idxOf_lt_length_of_mem hx
  refine ⟨zs.idxOf x,⟨hlt,?_⟩,by simp [getElem!_pos,hlt]⟩
  simp only [Lib.keeps,decide_eq_true_eq]
  by_cases h0:zs.idxOf x=0
  ·exact .inl h0
  ·right
   have h1:zs.idxOf x - 1 < zs.length:=by omega
   have e1:zs.toArray[zs.idxOf x]! = x:=by simp [getElem!_pos,hlt]
   have e2:zs.toArray[zs.idxOf x - 1]! = zs[zs.idxOf x - 1]:=by simp [getElem!_pos,h1]
   rw [e1,e2]
   intro e
   have hm:=List.not_of_lt_findIdx (p:=fun y=>y == x) (xs:=zs) (i:=zs.idxOf x - 1) (by show zs.idxOf x - 1 < zs.idxOf x;omega)
   simp only [beq_eq_false_iff_ne,ne_eq] at hm
   exact hm e.symm
theorem compact_len (zs:List Int) (hs:zs.Pairwise (·≤·)):(Lib.compact zs).length=zs.length↔zs.Nodup:=by
 unfold Lib.compact Lib.compactUpTo
 rw [List.length_map]
 conv=>lhs;rhs;rw [←List.length_range (n:=zs.length)]
 rw [List.length_filter_eq_length_iff]
 simp only [List.mem_range,Lib.keeps,decide_eq_true_eq]
 rw [List.pairwise_iff_getElem] at hs
 constructor
 ·intro h
  refine List.pairwise_iff_getElem.2 fun i j hi hj hij e=>?_
  have hj1:j - 1 < zs.length:=by omega
  rcases h j hj with h0 | hne
  ·omega
  ·have e1:zs.toArray[j]! = zs[j]:=by simp [getElem!_pos,hj]
   have e2:zs.toArray[j - 1]! = zs[j - 1]:=by simp [getElem!_pos,hj1]
   rw [e1,e2] at hne
   have l1:zs[j - 1]≤zs[j]:=hs (j - 1) j hj1 hj (by omega)
   have l2:zs[i]≤zs[j - 1]:=by
    rcases Nat.lt_or_eq_of_le (show i≤j - 1 by omega) with hlt | heq
    ·exact hs i (j - 1) hi hj1 hlt
    ·subst heq;exact Int.le_refl _
   omega
 ·intro h j hj
  by_cases h0:j=0
  ·exact .inl h0
  ·right
   have hj1:j - 1 < zs.length:=by omega
   have e1:zs.toArray[j]! = zs[j]:=by simp [getElem!_pos,hj]
   have e2:zs.toArray[j - 1]! = zs[j - 1]:=by simp [getElem!_pos,hj1]
   rw [e1,e2]
   intro e
   exact (List.pairwise_iff_getElem.1 h) (j - 1) j hj1 hj (by omega) e.symm
end Go.Ab
namespace Go.Proofs.YtmlegeeinnkhkaaGreat
open Go Go.Ab
def codeC (n:Int) (c:Similar):Int:=if c.Attr < 0∨c.Attr≥n then 6 else if limB c then 0 else 1
def ruleC (n:Int) (l:List Similar):Int:=if l.length < 1∨l.length > 6 then 1 else firstE (codeC n) l
def blockC (n:Int) (l:List Int):Int:=if l.any (fun x=>decide (x < 0∨x≥n)) then 6 else if l.Nodup then 0 else 1
def linkC (n:Int) (l:Linkage):Int :=
 if n < 0∨n > 16 then 7 else if l.Rules.length > 8 then 3
 else if firstE (ruleC n) l.Rules≠0 then firstE (ruleC n) l.Rules
 else if blockC n l.Block≠0 then blockC n l.Block
 else if (l.Survive.length:Int)≠n then 6
 else if l.Survive.any (fun x=>decide (x < 1∨x > 5)) then 1 else 0
def blankV:Value:=⟨0,0,[]⟩
theorem valid_blank:valid blankV=true:=by simp [valid,blankV]
theorem simCode_blank (m i:Int) (c:Similar) (n:Nat):simCode ⟨m,List.replicate n blankV⟩ ⟨i,List.replicate n blankV⟩ c=codeC (n:Int) c:=by
 have hv:vAt ⟨m,List.replicate n blankV⟩ c=blankV∧vAt ⟨i,List.replicate n blankV⟩ c=blankV:=by
  simp only [vAt,List.getD_eq_getElem?_getD,List.getElem?_replicate]
  split <;> exact ⟨rfl,rfl⟩
 simp only [simCode,codeC,List.length_replicate,hv.1,hv.2,valid_blank,Bool.true_and]
 by_cases h0:c.Attr < 0
 ·simp [h0]
 ·by_cases h1:c.Attr≥(n:Int)
  ·simp [h0,h1]
  ·simp [h0,h1]
theorem simR_code (x y:Row) (c:Similar):(simR x y c).2=simCode x y c:=by
 unfold simR;split <;> simp [*]
theorem room32k {n:Nat} (h:n≤1000000):roomB n 32=true:=by
 unfold roomB;simp only [decide_eq_true_eq];omega
theorem link_p (n:Int) (l:Linkage) (hr:∀r∈l.Rules,r.length≤1000000) (hR:l.Rules.length≤1000000) (hb:l.Block.length≤1000000) (hs:l.Survive.length≤1000000):linkage_Valid n l=some (linkC n l):=by
 unfold linkC
 by_cases h1:n < 0
 ·simp only [linkage_Valid,if_pos h1,if_pos (show n < 0∨n > 16 by omega)]
 by_cases h2:n > 16
 ·simp only [linkage_Valid,if_neg h1,if_pos h2,if_pos (show n < 0∨n > 16 by omega)]
 rw [if_neg (show ¬(n < 0∨n > 16) by omega)]
 by_cases h3:(l.Rules.length:Int) > 8
 ·simp only [linkage_Valid,if_neg h1,if_neg h2,if_pos h3,if_pos (show l.Rules.length > 8 by omega)]
 rw [if_neg (show ¬l.Rules.length > 8 by omega)]
 obtain ⟨m,rfl⟩:=Int.eq_ofNat_of_zero_le (show 0≤n by omega)
 have h0:(0:Int)≤(m:Int):=by omega
 have hroom:=room32k (show m≤1000000 by omega)
 have hroomB:roomB l.Block.length 8=true:=room8 (by omega)
 have hin:∀x∈l.Rules,LoopF (linkage_Valid_l3 (List.replicate m blankV) x) 0=some (if firstE (codeC (m:Int)) x=0 then .inl () else .inr (firstE (codeC (m:Int)) x)):=fun x hx =>
  LoopF_first x (linkage_Valid_l3 (List.replicate m blankV) x) (codeC (m:Int)) (fun k y hy hk=>by
   have c:((k:Int) < (x.length:Int)):=by omega
   have:=hr x hx
   simp only [linkage_Valid_l3,if_pos c,idx_get hy,Option.bind_some,Match_p,simR_code,simCode_blank,bne_iff_ne,wrap_nat (show k < 4611686018427387904 by omega)]) (by simp [linkage_Valid_l3])
 have hL:=LoopF_first l.Rules (linkage_Valid_l4 l (List.replicate m blankV)) (ruleC (m:Int)) (fun k x hx hk=>by
  have c:((k:Int) < (l.Rules.length:Int)):=by omega
  have w:=wrap_nat (show k < 4611686018427387904 by omega)
  unfold ruleC
  by_cases a1:(x.length:Int) < 1
  ·simp only [linkage_Valid_l4,if_pos c,idx_get hx,Option.bind_some,if_pos a1,if_pos (show x.length < 1∨x.length > 6 by omega)]
   simp
  by_cases a2:(x.length:Int) > 6
  ·simp only [linkage_Valid_l4,if_pos c,idx_get hx,Option.bind_some,if_neg a1,if_pos a2,if_pos (show x.length < 1∨x.length > 6 by omega)]
   simp
  simp only [linkage_Valid_l4,if_pos c,idx_get hx,Option.bind_some,if_neg a1,if_neg a2,if_neg (show ¬(x.length < 1∨x.length > 6) by omega),hin x (List.mem_of_getElem? hx),w]
  by_cases e:firstE (codeC (m:Int)) x=0 <;> simp [e]) (by simp [linkage_Valid_l4])
 have hb':slices_ContainsFunc_int l.Block (fun y=>linkage_Valid_1 y (m:Int))=some (l.Block.any fun x=>decide (x < 0∨x≥(m:Int))):=ContainsFuncI_lnk _ _ _ (fun x _=>by
  simp only [linkage_Valid_1]
  by_cases a:x < 0 <;> simp [a]) (by omega)
 have hs':slices_ContainsFunc_int l.Survive (fun y=>linkage_Valid_2 y)=some (l.Survive.any fun x=>decide (x < 1∨x > 5)):=ContainsFuncI_lnk _ _ _ (fun x _=>by
  simp only [linkage_Valid_2]
  by_cases a:x < 1 <;> simp [a]) (by omega)
 have hsrt:srtIF l.Block=some (srtI l.Block):=if_pos (by omega)
 have hlen:(srtI l.Block).length=l.Block.length:=(srtI_perm l.Block).length_eq
 have hcpt:cptF (srtI l.Block)=some (Lib.compact (srtI l.Block)):=if_pos (by omega)
 have hnd:(Lib.compact (srtI l.Block)).length=l.Block.length↔l.Block.Nodup:=by
  rw [←hlen,compact_len _ (srtI_sorted _)]
  exact (srtI_perm l.Block).nodup_iff
 have hL':LoopF (linkage_Valid_l4 l (List.replicate m ⟨0,0,[]⟩)) 0=some (if firstE (ruleC (m:Int)) l.Rules=0 then .inl () else .inr (firstE (ruleC (m:Int)) l.Rules)):=hL
 simp only [linkage_Valid,if_neg h1,if_neg h2,if_neg h3,if_pos h0,Int.toNat_natCast,hroom,if_true,Option.bind_some,hL']
 by_cases e:firstE (ruleC (m:Int)) l.Rules=0
 ·simp only [e,if_true,ne_eq,not_true_eq_false,if_false,hb',Option.bind_some,hroomB,hsrt,hcpt]
  unfold blockC
  rcases Bool.eq_false_or_eq_true (l.Block.any fun x=>decide (x < 0∨x≥(m:Int))) with q | q
  ·simp only [q,if_true]
   simp
  ·simp only [q,Bool.false_eq_true,if_false,bne_iff_ne]
   by_cases nd:l.Block.Nodup
   ·have:=hnd.2 nd
    rw [if_neg (show ¬(((Lib.compact (srtI l.Block)).length:Int)≠(l.Block.length:Int)) by omega),if_pos nd]
    simp only [not_true_eq_false,if_false,hs',Option.bind_some,ne_eq]
    by_cases s:(l.Survive.length:Int)=(m:Int)
    ·simp only [s,not_true_eq_false,if_false]
     rcases Bool.eq_false_or_eq_true (l.Survive.any fun x=>decide (x < 1∨x > 5)) with u | u <;> simp only [u] <;> simp
    ·simp [s]
   ·have:¬(Lib.compact (srtI l.Block)).length=l.Block.length:=fun h=>nd (hnd.1 h)
    rw [if_pos (show (((Lib.compact (srtI l.Block)).length:Int)≠(l.Block.length:Int)) by omega),if_neg nd]
    simp
 ·simp [e]
def lexN (x y:Nat):Prop:=ones32 x < ones32 y∨(ones32 x=ones32 y∧x < y)
instance (x y:Nat):Decidable (lexN x y):=by unfold lexN;exact inferInstance
end Go.Proofs.YtmlegeeinnkhkaaGreat
namespace Go.Ab
open Go
end Go.Ab
namespace Go.Proofs.YtmlegeeinnkhkaaGreat
open Go Go.Ab
theorem mget_mset {K V:Type} [DecidableEq K] (m:List (K×V)) (k x:K) (v:V):mget (mset m k v) x=if x=k then some v else mget m x:=by
 induction m with
 | nil=>simp [mset,mget]
 | cons p r ih =>
  obtain ⟨a,u⟩:=p
  simp only [mset]
  by_cases h:k=a
  ·subst h
   simp only [if_pos,mget]
   by_cases hx:x=k <;> simp [hx]
  ·simp only [if_neg h,mget,ih]
   by_cases hx:x=a
   ·subst hx
    have:¬x=k:=fun e=>h e.symm
    simp [this]
   ·simp [hx]
theorem mset_len {K V:Type} [DecidableEq K] (m:List (K×V)) (k:K) (v:V) (h:mget m k=none):(mset m k v).length=m.length+1:=by
 induction m with
 | nil=>rfl
 | cons p r ih =>
  obtain ⟨a,u⟩:=p
  simp only [mget] at h
  split at h
  ·cases h
  ·rename_i hn
   simp only [mset,if_neg hn,List.length_cons,ih h]
def Holds (m:List (Int×Bool)) (all:List Int):Prop:=∀x,mget m x=if x∈all then some true else none
def Fits (a:Row) (l:List Int):Prop:=∀i∈l,0≤i∧i < (a.Values.length:Int)
theorem fits_idx {a:Row} {l:List Int} (h:Fits a l) {i:Int} (hi:i∈l):idx a.Values i=some (cellV a i.toNat):=by
 obtain ⟨h1,h2⟩:=h i hi
 have hg:a.Values[i.toNat]?=some (cellV a i.toNat):=by
  have hlt:i.toNat < a.Values.length:=by omega
  simp [cellV,List.getD,List.getElem?_eq_getElem hlt]
 have:=idx_get hg
 rwa [Int.toNat_of_nonneg h1] at this
def ShortR (a:Row):Prop:=∀v∈a.Values,v.Str.length≤1073741824
def cmpL (a b:Row):List Int→Int
 | []=>0
 | i :: l=>if vcmp (cellV a i.toNat) (cellV b i.toNat)≠0 then vcmp (cellV a i.toNat) (cellV b i.toNat) else cmpL a b l
theorem drop_take {α:Type} (l:List α) (n:Nat):(l.drop n).take (l.length - n)=l.drop n:=by
 apply List.take_of_length_le;rw [List.length_drop];exact Nat.le_refl _
def hasB (s i:Int):Bool:=(IntKind.u32.wrap ((BitVec.ofInt 32 (Int.fdiv s (2 ^ (min i.toNat 32))) &&& (1#32)).toNat:Int)) == 1
def mx (a b:Int):Int:=if b > a then b else a
theorem allFrom_iff {α:Type} (p:Nat→α→Bool):∀(l:List α) (k:Nat),allFrom p k l=true↔∀(j:Nat) (x:α),l[j]?=some x→p (k+j) x=true
 | [],k=>by simp [allFrom]
 | y :: r,k=>by
  simp only [allFrom,Bool.and_eq_true,allFrom_iff p r (k+1)]
  constructor
  ·rintro ⟨h1,h2⟩ j x hx
   cases j with
   | zero=>simp at hx;subst hx;exact h1
   | succ j =>
    have:=h2 j x (by simpa using hx)
    rwa [Nat.add_assoc,Nat.add_comm 1] at this
  ·intro h
   refine ⟨h 0 y rfl,fun j x hx=>?_⟩
   have:=h (j+1) x (by simpa using hx)
   rwa [Nat.add_assoc,Nat.add_comm 1]
theorem allFrom_same {α:Type} [DecidableEq α] (a b:List α) (h:a.length=b.length):allFrom (fun k x=>decide (b[k]?=some x)) 0 a=decide (a=b):=by
 rw [Bool.eq_iff_iff,allFrom_iff,decide_eq_true_eq]
 simp only [Nat.zero_add,decide_eq_true_eq]
 constructor
 ·intro hh
  apply List.ext_getElem? 
  intro i
  by_cases hi:i < a.length
  ·rw [List.getElem?_eq_getElem hi]
   exact (hh i _ (List.getElem?_eq_getElem hi)).symm
  ·rw [List.getElem?_eq_none (by omega),List.getElem?_eq_none (by omega)]
 ·rintro rfl j x hx;exact hx
def ids (t:Table):List Int:=t.Rows.map (·.ID)
theorem nodup_sub_len:∀{l l':List Int},l.Nodup→(∀x∈l,x∈l')→l.length≤l'.length
 | [],l',_,_=>Nat.zero_le _
 | x :: r,l',hn,hs=>by
  rw [List.nodup_cons] at hn
  have hx:x∈l':=hs x (by simp)
  have h:=nodup_sub_len (l':=l'.erase x) hn.2 (fun y hy=>by
   have hne:y≠x:=fun e=>hn.1 (e ▸ hy)
   rw [List.mem_erase_of_ne hne]
   exact hs y (by simp [hy]))
  rw [List.length_erase_of_mem hx] at h
  have:0 < l'.length:=List.length_pos_of_mem hx
  simp;omega
theorem rowsCode_zero (n:Nat):∀(l:List Row) (a:Int),rowsCode n a l=0→(∀r∈l,a < r.ID∧r.Values.length=n)∧(l.map (·.ID)).Nodup
 | [],a,_=>⟨fun r hr=>by simp at hr,by simp⟩
 | r :: l,a,h=>by
  simp only [rowsCode] at h
  by_cases h1:r.ID≤a
  ·rw [if_pos h1] at h;cases h
  ·rw [if_neg h1] at h
   by_cases h2:r.Values.length=n
   ·rw [if_neg (by simp [h2])] at h
    by_cases h3:r.Values.all valid=true
    ·rw [if_pos h3] at h
     obtain ⟨h4,h5⟩:=rowsCode_zero n l r.ID h
     refine ⟨fun q hq=>?_,?_⟩
     ·rcases List.mem_cons.1 hq with e | e
      ·subst e;exact ⟨by omega,h2⟩
      ·have:=h4 q e;exact ⟨by omega,this.2⟩
     ·rw [List.map_cons,List.nodup_cons]
      refine ⟨fun hm=>?_,h5⟩
      obtain ⟨q,hq,he⟩:=List.mem_map.1 hm
      have:=(h4 q hq).1
      omega
    ·rw [if_neg h3] at h;cases h
   ·rw [if_pos h2] at h;cases h
theorem tableErr_zero {t:Table} (h:tableErr t=0):(∀r∈t.Rows,r.Values.length=t.Attrs.length)∧(ids t).Nodup:=by
 unfold tableErr at h
 split at h
 ·cases h
 ·split at h
  ·cases h
  ·split at h
   ·cases h
   ·split at h
    ·cases h
    ·obtain ⟨h1,h2⟩:=rowsCode_zero _ _ _ h
     exact ⟨fun r hr=>(h1 r hr).2,h2⟩
theorem tableErr_code {t:Table} (h:tableErr t=0):rowsCode t.Attrs.length 0 t.Rows=0:=by
 unfold tableErr at h
 split at h
 ·cases h
 ·split at h
  ·cases h
  ·split at h
   ·cases h
   ·split at h
    ·cases h
    ·exact h
noncomputable def sorted (cs:List (List Int)):List (List Int):=(LoopF drossref55_Table_l5 (cs,0)).getD []
theorem same_loop {α:Type} [DecidableEq α] (a b:List α) (h:a.length=b.length) {B:Int→Option (LS Int (Unit ⊕ Bool))}
  (hB:∀(k:Nat) x y,a[k]?=some x→b[k]?=some y→B (k:Int)=if decide (x=y)=true then some (.next ((k+1:Nat):Int)) else some (.done (.inr false)))
  (hE:B (a.length:Int)=some (.done (.inl ()))):LoopF B 0=some (if decide (a=b) then .inl () else .inr false):=by
 have hl:=LoopF_allk a B (fun k x=>decide (b[k]?=some x)) false
  (fun k x hx hk hp=>by
   simp only [decide_eq_true_eq] at hp
   rw [hB k x x hx hp];simp)
  (fun k x hx hp=>by
   have hk:=lt_of_get hx
   have hb:b[k]?=some (b[k]'(by omega)):=List.getElem?_eq_getElem (by omega)
   rw [hb] at hp
   simp only [Option.some.injEq,decide_eq_false_iff_not] at hp
   rw [hB k x _ hx hb,if_neg]
   simp only [decide_eq_true_eq];exact fun e=>hp e.symm) hE a 0 rfl (Nat.zero_le _)
 simp only [Int.natCast_zero,allFrom_same a b h] at hl
 exact hl
theorem Lists55_eq (a b:List (List Int)) (ha:a.length≤1073741824) (hl:∀c∈a,c.length≤1073741824):drossref55_Lists a b=some (decide (a=b)):=by
 simp only [drossref55_Lists]
 by_cases h:a.length=b.length
 ·have e:¬(((a.length:Int) != (b.length:Int))=true):=by simp [h]
  rw [if_neg e,same_loop a b h (fun k x y hx hy=>by
   have hk:=lt_of_get hx
   simp only [drossref55_Lists_l1,if_pos (lt_true hx),idx_get hx,idx_get hy,Option.bind_some,IDs_eq x y (hl x (List.mem_of_getElem? hx)),wrap_succ hk (show a.length≤4611686018427387904 by omega)]) (by simp [drossref55_Lists_l1])]
  by_cases hab:a=b <;> simp [hab]
 ·have e:(((a.length:Int) != (b.length:Int))=true):=by rw [bne_iff_ne];omega
  rw [if_pos e]
  have:a≠b:=fun hh=>h (by rw [hh])
  simp [this]
def hd (l:List (List Int)) (i:Nat):Int:=(l.getD i []).headD 0
theorem rowsCode_of (n:Nat):∀(l:List Row) (a:Int),(∀r∈l,a < r.ID∧r.Values.length=n∧r.Values.all valid=true)→l.Pairwise (fun r q=>r.ID < q.ID)→rowsCode n a l=0
 | [],_,_,_=>rfl
 | r :: l,a,h,hp=>by
  obtain ⟨h1,h2,h3⟩:=h r (by simp)
  rw [List.pairwise_cons] at hp
  simp only [rowsCode]
  rw [if_neg (by omega),if_neg (by simp [h2]),if_pos h3]
  exact rowsCode_of n l r.ID (fun q hq=>⟨hp.1 q hq,(h q (by simp [hq])).2⟩) hp.2
end Go.Proofs.YtmlegeeinnkhkaaGreat

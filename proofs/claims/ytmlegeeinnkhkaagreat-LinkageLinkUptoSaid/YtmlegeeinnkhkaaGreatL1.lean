/- -/
import Derived.Lib.Repeat
import Derived.Test.YtmlegeeinnkhkaaGreatA3
import Derived.Test.YtmlegeeinnkhkaaGreatA2
set_option linter.unusedVariables false
set_option linter.unusedSimpArgs false
open Bool renaming and_eq_false_iff→v3t,and_eq_true→vzm,eq_false_iff→v18,eq_false_or_eq_true→v3u,eq_iff_iff→v3v,false_eq_true→vzo,not_eq_false'→v3w,not_eq_true→v3x,not_eq_true'→vzq,or_eq_false_iff→v3y,true_and→v3z,true_eq_false→vzs
open Int renaming fdiv→v30,natCast_inj→v31,natCast_zero→v33,tmod→v34,toNat_natCast→v38
open Go.IntKind renaming i64→v4a,u64→v4b
open Go.Lib renaming compareBytes→v4c
open List renaming Perm→v4d,all_eq_not_any_not→v4e,cons_append→v2e,cons_lt_cons_iff→v4f,countP_cons→v4g,drop_drop→v4h,drop_zero→v4i,eq_nil_of_length_eq_zero→vz2,filter_cons→v4j,find?_append→v4k,findIdx?_cons→v4l,foldl_cons→v4m,getD_eq_getElem?_getD→v2h,getElem?_append_right→vz7,getElem?_cons_zero→v2j,getElem?_drop→vz8,getElem?_eq_getElem→vz9,getElem?_eq_some_iff→v0b,getElem?_range→v4n,length→v4o,length_cons→v2p,map_append→v0o,map_cons→v0p,mem_cons→v2z,mem_cons_of_mem→v21,mem_cons_self→v24,mem_filter→v28,mem_map→v3a,mem_of_getElem?→v0t,mem_range→v3c,mem_singleton→v3d,pairwise_cons→v4p,pairwise_iff_forall_sublist→v4q,pairwise_lt_range→v4r,pairwise_reverse→v4s,range→v0z,range_succ→v4t,replicate→v01,reverse_perm→v4u
open Nat renaming le_refl→v1f,zero_le→v3n
open Option renaming bind_some→v1r
open Option.some renaming injEq→v1x
noncomputable section
namespace Go.Proofs.YtmlegeeinnkhkaaGreat
open Go Go.Ab
structure Value where
 Kind:Int
 Num:Int
 Str:List UInt8
 deriving DecidableEq
structure Similar where
 Attr:Int
 Measure:Int
 Limit:Int
 deriving DecidableEq
structure Ratio where
 Num:Int
 Den:Int
 deriving DecidableEq
structure Row where
 ID:Int
 Values:List Value
 deriving DecidableEq
structure Linkage where
 Rules:List (List Similar)
 Block:List Int
 Survive:List Int
 deriving DecidableEq
structure Table where
 Name:List UInt8
 Attrs:List (List UInt8)
 Rows:List Row
 deriving DecidableEq
structure Arr2_int where
 x0:Int
 x1:Int
 deriving DecidableEq
structure Arr2_int64 where
 x0:Int
 x1:Int
 deriving DecidableEq
structure Pair where
 I:Int
 K:Int
 Weight:Int
 deriving DecidableEq
structure Cluster_search where
 w:List (List Int)
 labels:List Int
 best:List Int
 least:Int
 deriving DecidableEq
structure Drossref04_Wide where
 Hi:Int
 Lo:Int
 deriving DecidableEq
structure Drossref56_Test where
 Attr:Int
 Measure:Int
 Limit:Int
 deriving DecidableEq
structure Drossref56_Draft where
 Rules:List (List Drossref56_Test)
 Block:Int
 Survive:List Int
 deriving DecidableEq
structure Drossref03_Recipe where
 Attrs:Int
 Gap:Int
 Rows:List (List Int)
 deriving DecidableEq
structure Merged where
 Table:Table
 Clusters:List (List Int)
 Origins:List (List Int)
 deriving DecidableEq
structure Drossref55_Result where
 Value:Value
 Origin:Int
 deriving DecidableEq
structure Drossref55_Row where
 Row:Row
 Origins:List Int
 deriving DecidableEq
def qkj (v_1:Value):Option (Bool) :=
 if (v_1.Kind == 0)=true then
 if (v_1.Num == 0)=true then
 some (v_1.Str == [])
 else
 some false
 else
 if (v_1.Kind == 1)=true then
 some (v_1.Str == [])
 else
 if (v_1.Kind == 2)=true then
 if (v_1.Num == 0)=true then
 some (decide ((v_1.Str.length:Int)≤200))
 else
 some false
 else
 if (v_1.Kind == 3)=true then
 if v_1.Num≥1 then
 some (v_1.Str == [])
 else
 some false
 else
 some false
def qjr (c_10:Similar):Option (Bool) :=
 if (c_10.Measure == 1)=true then
 some (c_10.Limit == 0)
 else
 if (c_10.Measure == 2)=true then
 if c_10.Limit≥0 then
 some (decide (c_10.Limit≤200))
 else
 some false
 else
 if (c_10.Measure == 4)=true then
 if c_10.Limit≥0 then
 some (decide (c_10.Limit≤200))
 else
 some false
 else
 if (c_10.Measure == 3)=true then
 if c_10.Limit≥0 then
 some (decide (c_10.Limit≤100))
 else
 some false
 else
 some false
def qay (s_19:List (List UInt8)) (f_20:(List UInt8)→Option (Bool)):Int→Option (LS (Int) ((Unit) ⊕ (Int))):=fun t8_30 =>
 if t8_30 < (s_19.length:Int) then
 (idx s_19 t8_30).bind fun (x_40:List UInt8) =>
 (f_20 x_40).bind fun (r_42:Bool) =>
 if r_42=true then
 some (.done (.inr t8_30))
 else
 some (.next (v4a.wrap (t8_30+1)))
 else
 some (.done (.inl ()))
def qcf (s_19:List (List UInt8)) (f_20:(List UInt8)→Option (Bool)):Option (Int) :=
 (qae (qay s_19 f_20) 0).bind (fun o=>match o with
 | .inl () =>
 some (-1)
 | .inr r_47 =>
 some r_47)
def qco (s_51:List (List UInt8)) (f_52:(List UInt8)→Option (Bool)):Option (Bool) :=
 (qcf s_51 f_52).bind fun (r_55:Int) =>
 some (decide (r_55≥0))
def qde (s_58:List UInt8):Option (Bool) :=
 some (decide ((s_58.length:Int) > 200))
def qdn (l_60:List (List UInt8)):Option (Bool) :=
 (qco l_60 (fun (y_61:List UInt8)=>qde y_61)).bind fun (r_62:Bool) =>
 some r_62
def qcg (a1:List UInt8) (b2:List UInt8):(List (List Int)×Int)→Option (LS (List (List Int)×Int) (List (List Int))):=fun (d3,t4) =>
 if t4 < ((((v01 (v4a.wrap ((a1.length:Int)+1)).toNat ([]:List Int))).length:Nat):Int) then
 if 0≤(v4a.wrap ((b2.length:Int)+1)) then
 if qal (v4a.wrap ((b2.length:Int)+1)).toNat 8=true then
 (idx d3 t4).bind fun (x5:List Int) =>
 some (.next ((d3.set t4.toNat (v01 (v4a.wrap ((b2.length:Int)+1)).toNat 0)),(v4a.wrap (t4+1))))
 else none
 else none
 else
 some (.done d3)
def qbh (a1:List UInt8) (b2:List UInt8) (i3:Int):(List (List Int)×Int)→Option (LS (List (List Int)×Int) (List (List Int))):=fun (d4,j5) =>
 if j5≥0 then
 if (i3 == (a1.length:Int))=true then
 (idx d4 i3).bind fun (x6:List Int) =>
 (idx x6 j5).bind fun (x7:Int) =>
 some (.next ((d4.set i3.toNat (x6.set j5.toNat (v4a.wrap ((b2.length:Int) - j5)))),(v4a.wrap (j5 - 1))))
 else
 if (j5 == (b2.length:Int))=true then
 (idx d4 i3).bind fun (x8:List Int) =>
 (idx x8 j5).bind fun (x9:Int) =>
 some (.next ((d4.set i3.toNat (x8.set j5.toNat (v4a.wrap ((a1.length:Int) - i3)))),(v4a.wrap (j5 - 1))))
 else
 (idx a1 i3).bind fun (c10:UInt8) =>
 (idx b2 j5).bind fun (c11:UInt8) =>
 if (((c10.toNat:Nat):Int) == ((c11.toNat:Nat):Int))=true then
 (idx d4 i3).bind fun (x12:List Int) =>
 (idx d4 (v4a.wrap (i3+1))).bind fun (x13:List Int) =>
 (idx x13 (v4a.wrap (j5+1))).bind fun (x14:Int) =>
 (idx x12 j5).bind fun (x15:Int) =>
 some (.next ((d4.set i3.toNat (x12.set j5.toNat x14)),(v4a.wrap (j5 - 1))))
 else
 (idx d4 i3).bind fun (x16:List Int) =>
 (idx d4 (v4a.wrap (i3+1))).bind fun (x17:List Int) =>
 (idx x17 (v4a.wrap (j5+1))).bind fun (x18:Int) =>
 (idx x17 j5).bind fun (x19:Int) =>
 (idx x16 (v4a.wrap (j5+1))).bind fun (x20:Int) =>
 (idx x16 j5).bind fun (x21:Int) =>
 some (.next ((d4.set i3.toNat (x16.set j5.toNat (v4a.wrap (1+(if x20 < (if x19 < x18 then x19 else x18) then x20 else (if x19 < x18 then x19 else x18)))))),(v4a.wrap (j5 - 1))))
 else
 some (.done d4)
def qdo (a1:List UInt8) (b2:List UInt8):(List (List Int)×Int)→Option (LS (List (List Int)×Int) (List (List Int))):=fun (d3,i4) =>
 if i4≥0 then
 (qae (qbh a1 b2 i4) (d3,(b2.length:Int))).bind (fun d5 =>
 some (.next (d5,(v4a.wrap (i4 - 1)))))
 else
 some (.done d3)
def qfv (a1:List UInt8) (b2:List UInt8):Option (List (List Int)) :=
 if 0≤(v4a.wrap ((a1.length:Int)+1)) then
 if qal (v4a.wrap ((a1.length:Int)+1)).toNat 24=true then
 (qae (qcg a1 b2) ((v01 (v4a.wrap ((a1.length:Int)+1)).toNat ([]:List Int)),0)).bind (fun d3 =>
 (qae (qdo a1 b2) (d3,(a1.length:Int))).bind (fun d4 =>
 some d4))
 else none
 else none
def qgn (a1:List UInt8) (b2:List UInt8):Option (Int×Int) :=
 (qdn [a1,b2]).bind fun (r3:Bool) =>
 if r3=true then
 some (0,3)
 else
 (qfv a1 b2).bind fun (r4:List (List Int)) =>
 (r4[0]?).bind fun (x5:List Int) =>
 (x5[0]?).bind fun (x6:Int) =>
 some (x6,0)
def qk3 (a1:List UInt8) (b2:List UInt8) (m3:Int):Option (Bool×Int) :=
 (qgn a1 b2).bind fun (r4:Int×Int) =>
 if (r4.2 == 0)=true then
 some ((decide (r4.1≤m3)),r4.2)
 else
 some (false,r4.2)
def qra (n1:Int):Option (Int) :=
 if n1 < 0 then
 some (v4b.wrap (0 - (v4b.wrap n1)))
 else
 some (v4b.wrap n1)
def qnl:(Int×Int)→Option (LS (Int×Int) (Int)):=fun (a1,b2) =>
 if b2 > 0 then
 if b2=0 then none else
 some (.next (b2,(v34 a1 b2)))
 else
 some (.done a1)
def qtn (a1:Int) (b2:Int):Option (Int) :=
 (qae qnl (a1,b2)).bind (fun a3 =>
 some a3)
def q0j (n1:Bool) (n2:Int) (d3:Int):Option (Ratio×Int) :=
 if n2 > 9223372036854775807 then
 some ((Ratio.mk 0 0),7)
 else
 if d3 > 9223372036854775807 then
 some ((Ratio.mk 0 0),7)
 else
 if n1=true then
 some ((Ratio.mk (v4a.wrap (0 - (v4a.wrap n2))) (v4a.wrap d3)),0)
 else
 some ((Ratio.mk (v4a.wrap n2) (v4a.wrap d3)),0)
def qmc (n1:Int) (d2:Int):Option (Ratio×Int) :=
 if (d2 == 0)=true then
 some ((Ratio.mk 0 0),8)
 else
 (qra n1).bind fun (r3:Int) =>
 (qra d2).bind fun (r4:Int) =>
 (qtn r3 r4).bind fun (r5:Int) =>
 if r5=0 then none else
 (q0j (!((decide (n1 < 0)) == (decide (d2 < 0)))) (v4b.wrap (Int.tdiv r3 r5)) (v4b.wrap (Int.tdiv r4 r5))).bind fun (r6:Ratio×Int) =>
 some (r6.1,r6.2)
def strings_Repeat (x:List UInt8) (n:Int):Option (List UInt8):=repF x n
def qgo (s1:List UInt8) (q2:Int) (w3:List UInt8):(List (List UInt8)×Int)→Option (LS (List (List UInt8)×Int) (List (List UInt8))):=fun (o4,t5) =>
 if t5 < (v4a.wrap ((v4a.wrap ((s1.length:Int)+q2)) - 1)) then
 if 0≤t5 then
 if t5≤(v4a.wrap (t5+q2)) then
 if (v4a.wrap (t5+q2))≤(w3.length:Int) then
 if qal (o4.length+1) 16=true then
 some (.next ((o4++[((w3.drop t5.toNat).take ((v4a.wrap (t5+q2)).toNat - t5.toNat))]),(v4a.wrap (t5+1))))
 else none
 else none
 else none
 else none
 else
 some (.done o4)
def qd3 (s1:List UInt8) (q2:Int):Option (List (List UInt8)×Int) :=
 (qdn [s1]).bind fun (r3:Bool) =>
 if r3=true then
 some ([],3)
 else
 if q2 < 1 then
 some ([],7)
 else
 if q2 > 4 then
 some ([],7)
 else
 (strings_Repeat [1] (v4a.wrap (q2 - 1))).bind fun (r4:List UInt8) =>
 if r4.length+s1.length≤9223372036854775807 then
 (some (r4++s1)).bind fun (w5:List UInt8) =>
 if w5.length+r4.length≤9223372036854775807 then
 (some (w5++r4)).bind fun (w6:List UInt8) =>
 (qae (qgo s1 q2 w6) ([],0)).bind (fun o7 =>
 (vcb o7).bind fun (l8:List (List UInt8)) =>
 some (l8,0))
 else none
 else none
def qhu (a1:List UInt8) (b2:List UInt8):Option (Int) :=
 some (v4c a1 b2)
def qim (a1:List UInt8) (b2:List UInt8):Option (Int) :=
 (qhu a1 b2).bind fun (r3:Int) =>
 some r3
def qcq:(List (List UInt8)×List (List UInt8)×Int)→Option (LS (List (List UInt8)×List (List UInt8)×Int) (Int)):=fun (a1,b2,n3) =>
 if (a1.length:Int) > 0 then
 if (b2.length:Int) > 0 then
 (a1[0]?).bind fun (x4:List UInt8) =>
 (b2[0]?).bind fun (x5:List UInt8) =>
 (qim x4 x5).bind fun (r6:Int) =>
 if r6 < 0 then
 if (1:Int)≤(a1.length:Int) then
 some (.next (((a1.drop 1).take (a1.length - 1)),b2,n3))
 else none
 else
 if r6 > 0 then
 if (1:Int)≤(b2.length:Int) then
 some (.next (a1,((b2.drop 1).take (b2.length - 1)),n3))
 else none
 else
 if (1:Int)≤(a1.length:Int) then
 if (1:Int)≤(b2.length:Int) then
 some (.next (((a1.drop 1).take (a1.length - 1)),((b2.drop 1).take (b2.length - 1)),(v4a.wrap (n3+1))))
 else none
 else none
 else
 some (.done n3)
 else
 some (.done n3)
def qin (a1:List (List UInt8)) (b2:List (List UInt8)):Option (Int) :=
 (qae qcq (a1,b2,0)).bind (fun n3 =>
 some n3)
def qio (a1:List UInt8) (b2:List UInt8) (q3:Int):Option (Ratio×Int) :=
 (qdn [a1,b2]).bind fun (r4:Bool) =>
 if r4=true then
 some ((Ratio.mk 0 0),3)
 else
 (qd3 a1 q3).bind fun (r5:List (List UInt8)×Int) =>
 (qd3 b2 q3).bind fun (r6:List (List UInt8)×Int) =>
 if (r5.2 != 0)=true then
 some ((Ratio.mk 0 0),r5.2)
 else
 if ((v4a.wrap ((r5.1.length:Int)+(r6.1.length:Int))) == 0)=true then
 some ((Ratio.mk 1 1),0)
 else
 (qin r5.1 r6.1).bind fun (r7:Int) =>
 (qmc (v4a.wrap (2 * r7)) (v4a.wrap ((r5.1.length:Int)+(r6.1.length:Int)))).bind fun (r8:Ratio×Int) =>
 some (r8.1,r8.2)
def qcd (x1:Row) (y2:Row) (c3:Similar):Option (Bool×Int) :=
 if c3.Attr < 0 then
 some (false,6)
 else
 if c3.Attr≥(x1.Values.length:Int) then
 some (false,6)
 else
 if c3.Attr≥(y2.Values.length:Int) then
 some (false,6)
 else
 (idx x1.Values c3.Attr).bind fun (x4:Value) =>
 (idx y2.Values c3.Attr).bind fun (x5:Value) =>
 (qkj x4).bind fun (r6:Bool) =>
 if r6=true then
 (qkj x5).bind fun (r7:Bool) =>
 if r7=true then
 (qjr c3).bind fun (r8:Bool) =>
 if r8=true then
 (show Option (Bool) from
 if (x4.Kind != 2)=true then
 some true
 else
 some (x5.Kind != 2)).bind (fun t9 =>
 if t9=true then
 some (((x4.Kind == x5.Kind) && ((x4.Num == x5.Num) && (x4.Str == x5.Str))),0)
 else
 if (c3.Measure == 2)=true then
 (qk3 x4.Str x5.Str c3.Limit).bind fun (r10:Bool×Int) =>
 some (r10.1,r10.2)
 else
 if (c3.Measure == 3)=true then
 (qio x4.Str x5.Str 2).bind fun (r11:Ratio×Int) =>
 if (r11.2 == 0)=true then
 some ((decide ((v4a.wrap (100 * r11.1.Num))≥(v4a.wrap (c3.Limit * r11.1.Den)))),r11.2)
 else
 some (false,r11.2)
 else
 if (c3.Measure == 4)=true then
 if (0:Int)≤(if (x4.Str.length:Int) < c3.Limit then (x4.Str.length:Int) else c3.Limit) then
 if (if (x4.Str.length:Int) < c3.Limit then (x4.Str.length:Int) else c3.Limit)≤(x4.Str.length:Int) then
 if (0:Int)≤(if (x5.Str.length:Int) < c3.Limit then (x5.Str.length:Int) else c3.Limit) then
 if (if (x5.Str.length:Int) < c3.Limit then (x5.Str.length:Int) else c3.Limit)≤(x5.Str.length:Int) then
 some (((x4.Str.take ((if (x4.Str.length:Int) < c3.Limit then (x4.Str.length:Int) else c3.Limit).toNat)) == (x5.Str.take ((if (x5.Str.length:Int) < c3.Limit then (x5.Str.length:Int) else c3.Limit).toNat))),0)
 else none
 else none
 else none
 else none
 else
 some ((x4.Str == x5.Str),0))
 else
 some (false,1)
 else
 some (false,1)
 else
 some (false,1)
def qa6 (s1:List Int) (f2:Int→Option (Bool)):Int→Option (LS (Int) ((Unit) ⊕ (Int))):=fun t3 =>
 if t3 < (s1.length:Int) then
 (idx s1 t3).bind fun (x4:Int) =>
 (f2 x4).bind fun (r5:Bool) =>
 if r5=true then
 some (.done (.inr t3))
 else
 some (.next (v4a.wrap (t3+1)))
 else
 some (.done (.inl ()))
def qcr (s1:List Int) (f2:Int→Option (Bool)):Option (Int) :=
 (qae (qa6 s1 f2) 0).bind (fun o=>match o with
 | .inl () =>
 some (-1)
 | .inr r3 =>
 some r3)
def qar (s1:List Int) (f2:Int→Option (Bool)):Option (Bool) :=
 (qcr s1 f2).bind fun (r3:Int) =>
 some (decide (r3≥0))
def qip (a1:Int) (c2:Int):Option (Bool) :=
 if a1 < 0 then
 some true
 else
 some (decide (a1≥c2))
def qmk (x1:Int):Option (Bool) :=
 some (x1 != x1)
def qiq (s1:Int):Option (Bool) :=
 if s1 < 1 then
 some true
 else
 some (decide (s1 > 5))
def qhd (l1:List Value) (x2:List Similar):Int→Option (LS (Int) ((Unit) ⊕ (Int))):=fun t3 =>
 if t3 < (x2.length:Int) then
 (idx x2 t3).bind fun (x4:Similar) =>
 (qcd (Row.mk 0 l1) (Row.mk 0 l1) x4).bind fun (r5:Bool×Int) =>
 if (r5.2 != 0)=true then
 some (.done (.inr r5.2))
 else
 some (.next (v4a.wrap (t3+1)))
 else
 some (.done (.inl ()))
def qd4 (l1:Linkage) (l2:List Value):Int→Option (LS (Int) ((Unit) ⊕ (Int))):=fun t3 =>
 if t3 < (l1.Rules.length:Int) then
 (idx l1.Rules t3).bind fun (x4:List Similar) =>
 if (x4.length:Int) < 1 then
 some (.done (.inr 1))
 else
 if (x4.length:Int) > 6 then
 some (.done (.inr 1))
 else
 (qae (qhd l2 x4) 0).bind (fun o=>match o with
 | .inl () =>
 some (.next (v4a.wrap (t3+1)))
 | .inr r5 =>
 some (.done (.inr r5)))
 else
 some (.done (.inl ()))
def qhv (n1:Int) (l2:Linkage):Option (Int) :=
 if n1 < 0 then
 some 7
 else
 if n1 > 16 then
 some 7
 else
 if (l2.Rules.length:Int) > 8 then
 some 3
 else
 if 0≤n1 then
 if qal (n1).toNat 32=true then
 (some ((v01 (n1).toNat (Value.mk 0 0 [])):List Value)).bind fun (l3:List Value) =>
 (qae (qd4 l2 l3) 0).bind (fun o=>match o with
 | .inl () =>
 (qar l2.Block (fun (y4:Int)=>qip y4 n1)).bind fun (r5:Bool) =>
 if r5=true then
 some 6
 else
 if qal l2.Block.length 8=true then
 (q1i l2.Block).bind fun (l6:List Int) =>
 (vma l6).bind fun (l7:List Int) =>
 if (((l7.length:Nat):Int) != (l2.Block.length:Int))=true then
 some 1
 else
 if ((l2.Survive.length:Int) != n1)=true then
 some 6
 else
 (qar l2.Survive (fun (y8:Int)=>qiq y8)).bind fun (r9:Bool) =>
 if r9=true then
 some 1
 else
 some 0
 else none
 | .inr r10 =>
 some r10)
 else none
 else none
def qir (s1:List UInt8):Int→Option (LS (Int) ((Unit) ⊕ (Bool))):=fun t2 =>
 if t2 < (s1.length:Int) then
 (idx s1 t2).bind fun (c3:UInt8) =>
 (show Option (Bool) from
 if ((c3.toNat:Nat):Int)≥97 then
 if ((c3.toNat:Nat):Int)≤122 then
 some true
 else
 if ((c3.toNat:Nat):Int)≥65 then
 if ((c3.toNat:Nat):Int)≤90 then
 some true
 else
 some (((c3.toNat:Nat):Int) == 95)
 else
 some (((c3.toNat:Nat):Int) == 95)
 else
 if ((c3.toNat:Nat):Int)≥65 then
 if ((c3.toNat:Nat):Int)≤90 then
 some true
 else
 some (((c3.toNat:Nat):Int) == 95)
 else
 some (((c3.toNat:Nat):Int) == 95)).bind (fun l4 =>
 if l4=true then
 some (.next (v4a.wrap (t2+1)))
 else
 if (t2 == 0)=true then
 some (.done (.inr false))
 else
 if ((c3.toNat:Nat):Int) < 48 then
 some (.done (.inr false))
 else
 if ((c3.toNat:Nat):Int) > 57 then
 some (.done (.inr false))
 else
 some (.next (v4a.wrap (t2+1))))
 else
 some (.done (.inl ()))
def qmd (s1:List UInt8):Option (Bool) :=
 if (s1 == [])=true then
 some false
 else
 if (s1.length:Int) > 24 then
 some false
 else
 if (s1 == [110,117,108,108])=true then
 some false
 else
 (qae (qir s1) 0).bind (fun o=>match o with
 | .inl () =>
 some true
 | .inr r2 =>
 some r2)
def qc1 (s1:List (List UInt8)) (v2:List UInt8):Int→Option (LS (Int) ((Unit) ⊕ (Int))):=fun t3 =>
 if t3 < (s1.length:Int) then
 (idx s1 t3).bind fun (x4:List UInt8) =>
 if (v2 == x4)=true then
 some (.done (.inr t3))
 else
 some (.next (v4a.wrap (t3+1)))
 else
 some (.done (.inl ()))
def qgp (s1:List (List UInt8)) (v2:List UInt8):Option (Int) :=
 (qae (qc1 s1 v2) 0).bind (fun o=>match o with
 | .inl () =>
 some (-1)
 | .inr r3 =>
 some r3)
def qeb (s1:List (List UInt8)) (v2:List UInt8):Option (Bool) :=
 (qgp s1 v2).bind fun (r3:Int) =>
 some (decide (r3≥0))
def qbz (s1:List Value) (f2:Value→Option (Bool)):Int→Option (LS (Int) ((Unit) ⊕ (Int))):=fun t3 =>
 if t3 < (s1.length:Int) then
 (idx s1 t3).bind fun (x4:Value) =>
 (f2 x4).bind fun (r5:Bool) =>
 if r5=true then
 some (.done (.inr t3))
 else
 some (.next (v4a.wrap (t3+1)))
 else
 some (.done (.inl ()))
def qec (s1:List Value) (f2:Value→Option (Bool)):Option (Int) :=
 (qae (qbz s1 f2) 0).bind (fun o=>match o with
 | .inl () =>
 some (-1)
 | .inr r3 =>
 some r3)
def qbk (s1:List Value) (f2:Value→Option (Bool)):Option (Bool) :=
 (qec s1 f2).bind fun (r3:Int) =>
 some (decide (r3≥0))
def qeh (v1:Value):Option (Bool) :=
 (qkj v1).bind fun (r2:Bool) =>
 some (!r2)
def qis (l1:List Value):Option (Bool) :=
 (qbk l1 (fun (y2:Value)=>qeh y2)).bind fun (r3:Bool) =>
 some (!r3)
def qj5 (t1:Table):Int→Option (LS (Int) ((Unit) ⊕ (Int))):=fun t2 =>
 if t2 < (t1.Attrs.length:Int) then
 (idx t1.Attrs t2).bind fun (x3:List UInt8) =>
 (qmd x3).bind fun (r4:Bool) =>
 if r4=true then
 if (0:Int)≤t2 then
 if t2≤(t1.Attrs.length:Int) then
 (qeb (t1.Attrs.take (t2.toNat)) x3).bind fun (r5:Bool) =>
 if r5=true then
 some (.done (.inr 1))
 else
 some (.next (v4a.wrap (t2+1)))
 else none
 else none
 else
 some (.done (.inr 1))
 else
 some (.done (.inl ()))
def qlj (t1:Table):(Int×Int)→Option (LS (Int×Int) ((Unit) ⊕ (Int))):=fun (l2,t3) =>
 if t3 < (t1.Rows.length:Int) then
 (idx t1.Rows t3).bind fun (x4:Row) =>
 if x4.ID≤l2 then
 some (.done (.inr 1))
 else
 if ((x4.Values.length:Int) != (t1.Attrs.length:Int))=true then
 some (.done (.inr 6))
 else
 (qis x4.Values).bind fun (r5:Bool) =>
 if r5=true then
 some (.next (x4.ID,(v4a.wrap (t3+1))))
 else
 some (.done (.inr 1))
 else
 some (.done (.inl ()))
def qm8 (t1:Table):Option (Int) :=
 (qmd t1.Name).bind fun (r2:Bool) =>
 if r2=true then
 if (t1.Attrs.length:Int) > 16 then
 some 3
 else
 if (t1.Rows.length:Int) > 1000 then
 some 3
 else
 (qae (qj5 t1) 0).bind (fun o=>match o with
 | .inl () =>
 (qae (qlj t1) (0,0)).bind (fun o=>match o with
 | .inl () =>
 some 0
 | .inr r3 =>
 some r3)
 | .inr r4 =>
 some r4)
 else
 some 1
def qj6 (t1:Table) (l2:Linkage):Option (Int) :=
 (qm8 t1).bind fun (r3:Int) =>
 if (r3 != 0)=true then
 some r3
 else
 (qhv (t1.Attrs.length:Int) l2).bind fun (r4:Int) =>
 if (r4 != 0)=true then
 some r4
 else
 if (t1.Rows.length:Int) > 200 then
 some 3
 else
 some 0
def qbn (s1:List (List Similar)) (f2:(List Similar)→Option (Bool)):Int→Option (LS (Int) ((Unit) ⊕ (Int))):=fun t3 =>
 if t3 < (s1.length:Int) then
 (idx s1 t3).bind fun (x4:List Similar) =>
 (f2 x4).bind fun (r5:Bool) =>
 if r5=true then
 some (.done (.inr t3))
 else
 some (.next (v4a.wrap (t3+1)))
 else
 some (.done (.inl ()))
def qdf (s1:List (List Similar)) (f2:(List Similar)→Option (Bool)):Option (Int) :=
 (qae (qbn s1 f2) 0).bind (fun o=>match o with
 | .inl () =>
 some (-1)
 | .inr r3 =>
 some r3)
def qbg (s1:List Similar) (f2:Similar→Option (Bool)):Int→Option (LS (Int) ((Unit) ⊕ (Int))):=fun t3 =>
 if t3 < (s1.length:Int) then
 (idx s1 t3).bind fun (x4:Similar) =>
 (f2 x4).bind fun (r5:Bool) =>
 if r5=true then
 some (.done (.inr t3))
 else
 some (.next (v4a.wrap (t3+1)))
 else
 some (.done (.inl ()))
def qcp (s1:List Similar) (f2:Similar→Option (Bool)):Option (Int) :=
 (qae (qbg s1 f2) 0).bind (fun o=>match o with
 | .inl () =>
 some (-1)
 | .inr r3 =>
 some r3)
def qbo (s1:List Similar) (f2:Similar→Option (Bool)):Option (Bool) :=
 (qcp s1 f2).bind fun (r3:Int) =>
 some (decide (r3≥0))
def qf7 (c1:Similar) (c2:Row) (c3:Row):Option (Bool) :=
 (qcd c2 c3 c1).bind fun (r4:Bool×Int) =>
 some (!r4.1)
def qgq (r1:List Similar) (c2:Row) (c3:Row):Option (Bool) :=
 (qbo r1 (fun (y4:Similar)=>qf7 y4 c2 c3)).bind fun (r5:Bool) =>
 some (!r5)
def qml (l1:Linkage) (a2:Row) (b3:Row):Option (Int) :=
 (qdf l1.Rules (fun (y4:List Similar)=>qgq y4 a2 b3)).bind fun (r5:Int) =>
 some r5
def qhw (k1:Int) (c2:Row) (c3:Row):Option (Bool) :=
 (idx c2.Values k1).bind fun (x4:Value) =>
 (idx c3.Values k1).bind fun (x5:Value) =>
 some ((x4.Kind == x5.Kind) && ((x4.Num == x5.Num) && (x4.Str == x5.Str)))
def qhe (l1:Linkage) (a2:Row) (b3:Row):Option (Bool) :=
 if ((l1.Block.length:Int) == 0)=true then
 some true
 else
 (qar l1.Block (fun (y4:Int)=>qhw y4 a2 b3)).bind fun (r5:Bool) =>
 some r5
def qdp (t1:Table) (l2:Linkage) (t3:Int) (x4:Row):(List Arr2_int×Int)→Option (LS (List Arr2_int×Int) (List Arr2_int)):=fun (o5,k6) =>
 if k6 < (t1.Rows.length:Int) then
 (idx t1.Rows k6).bind fun (x7:Row) =>
 (show Option (Bool) from
 (qhe l2 x4 x7).bind fun (r8:Bool) =>
 if r8=true then
 (qml l2 x4 x7).bind fun (r9:Int) =>
 some (decide (r9≥0))
 else
 some false).bind (fun t10 =>
 if t10=true then
 if qal (o5.length+1) 16=true then
 some (.next ((o5++[(Arr2_int.mk t3 k6)]),(v4a.wrap (k6+1))))
 else none
 else
 some (.next (o5,(v4a.wrap (k6+1)))))
 else
 some (.done o5)
def qhx (t1:Table) (l2:Linkage):(List Arr2_int×Int)→Option (LS (List Arr2_int×Int) (List Arr2_int)):=fun (o3,t4) =>
 if t4 < (t1.Rows.length:Int) then
 (idx t1.Rows t4).bind fun (x5:Row) =>
 (qae (qdp t1 l2 t4 x5) (o3,(v4a.wrap (t4+1)))).bind (fun o6 =>
 some (.next (o6,(v4a.wrap (t4+1)))))
 else
 some (.done o3)
def qgr (t1:Table) (l2:Linkage):Option (List Arr2_int) :=
 (qae (qhx t1 l2) ([],0)).bind (fun o3 =>
 some o3)
def qhy (t1:Table) (r2:List Arr2_int):(List Arr2_int64×Int)→Option (LS (List Arr2_int64×Int) (List Arr2_int64)):=fun (o3,t4) =>
 if t4 < (r2.length:Int) then
 (idx r2 t4).bind fun (x5:Arr2_int) =>
 (idx t1.Rows x5.x0).bind fun (x6:Row) =>
 (idx t1.Rows x5.x1).bind fun (x7:Row) =>
 if qal (o3.length+1) 16=true then
 some (.next ((o3++[(Arr2_int64.mk x6.ID x7.ID)]),(v4a.wrap (t4+1))))
 else none
 else
 some (.done o3)
def qkk (t1:Table) (l2:Linkage):Option (List Arr2_int64×Int) :=
 (qj6 t1 l2).bind fun (r3:Int) =>
 if (r3 != 0)=true then
 some ([],r3)
 else
 (qgr t1 l2).bind fun (r4:List Arr2_int) =>
 (qae (qhy t1 r4) ([],0)).bind (fun o5 =>
 some (o5,0))
def qf1 (a1:List Arr2_int64) (b2:List Arr2_int64):Int→Option (LS (Int) ((Unit) ⊕ (Bool))):=fun i3 =>
 if i3 < (a1.length:Int) then
 (idx a1 i3).bind fun (x4:Arr2_int64) =>
 (idx b2 i3).bind fun (x5:Arr2_int64) =>
 if ((x4.x0 == x5.x0) && (x4.x1 == x5.x1))=true then
 some (.next (v4a.wrap (i3+1)))
 else
 some (.done (.inr false))
 else
 some (.done (.inl ()))
def qdw (a1:List Arr2_int64) (b2:List Arr2_int64):Option (Bool) :=
 if ((a1.length:Int) != (b2.length:Int))=true then
 some false
 else
 (qae (qf1 a1 b2) 0).bind (fun o=>match o with
 | .inl () =>
 some true
 | .inr r3 =>
 some r3)
def qlk (n1:Int) (e2:List Arr2_int):Int→Option (LS (Int) ((Unit) ⊕ (Int))):=fun t3 =>
 if t3 < (e2.length:Int) then
 (idx e2 t3).bind fun (x4:Arr2_int) =>
 if (if x4.x1 < x4.x0 then x4.x1 else x4.x0) < 0 then
 some (.done (.inr 1))
 else
 if (if x4.x1 > x4.x0 then x4.x1 else x4.x0)≥n1 then
 some (.done (.inr 1))
 else
 some (.next (v4a.wrap (t3+1)))
 else
 some (.done (.inl ()))
def qo3 (n1:Int) (e2:List Arr2_int):Option (Int) :=
 (show Option (Bool) from
 if n1 > 1000 then
 some true
 else
 some (decide ((e2.length:Int) > 20000))).bind (fun t3 =>
 if t3=true then
 some 3
 else
 if n1 < 0 then
 some 1
 else
 (qae (qlk n1 e2) 0).bind (fun o=>match o with
 | .inl () =>
 some 0
 | .inr r4 =>
 some r4))
def qgs (e1:List Arr2_int):(List (List Int)×Int)→Option (LS (List (List Int)×Int) (List (List Int))):=fun (o2,t3) =>
 if t3 < (e1.length:Int) then
 (idx e1 t3).bind fun (x4:Arr2_int) =>
 (idx o2 x4.x0).bind fun (x5:List Int) =>
 if qal (x5.length+1) 8=true then
 some (.next ((o2.set x4.x0.toNat (x5++[x4.x1])),(v4a.wrap (t3+1))))
 else none
 else
 some (.done o2)
def qgt (o1:List (List Int)):(List (List Int)×Int)→Option (LS (List (List Int)×Int) (List (List Int))):=fun (o2,t3) =>
 if t3 < ((o1.length:Nat):Int) then
 (idx o2 t3).bind fun (x4:List Int) =>
 (q1i x4).bind fun (l5:List Int) =>
 (idx (o2.set t3.toNat l5) t3).bind fun (x6:List Int) =>
 (vma x6).bind fun (l7:List Int) =>
 some (.next (((o2.set t3.toNat l5).set t3.toNat l7),(v4a.wrap (t3+1))))
 else
 some (.done o2)
def qjs (n1:Int) (e2:List Arr2_int):Option (List (List Int)) :=
 if 0≤n1 then
 if qal (n1).toNat 24=true then
 (qae (qgs e2) ((v01 (n1).toNat ([]:List Int)),0)).bind (fun o3 =>
 (qae (qgt o3) (o3,0)).bind (fun o4 =>
 some o4))
 else none
 else none
def qch (s1:List (List Arr2_int)):(Int×Int)→Option (LS (Int×Int) (Int)):=fun (s2,t3) =>
 if t3 < (s1.length:Int) then
 (idx s1 t3).bind fun (x4:List Arr2_int) =>
 if (v4a.wrap (s2+(x4.length:Int))) < 0 then
 none
 else
 some (.next ((v4a.wrap (s2+(x4.length:Int))),(v4a.wrap (t3+1))))
 else
 some (.done s2)
def qci (s1:List (List Arr2_int)):(List Arr2_int×Int)→Option (LS (List Arr2_int×Int) (List Arr2_int)):=fun (n2,t3) =>
 if t3 < (s1.length:Int) then
 (idx s1 t3).bind fun (x4:List Arr2_int) =>
 if qal (n2.length+x4.length) 16=true then
 some (.next ((n2++x4),(v4a.wrap (t3+1))))
 else none
 else
 some (.done n2)
def qfw (s1:List (List Arr2_int)):Option (List Arr2_int) :=
 (qae (qch s1) (0,0)).bind (fun s2 =>
 if 0≤s2 then
 if s2≤1000000000000 then
 (qae (qci s1) (([]:List Arr2_int),0)).bind (fun n3 =>
 some n3)
 else none
 else none)
def qit (e1:List Arr2_int):(List Arr2_int×Int)→Option (LS (List Arr2_int×Int) (List Arr2_int)):=fun (o2,t3) =>
 if t3 < (e1.length:Int) then
 (idx e1 t3).bind fun (x4:Arr2_int) =>
 (idx o2 t3).bind fun (x5:Arr2_int) =>
 some (.next ((o2.set t3.toNat (Arr2_int.mk x4.x1 x4.x0)),(v4a.wrap (t3+1))))
 else
 some (.done o2)
def qll (e1:List Arr2_int):Option (List Arr2_int) :=
 if 0≤(e1.length:Int) then
 if qal e1.length 16=true then
 (qae (qit e1) ((v01 e1.length (Arr2_int.mk 0 0)),0)).bind (fun o2 =>
 some o2)
 else none
 else none
def qj7 (x1:List Int):(List Bool×List Int×Int)→Option (LS (List Bool×List Int×Int) (List Bool×List Int)):=fun (s2,o3,t4) =>
 if t4 < (x1.length:Int) then
 (idx x1 t4).bind fun (x5:Int) =>
 (idx s2 x5).bind fun (x6:Bool) =>
 if x6=true then
 some (.next (s2,o3,(v4a.wrap (t4+1))))
 else
 if qal (o3.length+1) 8=true then
 some (.next ((s2.set x5.toNat true),(o3++[x5]),(v4a.wrap (t4+1))))
 else none
 else
 some (.done (s2,o3))
def qj8 (n1:List (List Int)):(List Bool×List Int×Int)→Option (LS (List Bool×List Int×Int) (List Int)):=fun (s2,o3,i4) =>
 if i4 < ((o3.length:Nat):Int) then
 (idx o3 i4).bind fun (x5:Int) =>
 (idx n1 x5).bind fun (x6:List Int) =>
 (qae (qj7 x6) (s2,o3,0)).bind (fun (s7,o8) =>
 some (.next (s7,o8,(v4a.wrap (i4+1)))))
 else
 some (.done o3)
def qo4 (n1:List (List Int)) (f2:Int):Option (List Int) :=
 if 0≤(n1.length:Int) then
 if qal n1.length 1=true then
 (some ((v01 n1.length false):List Bool)).bind fun (l3:List Bool) =>
 (idx l3 f2).bind fun (x4:Bool) =>
 (qae (qj8 n1) ((l3.set f2.toNat true),[f2],0)).bind (fun o5 =>
 (q1i o5).bind fun (l6:List Int) =>
 some l6)
 else none
 else none
def qei (r1:List Int):(List Bool×Int)→Option (LS (List Bool×Int) (List Bool)):=fun (d2,t3) =>
 if t3 < (r1.length:Int) then
 (idx r1 t3).bind fun (x4:Int) =>
 (idx d2 x4).bind fun (x5:Bool) =>
 some (.next ((d2.set x4.toNat true),(v4a.wrap (t3+1))))
 else
 some (.done d2)
def qej (n1:Int) (r2:List (List Int)):(List Bool×List (List Int)×Int)→Option (LS (List Bool×List (List Int)×Int) (List (List Int))):=fun (d3,o4,t5) =>
 if t5 < n1 then
 (idx d3 t5).bind fun (x6:Bool) =>
 if x6=true then
 some (.next (d3,o4,(v4a.wrap (t5+1))))
 else
 (qo4 r2 t5).bind fun (r7:List Int) =>
 (qae (qei r7) (d3,0)).bind (fun d8 =>
 if qal (o4.length+1) 24=true then
 some (.next (d8,(o4++[r7]),(v4a.wrap (t5+1))))
 else none)
 else
 some (.done o4)
def qhf (n1:Int) (e2:List Arr2_int):Option (List (List Int)×Int) :=
 (qo3 n1 e2).bind fun (r3:Int) =>
 if (r3 != 0)=true then
 some ([],r3)
 else
 (qll e2).bind fun (r4:List Arr2_int) =>
 (qfw [e2,r4]).bind fun (r5:List Arr2_int) =>
 (qjs n1 r5).bind fun (r6:List (List Int)) =>
 if 0≤n1 then
 if qal (n1).toNat 1=true then
 (qae (qej n1 r6) ((v01 (n1).toNat false),[],0)).bind (fun o7 =>
 some (o7,0))
 else none
 else none
def qjt (n1:Int) (l2:List Pair):((List (Arr2_int×Bool))×Int)→Option (LS ((List (Arr2_int×Bool))×Int) ((Unit) ⊕ (Int))):=fun (s3,t4) =>
 if t4 < (l2.length:Int) then
 (idx l2 t4).bind fun (x5:Pair) =>
 if x5.I < 0 then
 some (.done (.inr 1))
 else
 if x5.I≥x5.K then
 some (.done (.inr 1))
 else
 if x5.K≥n1 then
 some (.done (.inr 1))
 else
 if x5.Weight < (-1000) then
 some (.done (.inr 1))
 else
 if x5.Weight > 1000 then
 some (.done (.inr 1))
 else
 if ((qq7 s3 (Arr2_int.mk x5.I x5.K)).getD false)=true then
 some (.done (.inr 1))
 else
 some (.next ((qyo s3 (Arr2_int.mk x5.I x5.K) true),(v4a.wrap (t4+1))))
 else
 some (.done (.inl ()))
def qk4 (n1:Int) (l2:List Pair):Option (Int) :=
 (show Option (Bool) from
 if n1 < 0 then
 some true
 else
 some (decide (n1 > 200))).bind (fun t3 =>
 if t3=true then
 some 7
 else
 if (l2.length:Int) > 20000 then
 some 3
 else
 (qae (qjt n1 l2) ([],0)).bind (fun o=>match o with
 | .inl () =>
 some 0
 | .inr r4 =>
 some r4))
def qiu (n1:Int):(List (List Int)×Int)→Option (LS (List (List Int)×Int) (List (List Int))):=fun (w2,t3) =>
 if t3 < ((((v01 (n1).toNat ([]:List Int))).length:Nat):Int) then
 if 0≤n1 then
 if qal (n1).toNat 8=true then
 (idx w2 t3).bind fun (x4:List Int) =>
 some (.next ((w2.set t3.toNat (v01 (n1).toNat 0)),(v4a.wrap (t3+1))))
 else none
 else none
 else
 some (.done w2)
def qiv (l1:List Pair):(List (List Int)×Int)→Option (LS (List (List Int)×Int) (List (List Int))):=fun (w2,t3) =>
 if t3 < (l1.length:Int) then
 (idx l1 t3).bind fun (x4:Pair) =>
 (idx w2 x4.I).bind fun (x5:List Int) =>
 (idx w2 x4.K).bind fun (x6:List Int) =>
 (idx x5 x4.K).bind fun (x7:Int) =>
 (idx (w2.set x4.I.toNat (x5.set x4.K.toNat x4.Weight)) x4.K).bind fun (x8:List Int) =>
 (idx x8 x4.I).bind fun (x9:Int) =>
 if x4.I < ((x6.length:Nat):Int) then
 some (.next (((w2.set x4.I.toNat (x5.set x4.K.toNat x4.Weight)).set x4.K.toNat (x8.set x4.I.toNat x4.Weight)),(v4a.wrap (t3+1))))
 else none
 else
 some (.done w2)
def qlm (n1:Int) (l2:List Pair):Option (List (List Int)) :=
 if 0≤n1 then
 if qal (n1).toNat 24=true then
 (qae (qiu n1) ((v01 (n1).toNat ([]:List Int)),0)).bind (fun w3 =>
 (qae (qiv l2) (w3,0)).bind (fun w4 =>
 some w4))
 else none
 else none
def qey (w1:Int) (t2:Bool):Option (Int) :=
 if t2=true then
 some (if 0 > (v4a.wrap (0 - w1)) then 0 else (v4a.wrap (0 - w1)))
 else
 some (if 0 > w1 then 0 else w1)
def qmm:Unit→Option (LS (Unit) (Unit)):=fun () =>
 some (.done ())
def qmn (r1:List (List Int)) (s2:List Int) (t3:Int):(Int×Int)→Option (LS (Int×Int) (Int)):=fun (m4,t5) =>
 if t5 < 1 then
 (idx r1 t5).bind fun (x6:List Int) =>
 (x6[1]?).bind fun (x7:Int) =>
 (idx s2 t5).bind fun (x8:Int) =>
 (qey x7 (x8 == t3)).bind fun (r9:Int) =>
 some (.next ((v4a.wrap (m4+r9)),(v4a.wrap (t5+1))))
 else
 some (.done m4)
def qpz (r1:List (List Int)) (s2:List Int) (t3:Int):(Int×Int)→Option (LS (Int×Int) (Int)):=fun (m4,t5) =>
 if t5 < 2 then
 (idx r1 t5).bind fun (x6:List Int) =>
 (x6[2]?).bind fun (x7:Int) =>
 (idx s2 t5).bind fun (x8:Int) =>
 (qey x7 (x8 == t3)).bind fun (r9:Int) =>
 some (.next ((v4a.wrap (m4+r9)),(v4a.wrap (t5+1))))
 else
 some (.done m4)
def qp0 (r1:List (List Int)) (s2:List Int) (t3:Int):(Int×Int)→Option (LS (Int×Int) (Int)):=fun (m4,t5) =>
 if t5 < 3 then
 (idx r1 t5).bind fun (x6:List Int) =>
 (x6[3]?).bind fun (x7:Int) =>
 (idx s2 t5).bind fun (x8:Int) =>
 (qey x7 (x8 == t3)).bind fun (r9:Int) =>
 some (.next ((v4a.wrap (m4+r9)),(v4a.wrap (t5+1))))
 else
 some (.done m4)
def qp1 (r1:List (List Int)) (s2:List Int) (t3:Int):(Int×Int)→Option (LS (Int×Int) (Int)):=fun (m4,t5) =>
 if t5 < 4 then
 (idx r1 t5).bind fun (x6:List Int) =>
 (x6[4]?).bind fun (x7:Int) =>
 (idx s2 t5).bind fun (x8:Int) =>
 (qey x7 (x8 == t3)).bind fun (r9:Int) =>
 some (.next ((v4a.wrap (m4+r9)),(v4a.wrap (t5+1))))
 else
 some (.done m4)
def qmo (r1:List (List Int)) (s2:List Int) (t3:Int):(Int×Int)→Option (LS (Int×Int) (Int)):=fun (m4,t5) =>
 if t5 < 5 then
 (idx r1 t5).bind fun (x6:List Int) =>
 (x6[5]?).bind fun (x7:Int) =>
 (idx s2 t5).bind fun (x8:Int) =>
 (qey x7 (x8 == t3)).bind fun (r9:Int) =>
 some (.next ((v4a.wrap (m4+r9)),(v4a.wrap (t5+1))))
 else
 some (.done m4)
def qp2 (u1:Int):Unit→Option (LS (Unit) (Unit)):=fun () =>
 if (0:Int) < (v4a.wrap (u1+1)) then
 none
 else
 some (.done ())
def qb4 (r1:List (List Int)) (u2:Int) (c3:Int):(List Int×Bool×Int×List Int×Int×Int)→Option (LS (List Int×Bool×Int×List Int×Int×Int) (List Int×Bool×Int×List Int×Int)):=fun (s4,s5,s6,s7,s8,t9) =>
 if t9 < (v4a.wrap (u2+1)) then
 (qae (qmo r1 s4 t9) (0,0)).bind (fun m10 =>
 (s4[5]?).bind fun (x11:Int) =>
 (some (if (v4a.wrap (t9+1)) > u2 then (v4a.wrap (t9+1)) else u2)).bind fun (u12:Int) =>
 (some (v4a.wrap (c3+m10))).bind fun (c13:Int) =>
 (show Option ((Unit) ⊕ (Unit)) from
 if s5=true then
 if c13≥s8 then
 some (.inr ())
 else
 some (.inl ())
 else
 some (.inl ())).bind (fun o=>match o with
 | .inl () =>
 if (6 == (r1.length:Int))=true then
 if (s4.set 5 t9).length≤1000000000 then
 ((s4.set 5 t9)[0]?).bind fun (x14:Int) =>
 (some ((s4.set 5 t9).drop 1)).bind fun (l15:List Int) =>
 some (.next ((s4.set 5 t9),true,x14,l15,c13,(v4a.wrap (t9+1))))
 else none
 else
 (qae (qp2 u12) ()).bind (fun () =>
 some (.next ((s4.set 5 t9),s5,s6,s7,s8,(v4a.wrap (t9+1)))))
 | .inr () =>
 some (.next ((s4.set 5 t9),s5,s6,s7,s8,(v4a.wrap (t9+1))))))
 else
 some (.done (s4,s5,s6,s7,s8))
def qgu (r1:List (List Int)) (u2:Int) (c3:Int):(List Int×Bool×Int×List Int×Int×Int)→Option (LS (List Int×Bool×Int×List Int×Int×Int) (List Int×Bool×Int×List Int×Int)):=fun (s4,s5,s6,s7,s8,t9) =>
 if t9 < (v4a.wrap (u2+1)) then
 (qae (qp1 r1 s4 t9) (0,0)).bind (fun m10 =>
 (s4[4]?).bind fun (x11:Int) =>
 (some (if (v4a.wrap (t9+1)) > u2 then (v4a.wrap (t9+1)) else u2)).bind fun (u12:Int) =>
 (some (v4a.wrap (c3+m10))).bind fun (c13:Int) =>
 (show Option ((Unit) ⊕ (Unit)) from
 if s5=true then
 if c13≥s8 then
 some (.inr ())
 else
 some (.inl ())
 else
 some (.inl ())).bind (fun o=>match o with
 | .inl () =>
 if (5 == (r1.length:Int))=true then
 if (s4.set 4 t9).length≤1000000000 then
 ((s4.set 4 t9)[0]?).bind fun (x14:Int) =>
 (some ((s4.set 4 t9).drop 1)).bind fun (l15:List Int) =>
 some (.next ((s4.set 4 t9),true,x14,l15,c13,(v4a.wrap (t9+1))))
 else none
 else
 (qae (qb4 r1 u12 c13) ((s4.set 4 t9),s5,s6,s7,s8,0)).bind (fun (b16,b17,b18,b19,b20) =>
 if b16.length=((s4.set 4 t9)).length then
 some (.next (b16,b17,b18,b19,b20,(v4a.wrap (t9+1))))
 else none)
 | .inr () =>
 some (.next ((s4.set 4 t9),s5,s6,s7,s8,(v4a.wrap (t9+1))))))
 else
 some (.done (s4,s5,s6,s7,s8))
def qgv (r1:List (List Int)) (u2:Int) (c3:Int):(List Int×Bool×Int×List Int×Int×Int)→Option (LS (List Int×Bool×Int×List Int×Int×Int) (List Int×Bool×Int×List Int×Int)):=fun (s4,s5,s6,s7,s8,t9) =>
 if t9 < (v4a.wrap (u2+1)) then
 (qae (qp0 r1 s4 t9) (0,0)).bind (fun m10 =>
 (s4[3]?).bind fun (x11:Int) =>
 (some (if (v4a.wrap (t9+1)) > u2 then (v4a.wrap (t9+1)) else u2)).bind fun (u12:Int) =>
 (some (v4a.wrap (c3+m10))).bind fun (c13:Int) =>
 (show Option ((Unit) ⊕ (Unit)) from
 if s5=true then
 if c13≥s8 then
 some (.inr ())
 else
 some (.inl ())
 else
 some (.inl ())).bind (fun o=>match o with
 | .inl () =>
 if (4 == (r1.length:Int))=true then
 if (s4.set 3 t9).length≤1000000000 then
 ((s4.set 3 t9)[0]?).bind fun (x14:Int) =>
 (some ((s4.set 3 t9).drop 1)).bind fun (l15:List Int) =>
 some (.next ((s4.set 3 t9),true,x14,l15,c13,(v4a.wrap (t9+1))))
 else none
 else
 (qae (qgu r1 u12 c13) ((s4.set 3 t9),s5,s6,s7,s8,0)).bind (fun (b16,b17,b18,b19,b20) =>
 if b16.length=((s4.set 3 t9)).length then
 some (.next (b16,b17,b18,b19,b20,(v4a.wrap (t9+1))))
 else none)
 | .inr () =>
 some (.next ((s4.set 3 t9),s5,s6,s7,s8,(v4a.wrap (t9+1))))))
 else
 some (.done (s4,s5,s6,s7,s8))
def qgw (r1:List (List Int)) (u2:Int) (c3:Int):(List Int×Bool×Int×List Int×Int×Int)→Option (LS (List Int×Bool×Int×List Int×Int×Int) (List Int×Bool×Int×List Int×Int)):=fun (s4,s5,s6,s7,s8,t9) =>
 if t9 < (v4a.wrap (u2+1)) then
 (qae (qpz r1 s4 t9) (0,0)).bind (fun m10 =>
 (s4[2]?).bind fun (x11:Int) =>
 (some (if (v4a.wrap (t9+1)) > u2 then (v4a.wrap (t9+1)) else u2)).bind fun (u12:Int) =>
 (some (v4a.wrap (c3+m10))).bind fun (c13:Int) =>
 (show Option ((Unit) ⊕ (Unit)) from
 if s5=true then
 if c13≥s8 then
 some (.inr ())
 else
 some (.inl ())
 else
 some (.inl ())).bind (fun o=>match o with
 | .inl () =>
 if (3 == (r1.length:Int))=true then
 if (s4.set 2 t9).length≤1000000000 then
 ((s4.set 2 t9)[0]?).bind fun (x14:Int) =>
 (some ((s4.set 2 t9).drop 1)).bind fun (l15:List Int) =>
 some (.next ((s4.set 2 t9),true,x14,l15,c13,(v4a.wrap (t9+1))))
 else none
 else
 (qae (qgv r1 u12 c13) ((s4.set 2 t9),s5,s6,s7,s8,0)).bind (fun (b16,b17,b18,b19,b20) =>
 if b16.length=((s4.set 2 t9)).length then
 some (.next (b16,b17,b18,b19,b20,(v4a.wrap (t9+1))))
 else none)
 | .inr () =>
 some (.next ((s4.set 2 t9),s5,s6,s7,s8,(v4a.wrap (t9+1))))))
 else
 some (.done (s4,s5,s6,s7,s8))
def qbd (r1:List (List Int)) (u2:Int):(List Int×Bool×Int×List Int×Int×Int)→Option (LS (List Int×Bool×Int×List Int×Int×Int) (List Int×Bool×Int×List Int×Int)):=fun (s3,s4,s5,s6,s7,t8) =>
 if t8 < (v4a.wrap (u2+1)) then
 (qae (qmn r1 s3 t8) (0,0)).bind (fun m9 =>
 (s3[1]?).bind fun (x10:Int) =>
 (some (if (v4a.wrap (t8+1)) > u2 then (v4a.wrap (t8+1)) else u2)).bind fun (u11:Int) =>
 (some (v4a.wrap (0+m9))).bind fun (c12:Int) =>
 (show Option ((Unit) ⊕ (Unit)) from
 if s4=true then
 if c12≥s7 then
 some (.inr ())
 else
 some (.inl ())
 else
 some (.inl ())).bind (fun o=>match o with
 | .inl () =>
 if (2 == (r1.length:Int))=true then
 if (s3.set 1 t8).length≤1000000000 then
 ((s3.set 1 t8)[0]?).bind fun (x13:Int) =>
 (some ((s3.set 1 t8).drop 1)).bind fun (l14:List Int) =>
 some (.next ((s3.set 1 t8),true,x13,l14,c12,(v4a.wrap (t8+1))))
 else none
 else
 (qae (qgw r1 u11 c12) ((s3.set 1 t8),s4,s5,s6,s7,0)).bind (fun (b15,b16,b17,b18,b19) =>
 if b15.length=((s3.set 1 t8)).length then
 some (.next (b15,b16,b17,b18,b19,(v4a.wrap (t8+1))))
 else none)
 | .inr () =>
 some (.next ((s3.set 1 t8),s4,s5,s6,s7,(v4a.wrap (t8+1))))))
 else
 some (.done (s3,s4,s5,s6,s7))
def qbs (r1:List (List Int)):(List Int×Bool×Int×List Int×Int×Int)→Option (LS (List Int×Bool×Int×List Int×Int×Int) (List Int×Bool×Int×List Int×Int)):=fun (s2,s3,s4,s5,s6,t7) =>
 if t7 < 1 then
 (qae qmm ()).bind (fun () =>
 (s2[0]?).bind fun (x8:Int) =>
 (some (if (v4a.wrap (t7+1)) > 0 then (v4a.wrap (t7+1)) else 0)).bind fun (u9:Int) =>
 (show Option ((Unit) ⊕ (Unit)) from
 if s3=true then
 if (0:Int)≥s6 then
 some (.inr ())
 else
 some (.inl ())
 else
 some (.inl ())).bind (fun o=>match o with
 | .inl () =>
 if (1 == (r1.length:Int))=true then
 if (s2.set 0 t7).length≤1000000000 then
 ((s2.set 0 t7)[0]?).bind fun (x10:Int) =>
 (some ((s2.set 0 t7).drop 1)).bind fun (l11:List Int) =>
 some (.next ((s2.set 0 t7),true,x10,l11,0,(v4a.wrap (t7+1))))
 else none
 else
 (qae (qbd r1 u9) ((s2.set 0 t7),s3,s4,s5,s6,0)).bind (fun (b12,b13,b14,b15,b16) =>
 if b12.length=((s2.set 0 t7)).length then
 some (.next (b12,b13,b14,b15,b16,(v4a.wrap (t7+1))))
 else none)
 | .inr () =>
 some (.next ((s2.set 0 t7),s3,s4,s5,s6,(v4a.wrap (t7+1))))))
 else
 some (.done (s2,s3,s4,s5,s6))
def qiw (n1:Int) (l2:List Pair):Option (List Int×Int×Int) :=
 (qk4 n1 l2).bind fun (r3:Int) =>
 if (r3 != 0)=true then
 some ([],0,r3)
 else
 if n1 > 10 then
 some ([],0,3)
 else
 (qlm n1 l2).bind fun (r4:List (List Int)) =>
 if 0≤n1 then
 if qal (n1).toNat 8=true then
 (show Option (List Int×Bool×Int×List Int×Int) from
 (some ((v01 (n1).toNat 0):List Int)).bind fun (l5:List Int) =>
 if (0 == (r4.length:Int))=true then
 if l5.length≤1000000000 then
 (l5[0]?).bind fun (x6:Int) =>
 (some (l5.drop 1)).bind fun (l7:List Int) =>
 some (l5,true,x6,l7,0)
 else none
 else
 (qae (qbs r4) (l5,false,0,[],0,0)).bind (fun (b8,b9,b10,b11,b12) =>
 if b8.length=l5.length then
 some (b8,b9,b10,b11,b12)
 else none)).bind (fun (s13,s14,s15,s16,s17) =>
 if s14=true then
 some ((s15 :: s16),s17,0)
 else
 some ([],s17,0))
 else none
 else none
def qsb (n1:Int) (l2:List Pair):Option (List Int×Int) :=
 (qk4 n1 l2).bind fun (r3:Int) =>
 if (r3 != 0)=true then
 some ([],r3)
 else
 none
def qf8 (l1:List Int):((List (Int×Int))×List Int×Int)→Option (LS ((List (Int×Int))×List Int×Int) (List Int)):=fun (n2,o3,t4) =>
 if t4 < (l1.length:Int) then
 (idx l1 t4).bind fun (x5:Int) =>
 if (qq7 n2 x5).isSome=true then
 (idx o3 t4).bind fun (x6:Int) =>
 some (.next (n2,(o3.set t4.toNat ((qq7 n2 x5).getD 0)),(v4a.wrap (t4+1))))
 else
 (idx o3 t4).bind fun (x7:Int) =>
 some (.next ((qyo n2 x5 (n2.length:Int)),(o3.set t4.toNat (n2.length:Int)),(v4a.wrap (t4+1))))
 else
 some (.done o3)
def qj9 (l1:List Int):Option (List Int) :=
 if 0≤(l1.length:Int) then
 if qal l1.length 8=true then
 (qae (qf8 l1) ([],(v01 l1.length 0),0)).bind (fun o2 =>
 some o2)
 else none
 else none
def qf9 (c1:List Int) (m2:List (Arr2_int×Bool)) (t3:Int):(List Pair×Int)→Option (LS (List Pair×Int) (List Pair)):=fun (p4,k5) =>
 if k5 < (c1.length:Int) then
 (idx c1 t3).bind fun (x6:Int) =>
 (idx c1 k5).bind fun (x7:Int) =>
 if ((qq7 m2 (Arr2_int.mk x6 x7)).getD false)=true then
 if qal (p4.length+1) 24=true then
 some (.next ((p4++[(Pair.mk t3 k5 1)]),(v4a.wrap (k5+1))))
 else none
 else
 if qal (p4.length+1) 24=true then
 some (.next ((p4++[(Pair.mk t3 k5 (-1))]),(v4a.wrap (k5+1))))
 else none
 else
 some (.done p4)
def qga (c1:List Int) (m2:List (Arr2_int×Bool)):(List Pair×Int)→Option (LS (List Pair×Int) (List Pair)):=fun (p3,t4) =>
 if t4 < (c1.length:Int) then
 (qae (qf9 c1 m2 t4) (p3,(v4a.wrap (t4+1)))).bind (fun p5 =>
 some (.next (p5,(v4a.wrap (t4+1)))))
 else
 some (.done p3)
def qm9 (r1:List Int):(List (List Int)×Int)→Option (LS (List (List Int)×Int) (List (List Int))):=fun (o2,t3) =>
 if t3 < (r1.length:Int) then
 (idx r1 t3).bind fun (x4:Int) =>
 if (x4 == ((o2.length:Nat):Int))=true then
 if qal (o2.length+1) 24=true then
 (idx (o2++[[]]) x4).bind fun (x5:List Int) =>
 if qal (x5.length+1) 8=true then
 some (.next (((o2++[[]]).set x4.toNat (x5++[t3])),(v4a.wrap (t3+1))))
 else none
 else none
 else
 (idx o2 x4).bind fun (x6:List Int) =>
 if qal (x6.length+1) 8=true then
 some (.next ((o2.set x4.toNat (x6++[t3])),(v4a.wrap (t3+1))))
 else none
 else
 some (.done o2)
def qix (c1:List Int) (t2:Int) (x3:List Int):(List (List Int)×Int)→Option (LS (List (List Int)×Int) (List (List Int))):=fun (g4,t5) =>
 if t5 < ((x3.length:Nat):Int) then
 (idx g4 t2).bind fun (x6:List Int) =>
 (idx x6 t5).bind fun (x7:Int) =>
 if t5 < ((x3.length:Nat):Int) then
 (idx c1 x7).bind fun (x8:Int) =>
 some (.next ((g4.set t2.toNat (x6.set t5.toNat x8)),(v4a.wrap (t5+1))))
 else none
 else
 some (.done g4)
def qe9 (c1:List Int) (o2:List (List Int)):(List (List Int)×Int)→Option (LS (List (List Int)×Int) (List (List Int))):=fun (g3,t4) =>
 if t4 < ((o2.length:Nat):Int) then
 (idx g3 t4).bind fun (x5:List Int) =>
 (qae (qix c1 t4 x5) (g3,0)).bind (fun g6 =>
 some (.next (g6,(v4a.wrap (t4+1)))))
 else
 some (.done g3)
def qp3 (r1:List Int):(List (List Int)×Int)→Option (LS (List (List Int)×Int) (List (List Int))):=fun (o2,t3) =>
 if t3 < (r1.length:Int) then
 (idx r1 t3).bind fun (x4:Int) =>
 if (x4 == ((o2.length:Nat):Int))=true then
 if qal (o2.length+1) 24=true then
 (idx (o2++[[]]) x4).bind fun (x5:List Int) =>
 if qal (x5.length+1) 8=true then
 some (.next (((o2++[[]]).set x4.toNat (x5++[t3])),(v4a.wrap (t3+1))))
 else none
 else none
 else
 (idx o2 x4).bind fun (x6:List Int) =>
 if qal (x6.length+1) 8=true then
 some (.next ((o2.set x4.toNat (x6++[t3])),(v4a.wrap (t3+1))))
 else none
 else
 some (.done o2)
def qp4 (c1:List Int) (t2:Int) (x3:List Int):(List (List Int)×Int)→Option (LS (List (List Int)×Int) (List (List Int))):=fun (g4,t5) =>
 if t5 < ((x3.length:Nat):Int) then
 (idx g4 t2).bind fun (x6:List Int) =>
 (idx x6 t5).bind fun (x7:Int) =>
 if t5 < ((x3.length:Nat):Int) then
 (idx c1 x7).bind fun (x8:Int) =>
 some (.next ((g4.set t2.toNat (x6.set t5.toNat x8)),(v4a.wrap (t5+1))))
 else none
 else
 some (.done g4)
def qp5 (c1:List Int) (o2:List (List Int)):(List (List Int)×Int)→Option (LS (List (List Int)×Int) (List (List Int))):=fun (g3,t4) =>
 if t4 < ((o2.length:Nat):Int) then
 (idx g3 t4).bind fun (x5:List Int) =>
 (qae (qp4 c1 t4 x5) (g3,0)).bind (fun g6 =>
 some (.next (g6,(v4a.wrap (t4+1)))))
 else
 some (.done g3)
def qln (c1:List Int) (m2:List (Arr2_int×Bool)):Option (List (List Int)×Int) :=
 (qae (qga c1 m2) ([],0)).bind (fun p3 =>
 if (c1.length:Int)≤10 then
 (qiw (c1.length:Int) p3).bind fun (r4:List Int×Int×Int) =>
 if (r4.2.2 != 0)=true then
 some ([],r4.2.2)
 else
 (qj9 r4.1).bind fun (r5:List Int) =>
 (qae (qm9 r5) ([],0)).bind (fun o6 =>
 (qae (qe9 c1 o6) (o6,0)).bind (fun g7 =>
 some (g7,0)))
 else
 (qsb (c1.length:Int) p3).bind fun (r8:List Int×Int) =>
 if (r8.2 != 0)=true then
 some ([],r8.2)
 else
 (qj9 r8.1).bind fun (r9:List Int) =>
 (qae (qp3 r9) ([],0)).bind (fun o10 =>
 (qae (qp5 c1 o10) (o10,0)).bind (fun g11 =>
 some (g11,0))))
def qkl (x1:Int):Option (Bool) :=
 some (x1 != x1)
def qek (x1:Int) (y2:Int):Option (Int) :=
 (qkl x1).bind fun (r3:Bool) =>
 (qkl y2).bind fun (r4:Bool) =>
 if r3=true then
 if r4=true then
 some 0
 else
 some (-1)
 else
 if r4=true then
 some 1
 else
 if x1 < y2 then
 some (-1)
 else
 if x1 > y2 then
 some 1
 else
 some 0
def qba (s1:List Int) (s2:List Int):Int→Option (LS (Int) ((Unit) ⊕ (Int))):=fun t3 =>
 if t3 < (s1.length:Int) then
 (idx s1 t3).bind fun (x4:Int) =>
 if t3≥(s2.length:Int) then
 some (.done (.inr 1))
 else
 (idx s2 t3).bind fun (x5:Int) =>
 (qek x4 x5).bind fun (r6:Int) =>
 if (r6 != 0)=true then
 some (.done (.inr r6))
 else
 some (.next (v4a.wrap (t3+1)))
 else
 some (.done (.inl ()))
def qam (s1:List Int) (s2:List Int):Option (Int) :=
 (qae (qba s1 s2) 0).bind (fun o=>match o with
 | .inl () =>
 if (s1.length:Int) < (s2.length:Int) then
 some (-1)
 else
 some 0
 | .inr r3 =>
 some r3)
def qel (r1:List Arr2_int):((List (Arr2_int×Bool))×Int)→Option (LS ((List (Arr2_int×Bool))×Int) ((List (Arr2_int×Bool)))):=fun (m2,t3) =>
 if t3 < (r1.length:Int) then
 (idx r1 t3).bind fun (x4:Arr2_int) =>
 (some x4.x0).bind fun (k5:Int) =>
 (some x4.x1).bind fun (k6:Int) =>
 some (.next ((qyo m2 (Arr2_int.mk k5 k6) true),(v4a.wrap (t3+1))))
 else
 some (.done m2)
def qdx (t1:Table) (x2:List Int):(List Int×Int)→Option (LS (List Int×Int) (List Int)):=fun (i3,t4) =>
 if t4 < (x2.length:Int) then
 (idx x2 t4).bind fun (x5:Int) =>
 (idx t1.Rows x5).bind fun (x6:Row) =>
 if qal (i3.length+1) 8=true then
 some (.next ((i3++[x6.ID]),(v4a.wrap (t4+1))))
 else none
 else
 some (.done i3)
def qdy (t1:Table) (r2:List (List Int)×Int):(List (List Int)×Int)→Option (LS (List (List Int)×Int) (List (List Int))):=fun (o3,t4) =>
 if t4 < (r2.1.length:Int) then
 (idx r2.1 t4).bind fun (x5:List Int) =>
 (qae (qdx t1 x5) ([],0)).bind (fun i6 =>
 if qal (o3.length+1) 24=true then
 some (.next ((o3++[i6]),(v4a.wrap (t4+1))))
 else none)
 else
 some (.done o3)
def qfx (t1:Table) (m2:List (Arr2_int×Bool)) (r3:List (List Int)×Int):(List (List Int)×Int)→Option (LS (List (List Int)×Int) ((List (List Int)) ⊕ (List (List Int)×Int))):=fun (o4,t5) =>
 if t5 < (r3.1.length:Int) then
 (idx r3.1 t5).bind fun (x6:List Int) =>
 (qln x6 m2).bind fun (r7:List (List Int)×Int) =>
 if (r7.2 != 0)=true then
 some (.done (.inr ([],r7.2)))
 else
 (qae (qdy t1 r7) (o4,0)).bind (fun o8 =>
 some (.next (o8,(v4a.wrap (t5+1)))))
 else
 some (.done (.inl o4))
def qhg (t1:Table) (l2:Linkage):Option (List (List Int)×Int) :=
 (qj6 t1 l2).bind fun (r3:Int) =>
 if (r3 != 0)=true then
 some ([],r3)
 else
 (qgr t1 l2).bind fun (r4:List Arr2_int) =>
 (qae (qel r4) ([],0)).bind (fun m5 =>
 (qhf (t1.Rows.length:Int) r4).bind fun (r6:List (List Int)×Int) =>
 if (r6.2 != 0)=true then
 some ([],r6.2)
 else
 (qae (qfx t1 m5 r6) ([],0)).bind (fun o=>match o with
 | .inl o7 =>
 (vhm (fun (y8:List Int) (y9:List Int)=>qam y8 y9) o7).bind fun (l10:List (List Int)) =>
 some (l10,0)
 | .inr r11 =>
 some r11))
def qgb (a1:List Int) (b2:List Int):Int→Option (LS (Int) ((Unit) ⊕ (Bool))):=fun i3 =>
 if i3 < (a1.length:Int) then
 (idx a1 i3).bind fun (x4:Int) =>
 (idx b2 i3).bind fun (x5:Int) =>
 if (x4 != x5)=true then
 some (.done (.inr false))
 else
 some (.next (v4a.wrap (i3+1)))
 else
 some (.done (.inl ()))
def qlo (a1:List Int) (b2:List Int):Option (Bool) :=
 if ((a1.length:Int) != (b2.length:Int))=true then
 some false
 else
 (qae (qgb a1 b2) 0).bind (fun o=>match o with
 | .inl () =>
 some true
 | .inr r3 =>
 some r3)
def qjh (a1:List (List Int)) (b2:List (List Int)):Int→Option (LS (Int) ((Unit) ⊕ (Bool))):=fun i3 =>
 if i3 < (a1.length:Int) then
 (idx a1 i3).bind fun (x4:List Int) =>
 (idx b2 i3).bind fun (x5:List Int) =>
 (qlo x4 x5).bind fun (r6:Bool) =>
 if r6=true then
 some (.next (v4a.wrap (i3+1)))
 else
 some (.done (.inr false))
 else
 some (.done (.inl ()))
def qd5 (a1:List (List Int)) (b2:List (List Int)):Option (Bool) :=
 if ((a1.length:Int) != (b2.length:Int))=true then
 some false
 else
 (qae (qjh a1 b2) 0).bind (fun o=>match o with
 | .inl () =>
 some true
 | .inr r3 =>
 some r3)
def qem (t1:Int) (x2:List Int):((List (Int×Int))×Int×Int)→Option (LS ((List (Int×Int))×Int×Int) (((List (Int×Int))) ⊕ ((List (Int×Int))×Int×Bool))):=fun (o3,b4,t5) =>
 if t5 < (x2.length:Int) then
 (idx x2 t5).bind fun (x6:Int) =>
 if (qq7 o3 x6).isSome=true then
 some (.done (.inr ([],0,false)))
 else
 if x6≤b4 then
 some (.done (.inr ([],0,false)))
 else
 some (.next ((qyo o3 x6 t1),x6,(v4a.wrap (t5+1))))
 else
 some (.done (.inl o3))
def qbp (d1:List (List Int)):((List (Int×Int))×Int×Int)→Option (LS ((List (Int×Int))×Int×Int) (((List (Int×Int))×Int) ⊕ ((List (Int×Int))×Int×Bool))):=fun (o2,p3,t4) =>
 if t4 < (d1.length:Int) then
 (idx d1 t4).bind fun (x5:List Int) =>
 if ((x5.length:Int) == 0)=true then
 some (.done (.inr ([],0,false)))
 else
 (qae (qem t4 x5) (o2,0,0)).bind (fun o=>match o with
 | .inl o6 =>
 some (.next (o6,(v4a.wrap (p3+(v4a.wrap (Int.tdiv (v4a.wrap ((x5.length:Int) * (v4a.wrap ((x5.length:Int) - 1)))) 2)))),(v4a.wrap (t4+1))))
 | .inr r7 =>
 some (.done (.inr r7)))
 else
 some (.done (.inl (o2,p3)))
def qf3 (d1:List (List Int)):Option ((List (Int×Int))×Int×Bool) :=
 (qae (qbp d1) ([],0,0)).bind (fun o=>match o with
 | .inl (o2,p3) =>
 some (o2,p3,(decide ((o2.length:Int)≤1000)))
 | .inr r4 =>
 some r4)
def qcs (r1:(List (Int×Int))×Int×Bool) (x2:List Int):(Int×(List (Int×Int))×Int)→Option (LS (Int×(List (Int×Int))×Int) (Int)):=fun (b3,c4,t5) =>
 if t5 < (x2.length:Int) then
 (idx x2 t5).bind fun (x6:Int) =>
 if (qq7 r1.1 x6).isSome=true then
 some (.next ((v4a.wrap (b3+((qq7 c4 ((qq7 r1.1 x6).getD 0)).getD 0))),(qyo c4 ((qq7 r1.1 x6).getD 0) (v4a.wrap (((qq7 c4 ((qq7 r1.1 x6).getD 0)).getD 0)+1))),(v4a.wrap (t5+1))))
 else
 some (.next (b3,c4,(v4a.wrap (t5+1))))
 else
 some (.done b3)
def qa2 (f1:List (List Int)) (r2:(List (Int×Int))×Int×Bool):(Int×Int)→Option (LS (Int×Int) (Int)):=fun (b3,t4) =>
 if t4 < (f1.length:Int) then
 (idx f1 t4).bind fun (x5:List Int) =>
 (qae (qcs r2 x5) (b3,[],0)).bind (fun b6 =>
 some (.next (b6,(v4a.wrap (t4+1)))))
 else
 some (.done b3)
def qdg (f1:List (List Int)) (t2:List (List Int)):Option (Ratio×Int) :=
 (qf3 f1).bind fun (r3:(List (Int×Int))×Int×Bool) =>
 (qf3 t2).bind fun (r4:(List (Int×Int))×Int×Bool) =>
 if r3.2.2=true then
 if r4.2.2=true then
 if (r3.2.1 == 0)=true then
 some ((Ratio.mk 1 1),0)
 else
 (qae (qa2 f1 r4) (0,0)).bind (fun b5 =>
 (qmc b5 r3.2.1).bind fun (r6:Ratio×Int) =>
 some (r6.1,r6.2))
 else
 some ((Ratio.mk 0 0),1)
 else
 some ((Ratio.mk 0 0),1)
def qlp (f1:List (List Int)) (t2:List (List Int)):Option (Ratio×Int) :=
 (qdg t2 f1).bind fun (r3:Ratio×Int) =>
 some (r3.1,r3.2)
def qkm (l1:List (List UInt8)):(List Row×Int)→Option (LS (List Row×Int) (List Row)):=fun (t2,t3) =>
 if t3 < 4 then
 (idx l1 t3).bind fun (x4:List UInt8) =>
 if qal (t2.length+1) 32=true then
 some (.next ((t2++[(Row.mk (v4a.wrap (t3+1)) [(Value.mk 2 0 x4)])]),(v4a.wrap (t3+1))))
 else none
 else
 some (.done t2)
def qhz:Option (Table×Linkage) :=
 (some ([[97,110,110],[97,110,110,101],[97,110,110,101,115],[98,111,98]]:List (List UInt8))).bind fun (l1:List (List UInt8)) =>
 (qae (qkm l1) ([],0)).bind (fun t2 =>
 some ((Table.mk [112] [[110,97,109,101]] t2),(Linkage.mk [[(Similar.mk 0 2 1)]] [] [3])))
def qiy (a1:Drossref04_Wide):Option (Bool) :=
 if (a1.Hi == 0)=true then
 some (a1.Lo == 0)
 else
 some false
def qc6 (a1:Drossref04_Wide) (b2:Drossref04_Wide):Option (Bool) :=
 if a1.Hi < b2.Hi then
 some true
 else
 if (a1.Hi == b2.Hi)=true then
 some (decide (a1.Lo < b2.Lo))
 else
 some false
def qdq (a1:Drossref04_Wide) (b2:Drossref04_Wide):Option (Drossref04_Wide) :=
 (vr4 a1.Lo b2.Lo 0).bind fun (r3:Int×Int) =>
 (vr4 a1.Hi b2.Hi r3.2).bind fun (r4:Int×Int) =>
 some (Drossref04_Wide.mk r4.1 r3.1)
def qhh (a1:Drossref04_Wide) (b2:Drossref04_Wide):Option (Drossref04_Wide) :=
 (subF a1.Lo b2.Lo 0).bind fun (r3:Int×Int) =>
 (subF a1.Hi b2.Hi r3.2).bind fun (r4:Int×Int) =>
 some (Drossref04_Wide.mk r4.1 r3.1)
def qbt (a1:Drossref04_Wide) (b2:Drossref04_Wide):(Drossref04_Wide×Drossref04_Wide×Int)→Option (LS (Drossref04_Wide×Drossref04_Wide×Int) (Drossref04_Wide×Drossref04_Wide)):=fun (q3,r4,i5) =>
 if i5≥0 then
 if i5≥64 then
 (qdq r4 r4).bind fun (r6:Drossref04_Wide) =>
 if (v34 i5 64) < 0 then none else
 (qdq q3 q3).bind fun (r7:Drossref04_Wide) =>
 (qc6 (Drossref04_Wide.mk r6.Hi (v4b.wrap (r6.Lo+(v34 (v30 a1.Hi (2 ^ (min ((v34 i5 64)).toNat 64))) 2)))) b2).bind fun (r8:Bool) =>
 if r8=true then
 some (.next (r7,(Drossref04_Wide.mk r6.Hi (v4b.wrap (r6.Lo+(v34 (v30 a1.Hi (2 ^ (min ((v34 i5 64)).toNat 64))) 2)))),(v4a.wrap (i5 - 1))))
 else
 (qhh (Drossref04_Wide.mk r6.Hi (v4b.wrap (r6.Lo+(v34 (v30 a1.Hi (2 ^ (min ((v34 i5 64)).toNat 64))) 2)))) b2).bind fun (r9:Drossref04_Wide) =>
 some (.next ((Drossref04_Wide.mk r7.Hi (v4b.wrap (r7.Lo+1))),r9,(v4a.wrap (i5 - 1))))
 else
 (qdq r4 r4).bind fun (r10:Drossref04_Wide) =>
 if (v34 i5 64) < 0 then none else
 (qdq q3 q3).bind fun (r11:Drossref04_Wide) =>
 (qc6 (Drossref04_Wide.mk r10.Hi (v4b.wrap (r10.Lo+(v34 (v30 a1.Lo (2 ^ (min ((v34 i5 64)).toNat 64))) 2)))) b2).bind fun (r12:Bool) =>
 if r12=true then
 some (.next (r11,(Drossref04_Wide.mk r10.Hi (v4b.wrap (r10.Lo+(v34 (v30 a1.Lo (2 ^ (min ((v34 i5 64)).toNat 64))) 2)))),(v4a.wrap (i5 - 1))))
 else
 (qhh (Drossref04_Wide.mk r10.Hi (v4b.wrap (r10.Lo+(v34 (v30 a1.Lo (2 ^ (min ((v34 i5 64)).toNat 64))) 2)))) b2).bind fun (r13:Drossref04_Wide) =>
 some (.next ((Drossref04_Wide.mk r11.Hi (v4b.wrap (r11.Lo+1))),r13,(v4a.wrap (i5 - 1))))
 else
 some (.done (q3,r4))
def qfo (a1:Drossref04_Wide) (b2:Drossref04_Wide):Option (Drossref04_Wide×Drossref04_Wide) :=
 (qae (qbt a1 b2) ((Drossref04_Wide.mk 0 0),(Drossref04_Wide.mk 0 0),127)).bind (fun (q3,r4) =>
 some (q3,r4))
def qgx:(Drossref04_Wide×Drossref04_Wide)→Option (LS (Drossref04_Wide×Drossref04_Wide) (Drossref04_Wide)):=fun (x1,y2) =>
 (qiy y2).bind fun (r3:Bool) =>
 if r3=true then
 some (.done x1)
 else
 (qfo x1 y2).bind fun (r4:Drossref04_Wide×Drossref04_Wide) =>
 some (.next (y2,r4.2))
def qlx (n1:Bool) (n2:Drossref04_Wide) (d3:Drossref04_Wide):Option (Ratio×Int) :=
 (qae qgx (n2,d3)).bind (fun x4 =>
 (qfo n2 x4).bind fun (r5:Drossref04_Wide×Drossref04_Wide) =>
 (qfo d3 x4).bind fun (r6:Drossref04_Wide×Drossref04_Wide) =>
 (qc6 (Drossref04_Wide.mk 0 9223372036854775807) r5.1).bind fun (r7:Bool) =>
 if r7=true then
 some ((Ratio.mk 0 0),7)
 else
 (qc6 (Drossref04_Wide.mk 0 9223372036854775807) r6.1).bind fun (r8:Bool) =>
 if r8=true then
 some ((Ratio.mk 0 0),7)
 else
 if n1=true then
 some ((Ratio.mk (v4a.wrap (0 - (v4a.wrap r5.1.Lo))) (v4a.wrap r6.1.Lo)),0)
 else
 some ((Ratio.mk (v4a.wrap r5.1.Lo) (v4a.wrap r6.1.Lo)),0))
def qiz (n1:Int):Option (Drossref04_Wide) :=
 if n1 < 0 then
 some (Drossref04_Wide.mk 0 (v4b.wrap (0 - (v4b.wrap n1))))
 else
 some (Drossref04_Wide.mk 0 (v4b.wrap n1))
def qkn (n1:Int) (d2:Int):Option (Ratio×Int) :=
 if (d2 == 0)=true then
 some ((Ratio.mk 0 0),8)
 else
 (qiz n1).bind fun (r3:Drossref04_Wide) =>
 (qiz d2).bind fun (r4:Drossref04_Wide) =>
 (qlx (!((decide (n1 < 0)) == (decide (d2 < 0)))) r3 r4).bind fun (r5:Ratio×Int) =>
 some (r5.1,r5.2)
def qez (n1:Int) (d2:Int):Option (Ratio) :=
 (qkn n1 d2).bind fun (r3:Ratio×Int) =>
 if (r3.2 != 0)=true then
 some (Ratio.mk 0 1)
 else
 some r3.1
def qhi:Option (Bool) :=
 (qhz ).bind fun (r1:Table×Linkage) =>
 (qkk r1.1 r1.2).bind fun (r2:List Arr2_int64×Int) =>
 (qhg r1.1 r1.2).bind fun (r3:List (List Int)×Int) =>
 (qdg r3.1 [[1,2],[3],[4]]).bind fun (r4:Ratio×Int) =>
 (qlp r3.1 [[1,2],[3],[4]]).bind fun (r5:Ratio×Int) =>
 if (r2.2 == 0)=true then
 (qdw r2.1 [(Arr2_int64.mk 1 2),(Arr2_int64.mk 2 3)]).bind fun (r6:Bool) =>
 if r6=true then
 if (r3.2 == 0)=true then
 (qd5 r3.1 [[1,2,3],[4]]).bind fun (r7:Bool) =>
 if r7=true then
 if (r4.2 == 0)=true then
 (qez 1 3).bind fun (r8:Ratio) =>
 if ((r4.1.Num == r8.Num) && (r4.1.Den == r8.Den))=true then
 if (r5.2 == 0)=true then
 (qez 1 1).bind fun (r9:Ratio) =>
 some ((r5.1.Num == r9.Num) && (r5.1.Den == r9.Den))
 else
 some false
 else
 some false
 else
 some false
 else
 some false
 else
 some false
 else
 some false
 else
 some false
def qfp (v1:Value):Option (Bool) :=
 if (v1.Kind == 0)=true then
 if (v1.Num == 0)=true then
 some (v1.Str == [])
 else
 some false
 else
 if (v1.Kind == 1)=true then
 some (v1.Str == [])
 else
 if (v1.Kind == 2)=true then
 if (v1.Num == 0)=true then
 some (decide ((v1.Str.length:Int)≤200))
 else
 some false
 else
 if (v1.Kind == 3)=true then
 if v1.Num≥1 then
 some (v1.Str == [])
 else
 some false
 else
 some false
def qly (c1:Similar):Option (Bool) :=
 if (c1.Measure == 1)=true then
 some (c1.Limit == 0)
 else
 if (c1.Measure == 2)=true then
 if c1.Limit≥0 then
 some (decide (c1.Limit≤200))
 else
 some false
 else
 if (c1.Measure == 4)=true then
 if c1.Limit≥0 then
 some (decide (c1.Limit≤200))
 else
 some false
 else
 if (c1.Measure == 3)=true then
 if c1.Limit≥0 then
 some (decide (c1.Limit≤100))
 else
 some false
 else
 some false
def qd6 (x1:Row) (y2:Row) (c3:Similar):Option (Int) :=
 if c3.Attr < 0 then
 some 6
 else
 if c3.Attr≥(x1.Values.length:Int) then
 some 6
 else
 if c3.Attr≥(y2.Values.length:Int) then
 some 6
 else
 (idx x1.Values c3.Attr).bind fun (x4:Value) =>
 (qfp x4).bind fun (r5:Bool) =>
 if r5=true then
 (idx y2.Values c3.Attr).bind fun (x6:Value) =>
 (qfp x6).bind fun (r7:Bool) =>
 if r7=true then
 (qly c3).bind fun (r8:Bool) =>
 if r8=true then
 some 0
 else
 some 1
 else
 some 1
 else
 some 1
def qhj (n1:Int) (d2:Drossref56_Draft) (i3:Int):(List Similar×Int)→Option (LS (List Similar×Int) (List Similar)):=fun (r4,k5) =>
 (idx d2.Rules i3).bind fun (x6:List Drossref56_Test) =>
 if k5 < (x6.length:Int) then
 (idx x6 k5).bind fun (x7:Drossref56_Test) =>
 if n1=0 then none else
 if ((v4a.wrap (1+(v4a.wrap (v34 x7.Measure 4)))) == 1)=true then
 if ((v4a.wrap (1+(v4a.wrap (v34 x7.Measure 4)))) == 3)=true then
 if qal (r4.length+1) 24=true then
 some (.next ((r4++[(Similar.mk (v34 (v4a.wrap x7.Attr) n1) (v4a.wrap (1+(v4a.wrap (v34 x7.Measure 4)))) (v4a.wrap (v34 x7.Limit 101)))]),(v4a.wrap (k5+1))))
 else none
 else
 if qal (r4.length+1) 24=true then
 some (.next ((r4++[(Similar.mk (v34 (v4a.wrap x7.Attr) n1) (v4a.wrap (1+(v4a.wrap (v34 x7.Measure 4)))) 0)]),(v4a.wrap (k5+1))))
 else none
 else
 if ((v4a.wrap (1+(v4a.wrap (v34 x7.Measure 4)))) == 3)=true then
 if qal (r4.length+1) 24=true then
 some (.next ((r4++[(Similar.mk (v34 (v4a.wrap x7.Attr) n1) (v4a.wrap (1+(v4a.wrap (v34 x7.Measure 4)))) (v4a.wrap (v34 x7.Limit 101)))]),(v4a.wrap (k5+1))))
 else none
 else
 if qal (r4.length+1) 24=true then
 some (.next ((r4++[(Similar.mk (v34 (v4a.wrap x7.Attr) n1) (v4a.wrap (1+(v4a.wrap (v34 x7.Measure 4)))) (v4a.wrap (v34 x7.Limit 4)))]),(v4a.wrap (k5+1))))
 else none
 else
 some (.done r4)
def qd7 (n1:Int) (d2:Drossref56_Draft):(List (List Similar)×Int)→Option (LS (List (List Similar)×Int) ((List (List Similar)) ⊕ (Linkage×Bool))):=fun (l3,i4) =>
 if i4 < (d2.Rules.length:Int) then
 (idx d2.Rules i4).bind fun (x5:List Drossref56_Test) =>
 if (x5.length:Int) < 1 then
 some (.done (.inr ((Linkage.mk [] [] []),false)))
 else
 if (x5.length:Int) > 3 then
 some (.done (.inr ((Linkage.mk [] [] []),false)))
 else
 (qae (qhj n1 d2 i4) ([],0)).bind (fun r6 =>
 if qal (l3.length+1) 24=true then
 some (.next ((l3++[r6]),(v4a.wrap (i4+1))))
 else none)
 else
 some (.done (.inl l3))
def qbx (n1:Int) (d2:Drossref56_Draft):(List Int×List Int×Int)→Option (LS (List Int×List Int×Int) (List Int×List Int)):=fun (l3,l4,a5) =>
 if a5 < n1 then
 (show Option (Bool) from
 if a5 < 8 then
 if a5 < 0 then none else
 some ((v34 (v30 d2.Block (2 ^ (min (a5).toNat 8))) 2) == 1)
 else
 some false).bind (fun t6 =>
 if t6=true then
 if qal (l3.length+1) 8=true then
 if a5 < (d2.Survive.length:Int) then
 (idx d2.Survive a5).bind fun (x7:Int) =>
 if qal (l4.length+1) 8=true then
 some (.next ((l3++[a5]),(l4++[(v4a.wrap (1+(v4a.wrap (v34 x7 5))))]),(v4a.wrap (a5+1))))
 else none
 else
 if qal (l4.length+1) 8=true then
 some (.next ((l3++[a5]),(l4++[1]),(v4a.wrap (a5+1))))
 else none
 else none
 else
 if a5 < (d2.Survive.length:Int) then
 (idx d2.Survive a5).bind fun (x8:Int) =>
 if qal (l4.length+1) 8=true then
 some (.next (l3,(l4++[(v4a.wrap (1+(v4a.wrap (v34 x8 5))))]),(v4a.wrap (a5+1))))
 else none
 else
 if qal (l4.length+1) 8=true then
 some (.next (l3,(l4++[1]),(v4a.wrap (a5+1))))
 else none)
 else
 some (.done (l3,l4))
def qmp (n1:Int) (d2:Drossref56_Draft):Option (Linkage×Bool) :=
 (qae (qd7 n1 d2) ([],0)).bind (fun o=>match o with
 | .inl l3 =>
 (qae (qbx n1 d2) ([],[],0)).bind (fun (l4,l5) =>
 some ((Linkage.mk l3 l4 l5),(decide ((d2.Rules.length:Int)≤4))))
 | .inr r6 =>
 some r6)
def qe0 (c1:Int):Option (Value) :=
 if ((v34 c1 12) == 0)=true then
 some (Value.mk 1 0 [])
 else
 if ((v34 c1 12) == 1)=true then
 some (Value.mk 1 1 [])
 else
 if ((v34 c1 12) == 2)=true then
 some (Value.mk 1 2 [])
 else
 if ((v34 c1 12) == 3)=true then
 some (Value.mk 0 0 [])
 else
 if ((v34 c1 12) == 4)=true then
 some (Value.mk 2 0 [97])
 else
 if ((v34 c1 12) == 5)=true then
 some (Value.mk 2 0 [98])
 else
 if ((v34 c1 12) == 6)=true then
 some (Value.mk 2 0 [])
 else
 if ((v34 c1 12) == 7)=true then
 some (Value.mk 3 1 [])
 else
 if ((v34 c1 12) == 8)=true then
 some (Value.mk 1 (-1) [])
 else
 if ((v34 c1 12) == 9)=true then
 some (Value.mk 2 0 [97,98])
 else
 if ((v34 c1 12) == 10)=true then
 some (Value.mk 3 2 [])
 else
 some (Value.mk 1 7 [])
def qh0 (x1:Drossref03_Recipe) (n2:Int) (i3:Int):(List Value×Int)→Option (LS (List Value×Int) (List Value)):=fun (r4,k5) =>
 if k5 < n2 then
 (idx x1.Rows i3).bind fun (x6:List Int) =>
 if k5 < (x6.length:Int) then
 (idx x6 k5).bind fun (x7:Int) =>
 (qe0 x7).bind fun (r8:Value) =>
 if qal (r4.length+1) 32=true then
 some (.next ((r4++[r8]),(v4a.wrap (k5+1))))
 else none
 else
 (qe0 0).bind fun (r9:Value) =>
 if qal (r4.length+1) 32=true then
 some (.next ((r4++[r9]),(v4a.wrap (k5+1))))
 else none
 else
 some (.done r4)
def qh1 (x1:Drossref03_Recipe) (n2:Int):(List Row×Int)→Option (LS (List Row×Int) (List Row)):=fun (t3,i4) =>
 if i4 < (x1.Rows.length:Int) then
 (qae (qh0 x1 n2 i4) ([],0)).bind (fun r5 =>
 if qal (t3.length+1) 32=true then
 some (.next ((t3++[(Row.mk (v4a.wrap (1+(v4a.wrap (i4 * (v4a.wrap (1+(v4a.wrap (v34 x1.Gap 3)))))))) r5)]),(v4a.wrap (i4+1))))
 else none)
 else
 some (.done t3)
def qko (x1:Drossref03_Recipe) (n2:Int):Option (Table) :=
 if (0:Int)≤n2 then
 if n2≤8 then
 (some ([[97],[98],[99],[100],[101],[102],[103],[104]]:List (List UInt8))).bind fun (l3:List (List UInt8)) =>
 if qal ((l3.take n2.toNat).length) 16=true then
 (qae (qh1 x1 n2) ([],0)).bind (fun t4 =>
 some (Table.mk [114] (l3.take n2.toNat) t4))
 else none
 else none
 else none
def qfq (x1:Drossref03_Recipe) (m2:Int):Option (Table×Bool) :=
 if (x1.Rows.length:Int) > m2 then
 some ((Table.mk [] [] []),false)
 else
 (qko x1 (v4a.wrap (v34 x1.Attrs 6))).bind fun (r3:Table) =>
 some (r3,true)
def qe1 (x1:Drossref03_Recipe) (d2:Drossref56_Draft):Option (Table×Linkage×Bool) :=
 (qfq x1 6).bind fun (r3:Table×Bool) =>
 (show Option (Bool) from
 if r3.2=true then
 some ((r3.1.Attrs.length:Int) == 0)
 else
 some true).bind (fun t4 =>
 if t4=true then
 some ((Table.mk [] [] []),(Linkage.mk [] [] []),false)
 else
 (qmp (r3.1.Attrs.length:Int) d2).bind fun (r5:Linkage×Bool) =>
 some (r3.1,r5.1,r5.2))
def qdr (a1:Int) (b2:Int):Option (Int) :=
 if a1 < b2 then
 some (-1)
 else
 if a1 > b2 then
 some 1
 else
 some 0
def qbi (a1:List UInt8) (b2:List UInt8):Int→Option (LS (Int) ((Unit) ⊕ (Int))):=fun i3 =>
 if i3 < (a1.length:Int) then
 if i3 < (b2.length:Int) then
 (idx a1 i3).bind fun (c4:UInt8) =>
 (idx b2 i3).bind fun (c5:UInt8) =>
 if (((c4.toNat:Nat):Int) != ((c5.toNat:Nat):Int))=true then
 (qdr (v4a.wrap ((c4.toNat:Nat):Int)) (v4a.wrap ((c5.toNat:Nat):Int))).bind fun (r6:Int) =>
 some (.done (.inr r6))
 else
 some (.next (v4a.wrap (i3+1)))
 else
 some (.done (.inl ()))
 else
 some (.done (.inl ()))
def qh2 (a1:List UInt8) (b2:List UInt8):Option (Int) :=
 (qae (qbi a1 b2) 0).bind (fun o=>match o with
 | .inl () =>
 (qdr (a1.length:Int) (b2.length:Int)).bind fun (r3:Int) =>
 some r3
 | .inr r4 =>
 some r4)
def qb5 (a1:Value) (b2:Value):Option (Int) :=
 (qdr a1.Kind b2.Kind).bind fun (r3:Int) =>
 if (r3 != 0)=true then
 some r3
 else
 (qdr a1.Num b2.Num).bind fun (r4:Int) =>
 if (r4 != 0)=true then
 some r4
 else
 (qh2 a1.Str b2.Str).bind fun (r5:Int) =>
 some r5
def qc2 (b1:List UInt8):(List Int×Int)→Option (LS (List Int×Int) (List Int)):=fun (d2,k3) =>
 if k3≤(b1.length:Int) then
 if qal (d2.length+1) 8=true then
 some (.next ((d2++[k3]),(v4a.wrap (k3+1))))
 else none
 else
 some (.done d2)
def qc3 (a1:List UInt8) (b2:List UInt8) (d3:List Int) (i4:Int):(List Int×Int)→Option (LS (List Int×Int) (List Int)):=fun (n5,k6) =>
 if k6 < (b2.length:Int) then
 (idx d3 k6).bind fun (x7:Int) =>
 (idx a1 i4).bind fun (c8:UInt8) =>
 (idx b2 k6).bind fun (c9:UInt8) =>
 if (((c8.toNat:Nat):Int) != ((c9.toNat:Nat):Int))=true then
 (idx d3 (v4a.wrap (k6+1))).bind fun (x10:Int) =>
 (idx n5 k6).bind fun (x11:Int) =>
 if qal (n5.length+1) 8=true then
 some (.next ((n5++[(if (v4a.wrap (x11+1)) < (if (v4a.wrap (x10+1)) < (v4a.wrap (x7+1)) then (v4a.wrap (x10+1)) else (v4a.wrap (x7+1))) then (v4a.wrap (x11+1)) else (if (v4a.wrap (x10+1)) < (v4a.wrap (x7+1)) then (v4a.wrap (x10+1)) else (v4a.wrap (x7+1))))]),(v4a.wrap (k6+1))))
 else none
 else
 (idx d3 (v4a.wrap (k6+1))).bind fun (x12:Int) =>
 (idx n5 k6).bind fun (x13:Int) =>
 if qal (n5.length+1) 8=true then
 some (.next ((n5++[(if (v4a.wrap (x13+1)) < (if (v4a.wrap (x12+1)) < x7 then (v4a.wrap (x12+1)) else x7) then (v4a.wrap (x13+1)) else (if (v4a.wrap (x12+1)) < x7 then (v4a.wrap (x12+1)) else x7))]),(v4a.wrap (k6+1))))
 else none
 else
 some (.done n5)
def qed (a1:List UInt8) (b2:List UInt8):(List Int×Int)→Option (LS (List Int×Int) (List Int)):=fun (d3,i4) =>
 if i4 < (a1.length:Int) then
 (qae (qc3 a1 b2 d3 i4) ([(v4a.wrap (i4+1))],0)).bind (fun n5 =>
 some (.next (n5,(v4a.wrap (i4+1)))))
 else
 some (.done d3)
def qen (a1:List UInt8) (b2:List UInt8):Option (Int) :=
 (qae (qc2 b2) ([],0)).bind (fun d3 =>
 (qae (qed a1 b2) (d3,0)).bind (fun d4 =>
 (idx d4 (b2.length:Int)).bind fun (x5:Int) =>
 some x5))
def qe2 (s1:List UInt8):Option (Bool) :=
 some (decide ((s1.length:Int) > 200))
def qb9 (q1:Int):(List UInt8×Int)→Option (LS (List UInt8×Int) (List UInt8)):=fun (w2,i3) =>
 if i3 < q1 then
 if 1+w2.length≤9223372036854775807 then
 if (w2.length+1)+1≤9223372036854775807 then
 some (.next ((([1]++w2)++[1]),(v4a.wrap (i3+1))))
 else none
 else none
 else
 some (.done w2)
def qeo:(List (List UInt8)×Int)→Option (LS (List (List UInt8)×Int) (List (List UInt8))):=fun (o1,k2) =>
 if k2 > 0 then
 (idx o1 k2).bind fun (x3:List UInt8) =>
 (idx o1 (v4a.wrap (k2 - 1))).bind fun (x4:List UInt8) =>
 if (Op.bytesLess x3 x4)=true then
 (idx (o1.set k2.toNat x4) (v4a.wrap (k2 - 1))).bind fun (x5:List UInt8) =>
 some (.next (((o1.set k2.toNat x4).set (v4a.wrap (k2 - 1)).toNat x3),(v4a.wrap (k2 - 1))))
 else
 some (.done o1)
 else
 some (.done o1)
def qgy (s1:List UInt8) (q2:Int) (w3:List UInt8):(List (List UInt8)×Int)→Option (LS (List (List UInt8)×Int) (List (List UInt8))):=fun (o4,i5) =>
 if (v4a.wrap (i5+q2))≤(w3.length:Int) then
 if i5 < (v4a.wrap ((v4a.wrap ((s1.length:Int)+q2)) - 1)) then
 if 0≤i5 then
 if i5≤(v4a.wrap (i5+q2)) then
 if (v4a.wrap (i5+q2))≤(w3.length:Int) then
 if qal (o4.length+1) 16=true then
 (qae qeo ((o4++[((w3.drop i5.toNat).take ((v4a.wrap (i5+q2)).toNat - i5.toNat))]),(v4a.wrap ((((o4.length+1):Nat):Int) - 1)))).bind (fun o6 =>
 some (.next (o6,(v4a.wrap (i5+1)))))
 else none
 else none
 else none
 else none
 else
 some (.done o4)
 else
 some (.done o4)
def qd8 (s1:List UInt8) (q2:Int):Option (List (List UInt8)×Int) :=
 (qe2 s1).bind fun (r3:Bool) =>
 if r3=true then
 some ([],3)
 else
 if q2 < 1 then
 some ([],7)
 else
 if q2 > 4 then
 some ([],7)
 else
 (qae (qb9 q2) (s1,1)).bind (fun w4 =>
 (qae (qgy s1 q2 w4) ([],0)).bind (fun o5 =>
 some (o5,0)))
def qdz (a1:List (List UInt8)) (b2:List (List UInt8)) (i3:Int):Int→Option (LS (Int) (Int)):=fun k4 =>
 if k4 < (b2.length:Int) then
 (idx b2 k4).bind fun (x5:List UInt8) =>
 (idx a1 i3).bind fun (x6:List UInt8) =>
 if (Op.bytesLess x5 x6)=true then
 some (.next (v4a.wrap (k4+1)))
 else
 some (.done k4)
 else
 some (.done k4)
def qct (a1:List (List UInt8)) (b2:List (List UInt8)):(Int×Int×Int)→Option (LS (Int×Int×Int) (Int)):=fun (n3,k4,i5) =>
 if i5 < (a1.length:Int) then
 (qae (qdz a1 b2 i5) k4).bind (fun k6 =>
 (show Option (Bool) from
 if k6 < (b2.length:Int) then
 (idx b2 k6).bind fun (x7:List UInt8) =>
 (idx a1 i5).bind fun (x8:List UInt8) =>
 some (x7 == x8)
 else
 some false).bind (fun t9 =>
 if t9=true then
 some (.next ((v4a.wrap (n3+1)),(v4a.wrap (k6+1)),(v4a.wrap (i5+1))))
 else
 some (.next (n3,k6,(v4a.wrap (i5+1))))))
 else
 some (.done n3)
def qi0 (a1:List (List UInt8)) (b2:List (List UInt8)):Option (Int) :=
 (qae (qct a1 b2) (0,0,0)).bind (fun n3 =>
 some n3)
def qi1 (a1:List UInt8) (b2:List UInt8) (q3:Int):Option (Ratio×Int) :=
 (qe2 a1).bind fun (r4:Bool) =>
 if r4=true then
 some ((Ratio.mk 0 0),3)
 else
 (qe2 b2).bind fun (r5:Bool) =>
 if r5=true then
 some ((Ratio.mk 0 0),3)
 else
 (qd8 a1 q3).bind fun (r6:List (List UInt8)×Int) =>
 (qd8 b2 q3).bind fun (r7:List (List UInt8)×Int) =>
 if (r6.2 != 0)=true then
 some ((Ratio.mk 0 0),r6.2)
 else
 if ((v4a.wrap ((r6.1.length:Int)+(r7.1.length:Int))) == 0)=true then
 (qez 1 1).bind fun (r8:Ratio) =>
 some (r8,0)
 else
 (qi0 r6.1 r7.1).bind fun (r9:Int) =>
 (qez (v4a.wrap (2 * r9)) (v4a.wrap ((r6.1.length:Int)+(r7.1.length:Int)))).bind fun (r10:Ratio) =>
 some (r10,0)
def qkp (s1:List UInt8) (n2:Int):Option (List UInt8) :=
 if (0:Int)≤(if (s1.length:Int) < n2 then (s1.length:Int) else n2) then
 if (if (s1.length:Int) < n2 then (s1.length:Int) else n2)≤(s1.length:Int) then
 some (s1.take ((if (s1.length:Int) < n2 then (s1.length:Int) else n2).toNat))
 else none
 else none
def qhk (x1:Row) (y2:Row) (c3:Similar):Option (Bool×Int) :=
 (qd6 x1 y2 c3).bind fun (r4:Int) =>
 if (r4 != 0)=true then
 some (false,r4)
 else
 (idx x1.Values c3.Attr).bind fun (x5:Value) =>
 (idx y2.Values c3.Attr).bind fun (x6:Value) =>
 (show Option (Bool) from
 if (x5.Kind != 2)=true then
 some true
 else
 if (x6.Kind != 2)=true then
 some true
 else
 some (c3.Measure == 1)).bind (fun t7 =>
 if t7=true then
 (qb5 x5 x6).bind fun (r8:Int) =>
 some ((r8 == 0),0)
 else
 if (c3.Measure == 2)=true then
 (qen x5.Str x6.Str).bind fun (r9:Int) =>
 some ((decide (r9≤c3.Limit)),0)
 else
 if (c3.Measure == 3)=true then
 (qi1 x5.Str x6.Str 2).bind fun (r10:Ratio×Int) =>
 some ((decide ((v4a.wrap (100 * r10.1.Num))≥(v4a.wrap (c3.Limit * r10.1.Den)))),0)
 else
 (qkp x5.Str c3.Limit).bind fun (r11:List UInt8) =>
 (qkp x6.Str c3.Limit).bind fun (r12:List UInt8) =>
 some ((r11 == r12),0))
def qep (x1:Row) (y2:Row) (l3:Linkage) (i4:Int):(Bool×Int)→Option (LS (Bool×Int) (Bool)):=fun (a5,k6) =>
 (idx l3.Rules i4).bind fun (x7:List Similar) =>
 if k6 < (x7.length:Int) then
 (idx x7 k6).bind fun (x8:Similar) =>
 (qhk x1 y2 x8).bind fun (r9:Bool×Int) =>
 if a5=true then
 some (.next (r9.1,(v4a.wrap (k6+1))))
 else
 some (.next (false,(v4a.wrap (k6+1))))
 else
 some (.done a5)
def qeq (x1:Row) (y2:Row) (l3:Linkage):Int→Option (LS (Int) ((Unit) ⊕ (Int))):=fun i4 =>
 if i4 < (l3.Rules.length:Int) then
 (qae (qep x1 y2 l3 i4) (true,0)).bind (fun a5 =>
 if a5=true then
 some (.done (.inr i4))
 else
 some (.next (v4a.wrap (i4+1))))
 else
 some (.done (.inl ()))
def qju (x1:Row) (y2:Row) (l3:Linkage):Option (Int) :=
 (qae (qeq x1 y2 l3) 0).bind (fun o=>match o with
 | .inl () =>
 some (-1)
 | .inr r4 =>
 some r4)
def qbu (a1:List Value) (b2:List Value):Int→Option (LS (Int) ((Unit) ⊕ (Int))):=fun i3 =>
 if i3 < (a1.length:Int) then
 if i3 < (b2.length:Int) then
 (idx a1 i3).bind fun (x4:Value) =>
 (idx b2 i3).bind fun (x5:Value) =>
 (qb5 x4 x5).bind fun (r6:Int) =>
 if (r6 != 0)=true then
 some (.done (.inr r6))
 else
 some (.next (v4a.wrap (i3+1)))
 else
 some (.done (.inl ()))
 else
 some (.done (.inl ()))
def qjv (a1:List Value) (b2:List Value):Option (Int) :=
 (qae (qbu a1 b2) 0).bind (fun o=>match o with
 | .inl () =>
 (qdr (a1.length:Int) (b2.length:Int)).bind fun (r3:Int) =>
 some r3
 | .inr r4 =>
 some r4)
def qi2 (a1:List Value) (b2:List Value):Option (Bool) :=
 (qjv a1 b2).bind fun (r3:Int) =>
 some (r3 == 0)
def qlq (s1:Int) (i2:Int):Option (Bool) :=
 if i2≥0 then
 if i2 < 32 then
 if i2 < 0 then none else
 some ((IntKind.u32.wrap ((BitVec.ofInt 32 (v30 s1 (2 ^ (min (i2).toNat 32))) &&& (1#32)).toNat:Int)) == 1)
 else
 some false
 else
 some false
def qfy (r1:Row) (s2:Int):(List Value×Int)→Option (LS (List Value×Int) (List Value)):=fun (o3,i4) =>
 if i4 < (r1.Values.length:Int) then
 (qlq s2 i4).bind fun (r5:Bool) =>
 if r5=true then
 (idx r1.Values i4).bind fun (x6:Value) =>
 if qal (o3.length+1) 32=true then
 some (.next ((o3++[x6]),(v4a.wrap (i4+1))))
 else none
 else
 some (.next (o3,(v4a.wrap (i4+1))))
 else
 some (.done o3)
def qgc (r1:Row) (s2:Int):Option (List Value) :=
 (qae (qfy r1 s2) ([],0)).bind (fun o3 =>
 some o3)
def qfr (a1:Row) (b2:Row) (s3:Int):Option (Bool) :=
 (qgc a1 s3).bind fun (r4:List Value) =>
 (qgc b2 s3).bind fun (r5:List Value) =>
 (qi2 r4 r5).bind fun (r6:Bool) =>
 some r6
def qc4 (x1:Row) (y2:Row) (l3:Linkage):Int→Option (LS (Int) ((Unit) ⊕ (Bool))):=fun i4 =>
 if i4 < (l3.Block.length:Int) then
 (idx l3.Block i4).bind fun (x5:Int) =>
 if x5 < 0 then none else
 (qfr x1 y2 (IntKind.u32.wrap (1 * 2 ^ (min (x5).toNat 32)))).bind fun (r6:Bool) =>
 if r6=true then
 some (.done (.inr true))
 else
 some (.next (v4a.wrap (i4+1)))
 else
 some (.done (.inl ()))
def qer (x1:Row) (y2:Row) (l3:Linkage):Option (Bool) :=
 if ((l3.Block.length:Int) == 0)=true then
 some true
 else
 (qae (qc4 x1 y2 l3) 0).bind (fun o=>match o with
 | .inl () =>
 some false
 | .inr r4 =>
 some r4)
def qfs (x1:Row) (y2:Row) (l3:Linkage):Option (Bool) :=
 if (x1.ID != y2.ID)=true then
 (qer x1 y2 l3).bind fun (r4:Bool) =>
 if r4=true then
 (qju x1 y2 l3).bind fun (r5:Int) =>
 some (decide (r5≥0))
 else
 some false
 else
 some false
def qbr (t1:Table) (l2:Linkage) (i3:Int):(List Arr2_int64×Int)→Option (LS (List Arr2_int64×Int) (List Arr2_int64)):=fun (o4,k5) =>
 if k5 < (t1.Rows.length:Int) then
 (idx t1.Rows i3).bind fun (x6:Row) =>
 (idx t1.Rows k5).bind fun (x7:Row) =>
 (qfs x6 x7 l2).bind fun (r8:Bool) =>
 if r8=true then
 if qal (o4.length+1) 16=true then
 some (.next ((o4++[(Arr2_int64.mk x6.ID x7.ID)]),(v4a.wrap (k5+1))))
 else none
 else
 some (.next (o4,(v4a.wrap (k5+1))))
 else
 some (.done o4)
def qe3 (t1:Table) (l2:Linkage):(List Arr2_int64×Int)→Option (LS (List Arr2_int64×Int) (List Arr2_int64)):=fun (o3,i4) =>
 if i4 < (t1.Rows.length:Int) then
 (qae (qbr t1 l2 i4) (o3,(v4a.wrap (i4+1)))).bind (fun o5 =>
 some (.next (o5,(v4a.wrap (i4+1)))))
 else
 some (.done o3)
def qfa (t1:Table) (l2:Linkage):Option (List Arr2_int64) :=
 (qae (qe3 t1 l2) ([],0)).bind (fun o3 =>
 some o3)
def qgd (l1:List Int) (i2:Int):Int→Option (LS (Int) ((Unit) ⊕ (Bool))):=fun i3 =>
 if i3 < (l1.length:Int) then
 (idx l1 i3).bind fun (x4:Int) =>
 if (x4 == i2)=true then
 some (.done (.inr true))
 else
 some (.next (v4a.wrap (i3+1)))
 else
 some (.done (.inl ()))
def qdl (l1:List Int) (i2:Int):Option (Bool) :=
 (qae (qgd l1 i2) 0).bind (fun o=>match o with
 | .inl () =>
 some false
 | .inr r3 =>
 some r3)
def qnm (l1:List Int):Int→Option (LS (Int) ((Unit) ⊕ (Bool))):=fun i2 =>
 if i2 < (l1.length:Int) then
 (idx l1 i2).bind fun (x3:Int) =>
 (idx l1 (v4a.wrap (i2 - 1))).bind fun (x4:Int) =>
 if x3≤x4 then
 some (.done (.inr false))
 else
 some (.next (v4a.wrap (i2+1)))
 else
 some (.done (.inl ()))
def qke (l1:List Int):Option (Bool) :=
 (qae (qnm l1) 1).bind (fun o=>match o with
 | .inl () =>
 some (decide ((l1.length:Int) > 0))
 | .inr r2 =>
 some r2)
def qfb (l1:List (List Int)) (a2:List Int) (i3:Int):Int→Option (LS (Int) ((Unit) ⊕ (Bool))):=fun k4 =>
 (idx l1 i3).bind fun (x5:List Int) =>
 if k4 < (x5.length:Int) then
 (idx x5 k4).bind fun (x6:Int) =>
 (qdl a2 x6).bind fun (r7:Bool) =>
 if r7=true then
 some (.done (.inr false))
 else
 some (.next (v4a.wrap (k4+1)))
 else
 some (.done (.inl ()))
def qds (l1:List (List Int)):(List Int×Int)→Option (LS (List Int×Int) ((Unit) ⊕ (Bool))):=fun (a2,i3) =>
 if i3 < (l1.length:Int) then
 (idx l1 i3).bind fun (x4:List Int) =>
 (qke x4).bind fun (r5:Bool) =>
 if r5=true then
 (qae (qfb l1 a2 i3) 0).bind (fun o=>match o with
 | .inl () =>
 if qal (a2.length+x4.length) 8=true then
 some (.next ((a2++x4),(v4a.wrap (i3+1))))
 else none
 | .inr r6 =>
 some (.done (.inr r6)))
 else
 some (.done (.inr false))
 else
 some (.done (.inl ()))
def qkq (l1:List (List Int)):Option (Bool) :=
 (qae (qds l1) ([],0)).bind (fun o=>match o with
 | .inl () =>
 some true
 | .inr r2 =>
 some r2)
def qfc (t1:Table) (i2:Int):Int→Option (LS (Int) ((Unit) ⊕ (Int×Bool))):=fun i3 =>
 if i3 < (t1.Rows.length:Int) then
 (idx t1.Rows i3).bind fun (x4:Row) =>
 if (x4.ID == i2)=true then
 some (.done (.inr (i3,true)))
 else
 some (.next (v4a.wrap (i3+1)))
 else
 some (.done (.inl ()))
def qkr (t1:Table) (i2:Int):Option (Int×Bool) :=
 (qae (qfc t1 i2) 0).bind (fun o=>match o with
 | .inl () =>
 some (0,false)
 | .inr r3 =>
 some r3)
def qhl (t1:Table) (l2:List (List Int)) (i3:Int):Int→Option (LS (Int) ((Unit) ⊕ (Bool))):=fun k4 =>
 (idx l2 i3).bind fun (x5:List Int) =>
 if k4 < (x5.length:Int) then
 (idx x5 k4).bind fun (x6:Int) =>
 (qkr t1 x6).bind fun (r7:Int×Bool) =>
 if r7.2=true then
 some (.next (v4a.wrap (k4+1)))
 else
 some (.done (.inr false))
 else
 some (.done (.inl ()))
def qhm (t1:Table) (l2:List (List Int)):(Int×Int)→Option (LS (Int×Int) ((Int) ⊕ (Bool))):=fun (n3,i4) =>
 if i4 < (l2.length:Int) then
 (idx l2 i4).bind fun (x5:List Int) =>
 (qae (qhl t1 l2 i4) 0).bind (fun o=>match o with
 | .inl () =>
 some (.next ((v4a.wrap (n3+(x5.length:Int))),(v4a.wrap (i4+1))))
 | .inr r6 =>
 some (.done (.inr r6)))
 else
 some (.done (.inl n3))
def qmq (t1:Table) (l2:List (List Int)):Option (Bool) :=
 (qkq l2).bind fun (r3:Bool) =>
 if r3=true then
 (qae (qhm t1 l2) (0,0)).bind (fun o=>match o with
 | .inl n4 =>
 some (n4 == (t1.Rows.length:Int))
 | .inr r5 =>
 some r5)
 else
 some false
def qmr (r1:Row):Option (Row) :=
 if qal r1.Values.length 32=true then
 some (Row.mk r1.ID r1.Values)
 else none
def qkf (r1:List Row):(List Row×Int)→Option (LS (List Row×Int) (List Row)):=fun (o2,i3) =>
 if i3 < (r1.length:Int) then
 (idx r1 i3).bind fun (x4:Row) =>
 (qmr x4).bind fun (r5:Row) =>
 if qal (o2.length+1) 32=true then
 some (.next ((o2++[r5]),(v4a.wrap (i3+1))))
 else none
 else
 some (.done o2)
def qks (t1:Table) (r2:List Row):Option (Table) :=
 if qal t1.Attrs.length 16=true then
 (qae (qkf r2) ([],0)).bind (fun o3 =>
 some (Table.mk t1.Name t1.Attrs o3))
 else none
def qkg (t1:Table) (i2:List Int):(List Row×Int)→Option (LS (List Row×Int) (List Row)):=fun (r3,i4) =>
 if i4 < (t1.Rows.length:Int) then
 (idx t1.Rows i4).bind fun (x5:Row) =>
 (qdl i2 x5.ID).bind fun (r6:Bool) =>
 if r6=true then
 if qal (r3.length+1) 32=true then
 some (.next ((r3++[x5]),(v4a.wrap (i4+1))))
 else none
 else
 some (.next (r3,(v4a.wrap (i4+1))))
 else
 some (.done r3)
def qi3 (t1:Table) (i2:List Int):Option (Table) :=
 (qae (qkg t1 i2) ([],0)).bind (fun r3 =>
 (qks t1 r3).bind fun (r4:Table) =>
 some r4)
def qes (l1:Linkage) (r2:Table) (i3:Int):(List Pair×Int)→Option (LS (List Pair×Int) (List Pair)):=fun (o4,k5) =>
 if k5 < (r2.Rows.length:Int) then
 (idx r2.Rows i3).bind fun (x6:Row) =>
 (idx r2.Rows k5).bind fun (x7:Row) =>
 (qfs x6 x7 l1).bind fun (r8:Bool) =>
 if r8=true then
 if qal (o4.length+1) 24=true then
 some (.next ((o4++[(Pair.mk i3 k5 1)]),(v4a.wrap (k5+1))))
 else none
 else
 if qal (o4.length+1) 24=true then
 some (.next ((o4++[(Pair.mk i3 k5 (-1))]),(v4a.wrap (k5+1))))
 else none
 else
 some (.done o4)
def qet (l1:Linkage) (r2:Table):(List Pair×Int)→Option (LS (List Pair×Int) (List Pair)):=fun (o3,i4) =>
 if i4 < (r2.Rows.length:Int) then
 (qae (qes l1 r2 i4) (o3,(v4a.wrap (i4+1)))).bind (fun o5 =>
 some (.next (o5,(v4a.wrap (i4+1)))))
 else
 some (.done o3)
def qjw (t1:Table) (l2:Linkage) (i3:List Int):Option (List Pair) :=
 (qi3 t1 i3).bind fun (r4:Table) =>
 (qae (qet l2 r4) ([],0)).bind (fun o5 =>
 some o5)
def qc9 (l1:List Pair) (i2:Int) (x3:Pair):Int→Option (LS (Int) ((Unit) ⊕ (Int))):=fun k4 =>
 if k4 < i2 then
 (idx l1 k4).bind fun (x5:Pair) =>
 if (x5.I == x3.I)=true then
 if (x5.K == x3.K)=true then
 some (.done (.inr 1))
 else
 some (.next (v4a.wrap (k4+1)))
 else
 some (.next (v4a.wrap (k4+1)))
 else
 some (.done (.inl ()))
def qgz (n1:Int) (l2:List Pair):Int→Option (LS (Int) ((Unit) ⊕ (Int))):=fun i3 =>
 if i3 < (l2.length:Int) then
 (idx l2 i3).bind fun (x4:Pair) =>
 if x4.I < 0 then
 some (.done (.inr 1))
 else
 if x4.I≥x4.K then
 some (.done (.inr 1))
 else
 if x4.K≥n1 then
 some (.done (.inr 1))
 else
 if x4.Weight < (-1000) then
 some (.done (.inr 1))
 else
 if x4.Weight > 1000 then
 some (.done (.inr 1))
 else
 (qae (qc9 l2 i3 x4) 0).bind (fun o=>match o with
 | .inl () =>
 some (.next (v4a.wrap (i3+1)))
 | .inr r5 =>
 some (.done (.inr r5)))
 else
 some (.done (.inl ()))
def qhn (n1:Int) (l2:List Pair):Option (Int) :=
 if n1 < 0 then
 some 7
 else
 if n1 > 200 then
 some 7
 else
 if (l2.length:Int) > 20000 then
 some 3
 else
 (qae (qgz n1 l2) 0).bind (fun o=>match o with
 | .inl () =>
 some 0
 | .inr r3 =>
 some r3)
def qfd (l1:List Pair) (l2:List Int):(Int×Int)→Option (LS (Int×Int) (Int)):=fun (s3,i4) =>
 if i4 < (l1.length:Int) then
 (idx l1 i4).bind fun (x5:Pair) =>
 (idx l2 x5.I).bind fun (x6:Int) =>
 (idx l2 x5.K).bind fun (x7:Int) =>
 (show Option (Bool) from
 if x5.Weight > 0 then
 some (!(x6 == x7))
 else
 some false).bind (fun t8 =>
 if t8=true then
 (show Option (Bool) from
 if x5.Weight < 0 then
 some (x6 == x7)
 else
 some false).bind (fun t9 =>
 if t9=true then
 some (.next ((v4a.wrap ((v4a.wrap (s3+x5.Weight)) - x5.Weight)),(v4a.wrap (i4+1))))
 else
 some (.next ((v4a.wrap (s3+x5.Weight)),(v4a.wrap (i4+1)))))
 else
 (show Option (Bool) from
 if x5.Weight < 0 then
 some (x6 == x7)
 else
 some false).bind (fun t10 =>
 if t10=true then
 some (.next ((v4a.wrap (s3 - x5.Weight)),(v4a.wrap (i4+1))))
 else
 some (.next (s3,(v4a.wrap (i4+1))))))
 else
 some (.done s3)
def qg0 (l1:List Pair) (l2:List Int):Option (Int) :=
 (qae (qfd l1 l2) (0,0)).bind (fun s3 =>
 some s3)
def qfe (o1:List (List Int)) (k2:Int):(Int×Int)→Option (LS (Int×Int) (Int)):=fun (m3,j4) =>
 (idx o1 k2).bind fun (x5:List Int) =>
 if j4 < (x5.length:Int) then
 (idx x5 j4).bind fun (x6:Int) =>
 some (.next ((if x6 > m3 then x6 else m3),(v4a.wrap (j4+1))))
 else
 some (.done m3)
def qff (o1:List (List Int)) (k2:Int) (m3:Int):(List (List Int)×Int)→Option (LS (List (List Int)×Int) (List (List Int))):=fun (m4,l5) =>
 if l5≤(v4a.wrap (m3+1)) then
 (idx o1 k2).bind fun (x6:List Int) =>
 if qal x6.length 8=true then
 if qal (x6.length+1) 8=true then
 if qal (m4.length+1) 24=true then
 some (.next ((m4++[(x6++[l5])]),(v4a.wrap (l5+1))))
 else none
 else none
 else none
 else
 some (.done m4)
def qfg (o1:List (List Int)):(List (List Int)×Int)→Option (LS (List (List Int)×Int) (List (List Int))):=fun (m2,k3) =>
 if k3 < (o1.length:Int) then
 (qae (qfe o1 k3) ((-1),0)).bind (fun m4 =>
 (qae (qff o1 k3 m4) (m2,0)).bind (fun m5 =>
 some (.next (m5,(v4a.wrap (k3+1))))))
 else
 some (.done m2)
def qfh (n1:Int):(List (List Int)×Int)→Option (LS (List (List Int)×Int) (List (List Int))):=fun (o2,i3) =>
 if i3 < n1 then
 (qae (qfg o2) ([],0)).bind (fun m4 =>
 some (.next (m4,(v4a.wrap (i3+1)))))
 else
 some (.done o2)
def qlr (n1:Int):Option (List (List Int)) :=
 (some ([[]]:List (List Int))).bind fun (l2:List (List Int)) =>
 (qae (qfh n1) (l2,0)).bind (fun o3 =>
 some o3)
def qca (l1:List Pair) (r2:List (List Int)):(List Int×Int)→Option (LS (List Int×Int) (List Int)):=fun (b3,i4) =>
 if i4 < (r2.length:Int) then
 (idx r2 i4).bind fun (x5:List Int) =>
 (qg0 l1 x5).bind fun (r6:Int) =>
 (qg0 l1 b3).bind fun (r7:Int) =>
 if r6 < r7 then
 some (.next (x5,(v4a.wrap (i4+1))))
 else
 some (.next (b3,(v4a.wrap (i4+1))))
 else
 some (.done b3)
def qfi (n1:Int) (l2:List Pair):Option (List Int×Int×Int) :=
 (qhn n1 l2).bind fun (r3:Int) =>
 if (r3 != 0)=true then
 some ([],0,r3)
 else
 if n1 > 10 then
 some ([],0,3)
 else
 (qlr n1).bind fun (r4:List (List Int)) =>
 (r4[0]?).bind fun (x5:List Int) =>
 (qae (qca l2 r4) (x5,1)).bind (fun b6 =>
 (qg0 l2 b6).bind fun (r7:Int) =>
 some (b6,r7,0))
def qbc (r1:List Arr2_int64):(List Int×Bool×Int)→Option (LS (List Int×Bool×Int) (List Int×Bool)):=fun (g2,g3,k4) =>
 if k4 < (r1.length:Int) then
 (idx r1 k4).bind fun (x5:Arr2_int64) =>
 (qdl g2 x5.x0).bind fun (r6:Bool) =>
 (qdl g2 x5.x1).bind fun (r7:Bool) =>
 (show Option (Bool) from
 if r6=true then
 some (!r7)
 else
 some false).bind (fun t8 =>
 if t8=true then
 if qal (g2.length+1) 8=true then
 (show Option (Bool) from
 if r7=true then
 some (!r6)
 else
 some false).bind (fun t9 =>
 if t9=true then
 if qal ((g2.length+1)+1) 8=true then
 some (.next (((g2++[x5.x1])++[x5.x0]),true,(v4a.wrap (k4+1))))
 else none
 else
 some (.next ((g2++[x5.x1]),true,(v4a.wrap (k4+1)))))
 else none
 else
 (show Option (Bool) from
 if r7=true then
 some (!r6)
 else
 some false).bind (fun t10 =>
 if t10=true then
 if qal (g2.length+1) 8=true then
 some (.next ((g2++[x5.x0]),true,(v4a.wrap (k4+1))))
 else none
 else
 some (.next (g2,g3,(v4a.wrap (k4+1))))))
 else
 some (.done (g2,g3))
def qb0 (r1:List Arr2_int64):(List Int×Bool)→Option (LS (List Int×Bool) (List Int)):=fun (g2,g3) =>
 if g3=true then
 (qae (qbc r1) (g2,false,0)).bind (fun (g4,g5) =>
 some (.next (g4,g5)))
 else
 some (.done g2)
def qb1 (t1:Table) (g2:List Int):(List Int×Int)→Option (LS (List Int×Int) (List Int)):=fun (i3,k4) =>
 if k4 < (t1.Rows.length:Int) then
 (idx t1.Rows k4).bind fun (x5:Row) =>
 (qdl g2 x5.ID).bind fun (r6:Bool) =>
 if r6=true then
 if qal (i3.length+1) 8=true then
 some (.next ((i3++[x5.ID]),(v4a.wrap (k4+1))))
 else none
 else
 some (.next (i3,(v4a.wrap (k4+1))))
 else
 some (.done i3)
def qb2 (t1:Table) (r2:List Arr2_int64):(List (List Int)×List Int×Int)→Option (LS (List (List Int)×List Int×Int) (List (List Int))):=fun (o3,d4,i5) =>
 if i5 < (t1.Rows.length:Int) then
 (idx t1.Rows i5).bind fun (x6:Row) =>
 (qdl d4 x6.ID).bind fun (r7:Bool) =>
 if r7=true then
 some (.next (o3,d4,(v4a.wrap (i5+1))))
 else
 (qae (qb0 r2) ([x6.ID],true)).bind (fun g8 =>
 if qal (d4.length+g8.length) 8=true then
 (qae (qb1 t1 g8) ([],0)).bind (fun i9 =>
 if qal (o3.length+1) 24=true then
 some (.next ((o3++[i9]),(d4++g8),(v4a.wrap (i5+1))))
 else none)
 else none)
 else
 some (.done o3)
def qe4 (t1:Table) (l2:Linkage):Option (List (List Int)) :=
 (qfa t1 l2).bind fun (r3:List Arr2_int64) =>
 (qae (qb2 t1 r3) ([],[],0)).bind (fun o4 =>
 some o4)
def qcu (l1:List Pair) (i2:Int) (k3:Int):Int→Option (LS (Int) ((Unit) ⊕ (Int×Bool))):=fun m4 =>
 if m4 < (l1.length:Int) then
 (show Option (Bool) from
 (idx l1 m4).bind fun (x5:Pair) =>
 if (x5.I == i2)=true then
 some (x5.K == k3)
 else
 some false).bind (fun t6 =>
 if t6=true then
 (idx l1 m4).bind fun (x7:Pair) =>
 some (.done (.inr (x7.Weight,true)))
 else
 some (.next (v4a.wrap (m4+1))))
 else
 some (.done (.inl ()))
def qge (l1:List Pair) (i2:Int) (k3:Int):Option (Int×Bool) :=
 (qae (qcu l1 i2 k3) 0).bind (fun o=>match o with
 | .inl () =>
 some (0,false)
 | .inr r4 =>
 some r4)
def qg1 (n1:Int):(List Int×Int)→Option (LS (List Int×Int) (List Int)):=fun (l2,i3) =>
 if i3 < n1 then
 (idx l2 i3).bind fun (x4:Int) =>
 some (.next ((l2.set i3.toNat (-1)),(v4a.wrap (i3+1))))
 else
 some (.done l2)
def qda (n1:Int) (l2:List Pair) (n3:Int) (i4:Int):(List Int×Int)→Option (LS (List Int×Int) (List Int)):=fun (l5,k6) =>
 if k6 < n1 then
 (qge l2 i4 k6).bind fun (r7:Int×Bool) =>
 (show Option (Bool) from
 if r7.1 > 0 then
 (idx l5 k6).bind fun (x8:Int) =>
 some (decide (x8 < 0))
 else
 some false).bind (fun t9 =>
 if t9=true then
 (idx l5 k6).bind fun (x10:Int) =>
 some (.next ((l5.set k6.toNat n3),(v4a.wrap (k6+1))))
 else
 some (.next (l5,(v4a.wrap (k6+1)))))
 else
 some (.done l5)
def qeu (n1:Int) (l2:List Pair):(List Int×Int×Int)→Option (LS (List Int×Int×Int) (List Int)):=fun (l3,n4,i5) =>
 if i5 < n1 then
 (idx l3 i5).bind fun (x6:Int) =>
 if x6≥0 then
 some (.next (l3,n4,(v4a.wrap (i5+1))))
 else
 (qae (qda n1 l2 n4 i5) ((l3.set i5.toNat n4),(v4a.wrap (i5+1)))).bind (fun l7 =>
 some (.next (l7,(v4a.wrap (n4+1)),(v4a.wrap (i5+1)))))
 else
 some (.done l3)
def qho (n1:Int) (l2:List Pair):Option (List Int×Int) :=
 (qhn n1 l2).bind fun (r3:Int) =>
 if (r3 != 0)=true then
 some ([],r3)
 else
 if 0≤n1 then
 if qal (n1).toNat 8=true then
 (qae (qg1 n1) ((v01 (n1).toNat 0),0)).bind (fun l4 =>
 (qae (qeu n1 l2) (l4,0,0)).bind (fun l5 =>
 some (l5,0)))
 else none
 else none
def qcv (l1:List Int) (o2:List Int) (i3:Int):(Int×Int)→Option (LS (Int×Int) (Int)):=fun (l4,k5) =>
 if k5 < i3 then
 (idx l1 k5).bind fun (x6:Int) =>
 (idx l1 i3).bind fun (x7:Int) =>
 if (x6 == x7)=true then
 (idx o2 k5).bind fun (x8:Int) =>
 some (.next (x8,(v4a.wrap (k5+1))))
 else
 some (.next (l4,(v4a.wrap (k5+1))))
 else
 some (.done l4)
def qcw (l1:List Int):(List Int×Int×Int)→Option (LS (List Int×Int×Int) (List Int)):=fun (o2,n3,i4) =>
 if i4 < (l1.length:Int) then
 (qae (qcv l1 o2 i4) ((-1),0)).bind (fun l5 =>
 if l5 < 0 then
 if qal (o2.length+1) 8=true then
 some (.next ((o2++[n3]),(v4a.wrap (n3+1)),(v4a.wrap (i4+1))))
 else none
 else
 if qal (o2.length+1) 8=true then
 some (.next ((o2++[l5]),n3,(v4a.wrap (i4+1))))
 else none)
 else
 some (.done o2)
def qi4 (l1:List Int):Option (List Int) :=
 (qae (qcw l1) ([],0,0)).bind (fun o2 =>
 some o2)
def qcx (r1:List Int):(List (List Int)×Int)→Option (LS (List (List Int)×Int) (List (List Int))):=fun (o2,i3) =>
 if i3 < (r1.length:Int) then
 (idx r1 i3).bind fun (x4:Int) =>
 if (x4 == ((o2.length:Nat):Int))=true then
 if qal (o2.length+1) 24=true then
 (idx (o2++[[]]) x4).bind fun (x5:List Int) =>
 if qal (x5.length+1) 8=true then
 some (.next (((o2++[[]]).set x4.toNat (x5++[i3])),(v4a.wrap (i3+1))))
 else none
 else none
 else
 (idx o2 x4).bind fun (x6:List Int) =>
 if qal (x6.length+1) 8=true then
 some (.next ((o2.set x4.toNat (x6++[i3])),(v4a.wrap (i3+1))))
 else none
 else
 some (.done o2)
def qgf (l1:List Int):Option (List (List Int)) :=
 (qi4 l1).bind fun (r2:List Int) =>
 (qae (qcx r2) ([],0)).bind (fun o3 =>
 some o3)
def qcj (x1:List Int) (r2:List (List Int)) (k3:Int):(List Int×Int)→Option (LS (List Int×Int) (List Int)):=fun (c4,j5) =>
 (idx r2 k3).bind fun (x6:List Int) =>
 if j5 < (x6.length:Int) then
 (idx x6 j5).bind fun (x7:Int) =>
 (idx x1 x7).bind fun (x8:Int) =>
 if qal (c4.length+1) 8=true then
 some (.next ((c4++[x8]),(v4a.wrap (j5+1))))
 else none
 else
 some (.done c4)
def qbv:(List (List Int)×Int)→Option (LS (List (List Int)×Int) (List (List Int))):=fun (o1,j2) =>
 if j2 > 0 then
 (idx o1 j2).bind fun (x3:List Int) =>
 (x3[0]?).bind fun (x4:Int) =>
 (idx o1 (v4a.wrap (j2 - 1))).bind fun (x5:List Int) =>
 (x5[0]?).bind fun (x6:Int) =>
 if x4 < x6 then
 (idx (o1.set j2.toNat x5) (v4a.wrap (j2 - 1))).bind fun (x7:List Int) =>
 some (.next (((o1.set j2.toNat x5).set (v4a.wrap (j2 - 1)).toNat x3),(v4a.wrap (j2 - 1))))
 else
 some (.done o1)
 else
 some (.done o1)
def qck (x1:List Int) (r2:List (List Int)):(List (List Int)×Int)→Option (LS (List (List Int)×Int) (List (List Int))):=fun (o3,k4) =>
 if k4 < (r2.length:Int) then
 (qae (qcj x1 r2 k4) ([],0)).bind (fun c5 =>
 if qal (o3.length+1) 24=true then
 (qae qbv ((o3++[c5]),(v4a.wrap ((((o3.length+1):Nat):Int) - 1)))).bind (fun o6 =>
 some (.next (o6,(v4a.wrap (k4+1)))))
 else none)
 else
 some (.done o3)
def qms (x1:List Int) (r2:List (List Int)) (k3:Int):(List Int×Int)→Option (LS (List Int×Int) (List Int)):=fun (c4,j5) =>
 (idx r2 k3).bind fun (x6:List Int) =>
 if j5 < (x6.length:Int) then
 (idx x6 j5).bind fun (x7:Int) =>
 (idx x1 x7).bind fun (x8:Int) =>
 if qal (c4.length+1) 8=true then
 some (.next ((c4++[x8]),(v4a.wrap (j5+1))))
 else none
 else
 some (.done c4)
def qmt:(List (List Int)×Int)→Option (LS (List (List Int)×Int) (List (List Int))):=fun (o1,j2) =>
 if j2 > 0 then
 (idx o1 j2).bind fun (x3:List Int) =>
 (x3[0]?).bind fun (x4:Int) =>
 (idx o1 (v4a.wrap (j2 - 1))).bind fun (x5:List Int) =>
 (x5[0]?).bind fun (x6:Int) =>
 if x4 < x6 then
 (idx (o1.set j2.toNat x5) (v4a.wrap (j2 - 1))).bind fun (x7:List Int) =>
 some (.next (((o1.set j2.toNat x5).set (v4a.wrap (j2 - 1)).toNat x3),(v4a.wrap (j2 - 1))))
 else
 some (.done o1)
 else
 some (.done o1)
def qmu (x1:List Int) (r2:List (List Int)):(List (List Int)×Int)→Option (LS (List (List Int)×Int) (List (List Int))):=fun (o3,k4) =>
 if k4 < (r2.length:Int) then
 (qae (qms x1 r2 k4) ([],0)).bind (fun c5 =>
 if qal (o3.length+1) 24=true then
 (qae qmt ((o3++[c5]),(v4a.wrap ((((o3.length+1):Nat):Int) - 1)))).bind (fun o6 =>
 some (.next (o6,(v4a.wrap (k4+1)))))
 else none)
 else
 some (.done o3)
def qdt (t1:Table) (l2:Linkage) (r3:List (List Int)):(List (List Int)×Int)→Option (LS (List (List Int)×Int) (List (List Int))):=fun (o4,i5) =>
 if i5 < (r3.length:Int) then
 (idx r3 i5).bind fun (x6:List Int) =>
 (qjw t1 l2 x6).bind fun (r7:List Pair) =>
 (qho (x6.length:Int) r7).bind fun (r8:List Int×Int) =>
 if (x6.length:Int)≤10 then
 (qfi (x6.length:Int) r7).bind fun (r9:List Int×Int×Int) =>
 (qgf r9.1).bind fun (r10:List (List Int)) =>
 (qae (qck x6 r10) (o4,0)).bind (fun o11 =>
 some (.next (o11,(v4a.wrap (i5+1)))))
 else
 (qgf r8.1).bind fun (r12:List (List Int)) =>
 (qae (qmu x6 r12) (o4,0)).bind (fun o13 =>
 some (.next (o13,(v4a.wrap (i5+1)))))
 else
 some (.done o4)
def qg2 (t1:Table) (l2:Linkage):Option (List (List Int)) :=
 (qe4 t1 l2).bind fun (r3:List (List Int)) =>
 (qae (qdt t1 l2 r3) ([],0)).bind (fun o4 =>
 some o4)
def qcl (s1:List Row) (f2:Row→Option (Bool)):Int→Option (LS (Int) ((Unit) ⊕ (Int))):=fun t3 =>
 if t3 < (s1.length:Int) then
 (idx s1 t3).bind fun (x4:Row) =>
 (f2 x4).bind fun (r5:Bool) =>
 if r5=true then
 some (.done (.inr t3))
 else
 some (.next (v4a.wrap (t3+1)))
 else
 some (.done (.inl ()))
def qd0 (s1:List Row) (f2:Row→Option (Bool)):Option (Int) :=
 (qae (qcl s1 f2) 0).bind (fun o=>match o with
 | .inl () =>
 some (-1)
 | .inr r3 =>
 some r3)
def qgg (c1:Int):Option (Bool) :=
 if c1≥97 then
 if c1≤122 then
 some true
 else
 if c1≥65 then
 if c1≤90 then
 some true
 else
 some (c1 == 95)
 else
 some (c1 == 95)
 else
 if c1≥65 then
 if c1≤90 then
 some true
 else
 some (c1 == 95)
 else
 some (c1 == 95)
def qfj (s1:List UInt8):Int→Option (LS (Int) ((Unit) ⊕ (Bool))):=fun i2 =>
 if i2 < (s1.length:Int) then
 (idx s1 i2).bind fun (c3:UInt8) =>
 (qgg ((c3.toNat:Nat):Int)).bind fun (r4:Bool) =>
 if r4=true then
 some (.next (v4a.wrap (i2+1)))
 else
 if ((c3.toNat:Nat):Int) < 48 then
 some (.done (.inr false))
 else
 if ((c3.toNat:Nat):Int) > 57 then
 some (.done (.inr false))
 else
 some (.next (v4a.wrap (i2+1)))
 else
 some (.done (.inl ()))
def qi5 (s1:List UInt8):Option (Bool) :=
 if ((s1.length:Int) == 0)=true then
 some false
 else
 if (s1.length:Int) > 24 then
 some false
 else
 (s1[0]?).bind fun (c2:UInt8) =>
 (qgg ((c2.toNat:Nat):Int)).bind fun (r3:Bool) =>
 if r3=true then
 if (s1 == [110,117,108,108])=true then
 some false
 else
 (qae (qfj s1) 0).bind (fun o=>match o with
 | .inl () =>
 some true
 | .inr r4 =>
 some r4)
 else
 some false
def qfk (l1:List (List UInt8)) (n2:List UInt8):Int→Option (LS (Int) ((Unit) ⊕ (Int))):=fun i3 =>
 if i3 < (l1.length:Int) then
 (idx l1 i3).bind fun (x4:List UInt8) =>
 if (x4 == n2)=true then
 some (.done (.inr i3))
 else
 some (.next (v4a.wrap (i3+1)))
 else
 some (.done (.inl ()))
def qi6 (l1:List (List UInt8)) (n2:List UInt8):Option (Int) :=
 (qae (qfk l1 n2) 0).bind (fun o=>match o with
 | .inl () =>
 some (-1)
 | .inr r3 =>
 some r3)
def qev (l1:List (List UInt8)):Int→Option (LS (Int) ((Unit) ⊕ (Bool))):=fun i2 =>
 if i2 < (l1.length:Int) then
 (idx l1 i2).bind fun (x3:List UInt8) =>
 (qi5 x3).bind fun (r4:Bool) =>
 if r4=true then
 if (0:Int)≤i2 then
 if i2≤(l1.length:Int) then
 (qi6 (l1.take (i2.toNat)) x3).bind fun (r5:Int) =>
 if r5≥0 then
 some (.done (.inr false))
 else
 some (.next (v4a.wrap (i2+1)))
 else none
 else none
 else
 some (.done (.inr false))
 else
 some (.done (.inl ()))
def qjx (l1:List (List UInt8)):Option (Bool) :=
 (qae (qev l1) 0).bind (fun o=>match o with
 | .inl () =>
 some true
 | .inr r2 =>
 some r2)
def qd1 (l1:List Value):Int→Option (LS (Int) ((Unit) ⊕ (Bool))):=fun i2 =>
 if i2 < (l1.length:Int) then
 (idx l1 i2).bind fun (x3:Value) =>
 (qfp x3).bind fun (r4:Bool) =>
 if r4=true then
 some (.next (v4a.wrap (i2+1)))
 else
 some (.done (.inr false))
 else
 some (.done (.inl ()))
def qi7 (l1:List Value):Option (Bool) :=
 (qae (qd1 l1) 0).bind (fun o=>match o with
 | .inl () =>
 some true
 | .inr r2 =>
 some r2)
def qg3 (t1:Table):(Int×Int)→Option (LS (Int×Int) ((Unit) ⊕ (Int))):=fun (b2,i3) =>
 if i3 < (t1.Rows.length:Int) then
 (idx t1.Rows i3).bind fun (x4:Row) =>
 if x4.ID≤b2 then
 some (.done (.inr 1))
 else
 if ((x4.Values.length:Int) != (t1.Attrs.length:Int))=true then
 some (.done (.inr 6))
 else
 (qi7 x4.Values).bind fun (r5:Bool) =>
 if r5=true then
 some (.next (x4.ID,(v4a.wrap (i3+1))))
 else
 some (.done (.inr 1))
 else
 some (.done (.inl ()))
def qjy (t1:Table):Option (Int) :=
 (qi5 t1.Name).bind fun (r2:Bool) =>
 if r2=true then
 if (t1.Attrs.length:Int) > 16 then
 some 3
 else
 if (t1.Rows.length:Int) > 1000 then
 some 3
 else
 (qjx t1.Attrs).bind fun (r3:Bool) =>
 if r3=true then
 (qae (qg3 t1) (0,0)).bind (fun o=>match o with
 | .inl () =>
 some 0
 | .inr r4 =>
 some r4)
 else
 some 1
 else
 some 1
def qfl (r1:Int):Option (Bool) :=
 if r1≥1 then
 some (decide (r1≤5))
 else
 some false
def qhp (r1:Int):Option (Bool) :=
 (qfl r1).bind fun (r2:Bool) =>
 some (!r2)
def qcb (l1:List Int):Int→Option (LS (Int) ((Unit) ⊕ (Bool))):=fun i2 =>
 if i2 < (l1.length:Int) then
 (idx l1 i2).bind fun (x3:Int) =>
 (idx l1 (v4a.wrap (i2 - 1))).bind fun (x4:Int) =>
 if x3≤x4 then
 some (.done (.inr false))
 else
 some (.next (v4a.wrap (i2+1)))
 else
 some (.done (.inl ()))
def qh3 (l1:List Int):Option (Bool) :=
 (qae (qcb l1) 1).bind (fun o=>match o with
 | .inl () =>
 some (decide ((l1.length:Int) > 0))
 | .inr r2 =>
 some r2)
def qd2 (x1:List Int):((List (Int×Bool))×Int)→Option (LS ((List (Int×Bool))×Int) (((List (Int×Bool))) ⊕ ((List (Int×Bool))×Bool))):=fun (s2,t3) =>
 if t3 < (x1.length:Int) then
 (idx x1 t3).bind fun (x4:Int) =>
 if ((qq7 s2 x4).getD false)=true then
 some (.done (.inr ([],false)))
 else
 some (.next ((qyo s2 x4 true),(v4a.wrap (t3+1))))
 else
 some (.done (.inl s2))
def qcy (c1:List (List Int)):((List (Int×Bool))×Int)→Option (LS ((List (Int×Bool))×Int) (((List (Int×Bool))) ⊕ ((List (Int×Bool))×Bool))):=fun (s2,t3) =>
 if t3 < (c1.length:Int) then
 (idx c1 t3).bind fun (x4:List Int) =>
 (qh3 x4).bind fun (r5:Bool) =>
 if r5=true then
 (qae (qd2 x4) (s2,0)).bind (fun o=>match o with
 | .inl s6 =>
 some (.next (s6,(v4a.wrap (t3+1))))
 | .inr r7 =>
 some (.done (.inr r7)))
 else
 some (.done (.inr ([],false)))
 else
 some (.done (.inl s2))
def qi8 (c1:List (List Int)):Option ((List (Int×Bool))×Bool) :=
 (qae (qcy c1) ([],0)).bind (fun o=>match o with
 | .inl s2 =>
 some (s2,true)
 | .inr r3 =>
 some r3)
def qdu (s1:List Row) (f2:Row→Option (Bool)):Option (Bool) :=
 (qd0 s1 f2).bind fun (r3:Int) =>
 some (decide (r3≥0))
def qfm (r1:Row) (c2:List (Int×Bool)):Option (Bool) :=
 some (!((qq7 c2 r1.ID).getD false))
def qjz (t1:Table) (c2:List (List Int)):Option (Bool) :=
 (qi8 c2).bind fun (r3:(List (Int×Bool))×Bool) =>
 if r3.2=true then
 if ((r3.1.length:Int) != (t1.Rows.length:Int))=true then
 some false
 else
 (qdu t1.Rows (fun (y4:Row)=>qfm y4 r3.1)).bind fun (r5:Bool) =>
 some (!r5)
 else
 some false
def qa0 (a1:List Int) (b2:List Int):Option (Int) :=
 (a1[0]?).bind fun (x3:Int) =>
 (b2[0]?).bind fun (x4:Int) =>
 (qek x3 x4).bind fun (r5:Int) =>
 some r5
def qg4 (l:List (List UInt8)):Option (List (List UInt8)):=if qal l.length 16=true then some l else none
def qdh (r1:List Row):Int→Option (LS (Int) ((Unit) ⊕ (Int))):=fun t2 =>
 if t2 < (r1.length:Int) then
 (idx r1 t2).bind fun (x3:Row) =>
 (r1[0]?).bind fun (x4:Row) =>
 if ((x3.Values.length:Int) != (x4.Values.length:Int))=true then
 some (.done (.inr 6))
 else
 some (.next (v4a.wrap (t2+1)))
 else
 some (.done (.inl ()))
def qh4 (r1:List Row):Option (Int) :=
 if ((r1.length:Int) == 0)=true then
 some 12
 else
 (qae (qdh r1) 0).bind (fun o=>match o with
 | .inl () =>
 some 0
 | .inr r2 =>
 some r2)
def qc5 (v1:Value):Option (Bool) :=
 (qkj v1).bind fun (r2:Bool) =>
 some (!r2)
def qcm (r1:List Row):(Int×Int)→Option (LS (Int×Int) ((Unit) ⊕ (Int))):=fun (l2,t3) =>
 if t3 < (r1.length:Int) then
 (idx r1 t3).bind fun (x4:Row) =>
 if x4.ID≤l2 then
 some (.done (.inr 1))
 else
 (qbk x4.Values (fun (y5:Value)=>qc5 y5)).bind fun (r6:Bool) =>
 if r6=true then
 some (.done (.inr 1))
 else
 some (.next (x4.ID,(v4a.wrap (t3+1))))
 else
 some (.done (.inl ()))
def qfz (r1:List Row):Option (Int) :=
 (qae (qcm r1) (0,0)).bind (fun o=>match o with
 | .inl () =>
 some 0
 | .inr r2 =>
 some r2)
def qhq (r1:Int):Option (Bool) :=
 (qfl r1).bind fun (r2:Bool) =>
 some (!r2)
def qgh (l1:List Value) (v2:Value):(Int×Int)→Option (LS (Int×Int) (Int)):=fun (n3,t4) =>
 if t4 < (l1.length:Int) then
 (idx l1 t4).bind fun (x5:Value) =>
 if ((x5.Kind == v2.Kind) && ((x5.Num == v2.Num) && (x5.Str == v2.Str)))=true then
 some (.next ((v4a.wrap (n3+1)),(v4a.wrap (t4+1))))
 else
 some (.next (n3,(v4a.wrap (t4+1))))
 else
 some (.done n3)
def qka (l1:List Value) (v2:Value):Option (Int) :=
 (qae (qgh l1 v2) (0,0)).bind (fun n3 =>
 some n3)
def qc8 (v1:List Int):Int→Option (LS (Int) ((Unit) ⊕ (Int))):=fun t2 =>
 if t2 < (v1.length:Int) then
 (idx v1 t2).bind fun (x3:Int) =>
 if (x3 != 0)=true then
 some (.done (.inr x3))
 else
 some (.next (v4a.wrap (t2+1)))
 else
 some (.done (.inl ()))
def qrb (v1:List Int):Option (Int) :=
 (qae (qc8 v1) 0).bind (fun o=>match o with
 | .inl () =>
 some 0
 | .inr r2 =>
 some r2)
def qkt (x1:Int) (y2:Int):Option (Int) :=
 (qmk x1).bind fun (r3:Bool) =>
 (qmk y2).bind fun (r4:Bool) =>
 if r3=true then
 if r4=true then
 some 0
 else
 some (-1)
 else
 if r4=true then
 some 1
 else
 if x1 < y2 then
 some (-1)
 else
 if x1 > y2 then
 some 1
 else
 some 0
def qk5 (a1:Value) (b2:Value):Option (Int) :=
 (qkt a1.Kind b2.Kind).bind fun (r3:Int) =>
 (qek a1.Num b2.Num).bind fun (r4:Int) =>
 (qim a1.Str b2.Str).bind fun (r5:Int) =>
 (qrb [r3,r4,r5]).bind fun (r6:Int) =>
 some r6
def qi9 (l1:List Value) (v2:Value) (b3:Value) (r4:Int):Option (Bool) :=
 if (r4 == 2)=true then
 (qka l1 v2).bind fun (r5:Int) =>
 (qka l1 b3).bind fun (r6:Int) =>
 some (decide (r5 > r6))
 else
 if (r4 == 3)=true then
 if (v2.Kind == 2)=true then
 if (b3.Kind != 2)=true then
 some true
 else
 some (decide ((v2.Str.length:Int) > (b3.Str.length:Int)))
 else
 some false
 else
 if (r4 == 4)=true then
 (qk5 v2 b3).bind fun (r7:Int) =>
 some (decide (r7 < 0))
 else
 if (r4 == 5)=true then
 (qk5 v2 b3).bind fun (r8:Int) =>
 some (decide (r8 > 0))
 else
 some false
def qgi (r1:Row) (c2:Int) (c3:Value):Option (Bool) :=
 (idx r1.Values c2).bind fun (x4:Value) =>
 some ((x4.Kind == c3.Kind) && ((x4.Num == c3.Num) && (x4.Str == c3.Str)))
def qh5 (r1:List Row) (a2:Int):(List Value×Int)→Option (LS (List Value×Int) (List Value)):=fun (l3,t4) =>
 if t4 < (r1.length:Int) then
 (idx r1 t4).bind fun (x5:Row) =>
 (idx x5.Values a2).bind fun (x6:Value) =>
 if (x6.Kind != 0)=true then
 if qal (l3.length+1) 32=true then
 some (.next ((l3++[x6]),(v4a.wrap (t4+1))))
 else none
 else
 some (.next (l3,(v4a.wrap (t4+1))))
 else
 some (.done l3)
def qh6 (r1:Int) (l2:List Value):(Value×Int)→Option (LS (Value×Int) (Value)):=fun (b3,t4) =>
 if t4 < (((l2.length - 1):Nat):Int) then
 (idx ((l2.drop 1).take (l2.length - 1)) t4).bind fun (x5:Value) =>
 (qi9 l2 x5 b3 r1).bind fun (r6:Bool) =>
 if r6=true then
 some (.next (x5,(v4a.wrap (t4+1))))
 else
 some (.next (b3,(v4a.wrap (t4+1))))
 else
 some (.done b3)
def qku (r1:List Row) (a2:Int) (r3:Int):Option (Value×Int) :=
 (qae (qh5 r1 a2) ([],0)).bind (fun l4 =>
 if (((l4.length:Nat):Int) == 0)=true then
 (r1[0]?).bind fun (x5:Row) =>
 some ((Value.mk 0 0 []),x5.ID)
 else
 (l4[0]?).bind fun (x6:Value) =>
 if (1:Int)≤((l4.length:Nat):Int) then
 (qae (qh6 r3 l4) (x6,0)).bind (fun b7 =>
 (qd0 r1 (fun (y8:Row)=>qgi y8 a2 b7)).bind fun (r9:Int) =>
 (idx r1 r9).bind fun (x10:Row) =>
 some (b7,x10.ID))
 else none)
def qgj (r1:List Row) (r2:List Int):(List Value×List Int×Int)→Option (LS (List Value×List Int×Int) (List Value×List Int)):=fun (o3,o4,t5) =>
 if t5 < (r2.length:Int) then
 (idx r2 t5).bind fun (x6:Int) =>
 (qku r1 t5 x6).bind fun (r7:Value×Int) =>
 if qal (o3.length+1) 32=true then
 if qal (o4.length+1) 8=true then
 some (.next ((o3++[r7.1]),(o4++[r7.2]),(v4a.wrap (t5+1))))
 else none
 else none
 else
 some (.done (o3,o4))
def qkb (r1:List Row) (r2:List Int):Option (Row×List Int×Int) :=
 (qh4 r1).bind fun (r3:Int) =>
 if (r3 != 0)=true then
 some ((Row.mk 0 []),[],r3)
 else
 (r1[0]?).bind fun (x4:Row) =>
 if ((r2.length:Int) != (x4.Values.length:Int))=true then
 some ((Row.mk 0 []),[],6)
 else
 (qfz r1).bind fun (r5:Int) =>
 if (r5 != 0)=true then
 some ((Row.mk 0 []),[],r5)
 else
 (qar r2 (fun (y6:Int)=>qhq y6)).bind fun (r7:Bool) =>
 if r7=true then
 some ((Row.mk 0 []),[],1)
 else
 (qae (qgj r1 r2) ([],[],0)).bind (fun (o8,o9) =>
 some ((Row.mk x4.ID o8),o9,0))
def qdi (s1:List Int) (v2:Int):Int→Option (LS (Int) ((Unit) ⊕ (Int))):=fun t3 =>
 if t3 < (s1.length:Int) then
 (idx s1 t3).bind fun (x4:Int) =>
 if (v2 == x4)=true then
 some (.done (.inr t3))
 else
 some (.next (v4a.wrap (t3+1)))
 else
 some (.done (.inl ()))
def qh7 (s1:List Int) (v2:Int):Option (Int) :=
 (qae (qdi s1 v2) 0).bind (fun o=>match o with
 | .inl () =>
 some (-1)
 | .inr r3 =>
 some r3)
def qe5 (s1:List Int) (v2:Int):Option (Bool) :=
 (qh7 s1 v2).bind fun (r3:Int) =>
 some (decide (r3≥0))
def qmv (l:List Value):Option (List Value):=if qal l.length 32=true then some l else none
def qnn (r1:Row):Option (Row) :=
 (qmv r1.Values).bind fun (r2:List Value) =>
 some (Row.mk r1.ID r2)
def qok (r1:List Row):(List Row×Int)→Option (LS (List Row×Int) (List Row)):=fun (o2,t3) =>
 if t3 < (r1.length:Int) then
 (idx r1 t3).bind fun (x4:Row) =>
 (qnn x4).bind fun (r5:Row) =>
 if qal (o2.length+1) 32=true then
 some (.next ((o2++[r5]),(v4a.wrap (t3+1))))
 else none
 else
 some (.done o2)
def qrc (t1:Table) (r2:List Row):Option (Table) :=
 (qg4 t1.Attrs).bind fun (r3:List (List UInt8)) =>
 (qae (qok r2) ([],0)).bind (fun o4 =>
 some (Table.mk t1.Name r3 o4))
def qol (t1:Table) (i2:List Int):(List Row×Int)→Option (LS (List Row×Int) (List Row)):=fun (r3,t4) =>
 if t4 < (t1.Rows.length:Int) then
 (idx t1.Rows t4).bind fun (x5:Row) =>
 (qe5 i2 x5.ID).bind fun (r6:Bool) =>
 if r6=true then
 if qal (r3.length+1) 32=true then
 some (.next ((r3++[x5]),(v4a.wrap (t4+1))))
 else none
 else
 some (.next (r3,(v4a.wrap (t4+1))))
 else
 some (.done r3)
def qrd (t1:Table) (i2:List Int):Option (Table) :=
 (qae (qol t1 i2) ([],0)).bind (fun r3 =>
 (qrc t1 r3).bind fun (r4:Table) =>
 some r4)
def qkh (l:List Int):Option (List Int):=if qal l.length 8=true then some l else none
def qew (t1:Table) (r2:List Int) (l3:List (List Int)):(List Row×List (List Int)×List (List Int)×Int)→Option (LS (List Row×List (List Int)×List (List Int)×Int) ((List Row×List (List Int)×List (List Int)) ⊕ (Merged×Int))):=fun (o4,o5,o6,t7) =>
 if t7 < ((l3.length:Nat):Int) then
 (idx l3 t7).bind fun (x8:List Int) =>
 (qrd t1 x8).bind fun (r9:Table) =>
 (qkb r9.Rows r2).bind fun (r10:Row×List Int×Int) =>
 if (r10.2.2 != 0)=true then
 some (.done (.inr ((Merged.mk (Table.mk [] [] []) [] []),r10.2.2)))
 else
 if qal (o4.length+1) 32=true then
 (qkh x8).bind fun (r11:List Int) =>
 if qal (o5.length+1) 24=true then
 if qal (o6.length+1) 24=true then
 some (.next ((o4++[r10.1]),(o5++[r11]),(o6++[r10.2.1]),(v4a.wrap (t7+1))))
 else none
 else none
 else none
 else
 some (.done (.inl (o4,o5,o6)))
def qkc (t1:Table) (c2:List (List Int)) (r3:List Int):Option (Merged×Int) :=
 (qm8 t1).bind fun (r4:Int) =>
 if (r4 != 0)=true then
 some ((Merged.mk (Table.mk [] [] []) [] []),r4)
 else
 if ((r3.length:Int) != (t1.Attrs.length:Int))=true then
 some ((Merged.mk (Table.mk [] [] []) [] []),6)
 else
 (qar r3 (fun (y5:Int)=>qhp y5)).bind fun (r6:Bool) =>
 if r6=true then
 some ((Merged.mk (Table.mk [] [] []) [] []),1)
 else
 (qjz t1 c2).bind fun (r7:Bool) =>
 if r7=true then
 if qal c2.length 24=true then
 (vhm (fun (y8:List Int) (y9:List Int)=>qa0 y8 y9) c2).bind fun (l10:List (List Int)) =>
 (qg4 t1.Attrs).bind fun (r11:List (List UInt8)) =>
 (qae (qew t1 r3 l10) ([],[],[],0)).bind (fun o=>match o with
 | .inl (o12,o13,o14) =>
 some ((Merged.mk (Table.mk t1.Name r11 o12) o13 o14),0)
 | .inr r15 =>
 some r15)
 else none
 else
 some ((Merged.mk (Table.mk [] [] []) [] []),1)
def qno (t1:Table) (l2:Linkage):Option (Merged×Int) :=
 (qhg t1 l2).bind fun (r3:List (List Int)×Int) =>
 if (r3.2 != 0)=true then
 some ((Merged.mk (Table.mk [] [] []) [] []),r3.2)
 else
 (qkc t1 r3.1 l2.Survive).bind fun (r4:Merged×Int) =>
 some (r4.1,r4.2)
def qdj (a1:List (List UInt8)) (b2:List (List UInt8)):Int→Option (LS (Int) ((Unit) ⊕ (Bool))):=fun i3 =>
 if i3 < (a1.length:Int) then
 (idx a1 i3).bind fun (x4:List UInt8) =>
 (idx b2 i3).bind fun (x5:List UInt8) =>
 if (x4 == x5)=true then
 some (.next (v4a.wrap (i3+1)))
 else
 some (.done (.inr false))
 else
 some (.done (.inl ()))
def qh8 (a1:List (List UInt8)) (b2:List (List UInt8)):Option (Bool) :=
 if ((a1.length:Int) != (b2.length:Int))=true then
 some false
 else
 (qae (qdj a1 b2) 0).bind (fun o=>match o with
 | .inl () =>
 some true
 | .inr r3 =>
 some r3)
def qf0 (a1:Row) (b2:Row):Option (Bool) :=
 if (a1.ID == b2.ID)=true then
 (qi2 a1.Values b2.Values).bind fun (r3:Bool) =>
 some r3
 else
 some false
def qg5 (a1:Table) (b2:Table):Int→Option (LS (Int) ((Unit) ⊕ (Bool))):=fun i3 =>
 if i3 < (a1.Rows.length:Int) then
 (idx a1.Rows i3).bind fun (x4:Row) =>
 (idx b2.Rows i3).bind fun (x5:Row) =>
 (qf0 x4 x5).bind fun (r6:Bool) =>
 if r6=true then
 some (.next (v4a.wrap (i3+1)))
 else
 some (.done (.inr false))
 else
 some (.done (.inl ()))
def qj0 (a1:Table) (b2:Table):Option (Bool) :=
 if (a1.Name == b2.Name)=true then
 (qh8 a1.Attrs b2.Attrs).bind fun (r3:Bool) =>
 if r3=true then
 if ((a1.Rows.length:Int) != (b2.Rows.length:Int))=true then
 some false
 else
 (qae (qg5 a1 b2) 0).bind (fun o=>match o with
 | .inl () =>
 some true
 | .inr r4 =>
 some r4)
 else
 some false
 else
 some false
def qkv (a1:Merged) (b2:Merged):Option (Bool) :=
 (qj0 a1.Table b2.Table).bind fun (r3:Bool) =>
 if r3=true then
 (qd5 a1.Clusters b2.Clusters).bind fun (r4:Bool) =>
 if r4=true then
 (qd5 a1.Origins b2.Origins).bind fun (r5:Bool) =>
 some r5
 else
 some false
 else
 some false
def qdb (l1:List Int):Int→Option (LS (Int) ((Unit) ⊕ (Bool))):=fun i2 =>
 if i2 < (l1.length:Int) then
 (idx l1 i2).bind fun (x3:Int) =>
 if x3 < 1 then
 some (.done (.inr false))
 else
 if x3 > 5 then
 some (.done (.inr false))
 else
 some (.next (v4a.wrap (i2+1)))
 else
 some (.done (.inl ()))
def qj1 (l1:List Int):Option (Bool) :=
 (qae (qdb l1) 0).bind (fun o=>match o with
 | .inl () =>
 some true
 | .inr r2 =>
 some r2)
def qg6 (r1:List Row) (a2:Int) (v3:Value):(Int×Int)→Option (LS (Int×Int) (Int)):=fun (n4,i5) =>
 if i5 < (r1.length:Int) then
 (idx r1 i5).bind fun (x6:Row) =>
 (idx x6.Values a2).bind fun (x7:Value) =>
 (qb5 x7 v3).bind fun (r8:Int) =>
 if (r8 == 0)=true then
 some (.next ((v4a.wrap (n4+1)),(v4a.wrap (i5+1))))
 else
 some (.next (n4,(v4a.wrap (i5+1))))
 else
 some (.done n4)
def qhr (r1:List Row) (a2:Int) (v3:Value):Option (Int) :=
 (qae (qg6 r1 a2 v3) (0,0)).bind (fun n4 =>
 some n4)
def qja (r1:List Row) (a2:Int) (r3:Int) (v4:Value) (o5:Value):Option (Bool) :=
 if (r3 == 2)=true then
 (qhr r1 a2 v4).bind fun (r6:Int) =>
 (qhr r1 a2 o5).bind fun (r7:Int) =>
 some (decide (r6 > r7))
 else
 if (r3 == 3)=true then
 if (v4.Kind == 2)=true then
 if (o5.Kind != 2)=true then
 some true
 else
 some (decide ((v4.Str.length:Int) > (o5.Str.length:Int)))
 else
 some false
 else
 (qb5 v4 o5).bind fun (r8:Int) =>
 if (r3 == 4)=true then
 if r8 < 0 then
 some true
 else
 if (r3 == 5)=true then
 some (decide (r8 > 0))
 else
 some false
 else
 if (r3 == 5)=true then
 some (decide (r8 > 0))
 else
 some false
def qh9 (r1:List Row) (a2:Int) (r3:Int):(Drossref55_Result×Int)→Option (LS (Drossref55_Result×Int) (Drossref55_Result)):=fun (o4,i5) =>
 if i5 < (r1.length:Int) then
 (idx r1 i5).bind fun (x6:Row) =>
 (idx x6.Values a2).bind fun (x7:Value) =>
 (show Option (Bool) from
 if (x7.Kind != 0)=true then
 if (o4.Origin == 0)=true then
 some true
 else
 (qja r1 a2 r3 x7 o4.Value).bind fun (r8:Bool) =>
 some r8
 else
 some false).bind (fun t9 =>
 if t9=true then
 some (.next ((Drossref55_Result.mk x7 x6.ID),(v4a.wrap (i5+1))))
 else
 some (.next (o4,(v4a.wrap (i5+1)))))
 else
 some (.done o4)
def qkw (r1:List Row) (a2:Int) (r3:Int):Option (Drossref55_Result) :=
 (qae (qh9 r1 a2 r3) ((Drossref55_Result.mk (Value.mk 0 0 []) 0),0)).bind (fun o4 =>
 if (o4.Origin == 0)=true then
 (r1[0]?).bind fun (x5:Row) =>
 some (Drossref55_Result.mk o4.Value x5.ID)
 else
 some o4)
def qg7 (r1:List Row) (r2:List Int):(List Value×List Int×Int)→Option (LS (List Value×List Int×Int) (List Value×List Int)):=fun (o3,o4,i5) =>
 if i5 < (r2.length:Int) then
 (idx r2 i5).bind fun (x6:Int) =>
 (qkw r1 i5 x6).bind fun (r7:Drossref55_Result) =>
 if qal (o3.length+1) 32=true then
 if qal (o4.length+1) 8=true then
 some (.next ((o3++[r7.Value]),(o4++[r7.Origin]),(v4a.wrap (i5+1))))
 else none
 else none
 else
 some (.done (o3,o4))
def qhs (r1:List Row) (r2:List Int):Option (Drossref55_Row) :=
 (r1[0]?).bind fun (x3:Row) =>
 (qae (qg7 r1 r2) ([],[],0)).bind (fun (o4,o5) =>
 some (Drossref55_Row.mk (Row.mk x3.ID o4) o5))
def qg8:(List (List Int)×Int)→Option (LS (List (List Int)×Int) (List (List Int))):=fun (l1,k2) =>
 if k2 > 0 then
 (idx l1 k2).bind fun (x3:List Int) =>
 (x3[0]?).bind fun (x4:Int) =>
 (idx l1 (v4a.wrap (k2 - 1))).bind fun (x5:List Int) =>
 (x5[0]?).bind fun (x6:Int) =>
 if x4 < x6 then
 (idx (l1.set k2.toNat x5) (v4a.wrap (k2 - 1))).bind fun (x7:List Int) =>
 some (.next (((l1.set k2.toNat x5).set (v4a.wrap (k2 - 1)).toNat x3),(v4a.wrap (k2 - 1))))
 else
 some (.done l1)
 else
 some (.done l1)
def qdc:(List (List Int)×Int)→Option (LS (List (List Int)×Int) (List (List Int))):=fun (l1,i2) =>
 if i2 < ((l1.length:Nat):Int) then
 (qae qg8 (l1,i2)).bind (fun l3 =>
 some (.next (l3,(v4a.wrap (i2+1)))))
 else
 some (.done l1)
def ql1:Unit→Option (LS (Unit) (Unit)):=fun () =>
 some (.done ())
def qdd (t1:Table) (r2:List Int) (l3:List (List Int)):(List Row×List (List Int)×List (List Int)×Int)→Option (LS (List Row×List (List Int)×List (List Int)×Int) (List Row×List (List Int)×List (List Int))):=fun (o4,o5,o6,i7) =>
 if i7 < ((l3.length:Nat):Int) then
 (idx l3 i7).bind fun (x8:List Int) =>
 (qi3 t1 x8).bind fun (r9:Table) =>
 (qhs r9.Rows r2).bind fun (r10:Drossref55_Row) =>
 if qal (o4.length+1) 32=true then
 if qal x8.length 8=true then
 if qal (o5.length+1) 24=true then
 if qal (o6.length+1) 24=true then
 some (.next ((o4++[r10.Row]),(o5++[x8]),(o6++[r10.Origins]),(v4a.wrap (i7+1))))
 else none
 else none
 else none
 else none
 else
 some (.done (o4,o5,o6))
def qht (t1:Table) (c2:List (List Int)) (r3:List Int):Option (Merged×Int) :=
 (qjy t1).bind fun (r4:Int) =>
 if (r4 != 0)=true then
 some ((Merged.mk (Table.mk [] [] []) [] []),r4)
 else
 if ((r3.length:Int) != (t1.Attrs.length:Int))=true then
 some ((Merged.mk (Table.mk [] [] []) [] []),6)
 else
 (qj1 r3).bind fun (r5:Bool) =>
 if r5=true then
 (qmq t1 c2).bind fun (r6:Bool) =>
 if r6=true then
 if qal c2.length 24=true then
 (qae qdc (c2,0)).bind (fun l7 =>
 if qal t1.Attrs.length 16=true then
 (qae ql1 ()).bind (fun () =>
 (qae (qdd t1 r3 l7) ([],[],[],0)).bind (fun (o8,o9,o10) =>
 some ((Merged.mk (Table.mk t1.Name t1.Attrs o8) o9 o10),0)))
 else none)
 else none
 else
 some ((Merged.mk (Table.mk [] [] []) [] []),1)
 else
 some ((Merged.mk (Table.mk [] [] []) [] []),1)
def qkx (t1:Table) (l2:Linkage):Option (Merged) :=
 (qg2 t1 l2).bind fun (r3:List (List Int)) =>
 (qht t1 r3 l2.Survive).bind fun (r4:Merged×Int) =>
 some r4.1
def qee (x1:Drossref03_Recipe) (d2:Drossref56_Draft):Option (Bool) :=
 (qe1 x1 d2).bind fun (r3:Table×Linkage×Bool) =>
 (show Option (Bool) from
 (qhi ).bind fun (r4:Bool) =>
 if r4=true then
 some (!r3.2.2)
 else
 some true).bind (fun t5 =>
 if t5=true then
 (qhi ).bind fun (r6:Bool) =>
 some r6
 else
 (qno r3.1 r3.2.1).bind fun (r7:Merged×Int) =>
 if (r7.2 == 0)=true then
 (qkx r3.1 r3.2.1).bind fun (r8:Merged) =>
 (qkv r7.1 r8).bind fun (r9:Bool) =>
 some r9
 else
 some false)
end Go.Proofs.YtmlegeeinnkhkaaGreat
namespace Go.Ab
open Go
def qux {α β τ:Type} (f:β→α→β ⊕ τ) (fin:β→τ):List α→β→τ
 | [],b=>fin b
 | x :: r,b=>match f b x with
  | .inl b'=>qux f fin r b'
  | .inr t=>t
theorem vcq {α β σ τ:Type} (l:List α) (S:β→Int→σ) (B:σ→Option (LS σ τ)) (f:β→α→β ⊕ τ) (fin:β→τ) (I:Nat→β→Prop)
  (hs:∀(k:Nat) b x,l[k]?=some x→I k b→(∀b',f b x=.inl b'→B (S b k)=some (.next (S b' (k+1:Nat)))∧I (k+1) b')∧(∀t,f b x=.inr t→B (S b k)=some (.done t)))
  (he:∀b,I l.length b→B (S b l.length)=some (.done (fin b))) :
  ∀(r:List α) (k:Nat) (b:β),l.drop k=r→k≤l.length→I k b→qae B (S b k)=some (qux f fin r b):=by
 intro r
 induction r with
 | nil =>
  intro k b hd hk hI;have:k=l.length:=by
   have:=congrArg v4o hd;simp at this;omega
  subst this;exact qad (he b hI)
 | cons x r ih =>
  intro k b hd hk hI;have hx:l[k]?=some x:=by
   have:=congrArg (·[0]?) hd;simpa [vz8] using this
  have hlt:k < l.length:=(v0b.1 hx).1;have hd':l.drop (k+1)=r:=by
   rw [←v4h,hd];rfl
  obtain ⟨h1,h2⟩:=hs k b x hx hI;cases hf:f b x with
  | inl b' =>
   obtain ⟨h3,h4⟩:=h1 b' hf;rw [qac h3,ih (k+1) b' hd' hlt h4];simp [qux,hf]
  | inr t =>
   rw [qad (h2 t hf)];simp [qux,hf]
theorem qos {α β σ τ:Type} (l:List α) (S:β→Int→σ) (B:σ→Option (LS σ τ)) (f:β→α→β ⊕ τ) (fin:β→τ) (I:Nat→β→Prop) {b0:β} {s0:σ} (h0:s0=S b0 0) (hI:I 0 b0)
  (hs:∀(k:Nat) b x,l[k]?=some x→k < l.length→I k b→(∀b',f b x=.inl b'→B (S b k)=some (.next (S b' (k+1:Nat)))∧I (k+1) b')∧(∀t,f b x=.inr t→B (S b k)=some (.done t)))
  (he:∀b,I l.length b→B (S b l.length)=some (.done (fin b))):qae B s0=some (qux f fin l b0):=by
 subst h0;exact vcq l S B f fin I (fun k b x hx=>hs k b x hx (qan hx)) he l 0 b0 rfl (v3n _) hI
theorem qat {k n:Nat} (h:k < n) (hn:n≤4611686018427387904):v4a.wrap ((k:Int)+1)=((k+1:Nat):Int):=by
 rw [qaz (by omega) (by omega)];omega
theorem qk6 {k:Nat} (h:k < 4611686018427387904):v4a.wrap ((k:Int)+1)=((k+1:Nat):Int):=by
 rw [qaz (by omega) (by omega)];omega
theorem wqn (k:Nat) (h:k < 4611686018427387904:=by omega):v4a.wrap ((k:Int)+1)=((k+1:Nat):Int):=qk6 h
theorem vst (c:UInt8):v4a.wrap ((c.toNat:Nat):Int)=((c.toNat:Nat):Int):=by
 have:=c.toNat_lt;exact qaz (by omega) (by omega)
theorem qf2 {n b:Nat} (h:n≤1073741824) (hb:b≤65536):qal n b=true:=by
 unfold qal;have:n * b≤1073741824 * 65536:=Nat.mul_le_mul h hb;simp only [decide_eq_true_eq];omega
theorem qaa {α:Type} {l:List α} {k:Nat} {x:α} (h:l[k]?=some x):idx l (k:Int)=some x:=by rw [vb8,h]
theorem qai {α:Type} {l:List α} {k:Nat} {x:α} (h:l[k]?=some x):((k:Int) < (l.length:Int)):=by have:=qan h;omega
theorem q9t {α:Type} (p:α→Bool):∀l:List α,qux (fun (_:Unit) x=>if p x then Sum.inl () else Sum.inr (Sum.inr false)) (fun _=>(Sum.inl ():Unit ⊕ Bool)) l ()=if l.all p then .inl () else .inr false
 | []=>rfl
 | x :: r=>by
  simp only [qux,List.all_cons];rcases v3u (p x) with h | h <;> simp [h,q9t p r]
theorem q6w {α β:Type} (g:β→α→β):∀(l:List α) (b:β),qux (fun b x=>(Sum.inl (g b x):β ⊕ β)) id l b=l.foldl g b
 | [],_=>rfl
 | x :: r,b=>by simp only [qux,v4m];exact q6w g r _
theorem q9u {α β τ:Type} (g:β→α→β) (fin:β→τ):∀(l:List α) (b:β),qux (fun b x=>(Sum.inl (g b x):β ⊕ τ)) fin l b=fin (l.foldl g b)
 | [],_=>rfl
 | x :: r,b=>by simp only [qux,v4m];exact q9u g fin r _
theorem qls {α ρ:Type} (l:List α) (B:Int→Option (LS Int (Unit ⊕ ρ))) (p:α→Bool) (bad:ρ)
  (h1:∀(k:Nat) x,l[k]?=some x→k < l.length→p x=true→B k=some (.next (k+1:Nat))) (h2:∀(k:Nat) x,l[k]?=some x→p x=false→B k=some (.done (.inr bad))) (h3:B l.length=some (.done (.inl ()))) :
  qae B 0=some (if l.all p then .inl () else .inr bad):=by
 have h:=qos l (fun (_:Unit) i=>i) B (fun (_:Unit) x=>if p x then Sum.inl () else Sum.inr (Sum.inr bad)) (fun _=>Sum.inl ()) (fun _ _=>True) (b0:=()) (s0:=0) rfl trivial
  (fun k b x hx hk _=>by
   constructor
   ·intro b' hf;refine ⟨?_,trivial⟩;rcases v3u (p x) with hp | hp
    ·exact h1 k x hx hk hp
    ·simp [hp] at hf
   ·intro t hf;rcases v3u (p x) with hp | hp
    ·simp [hp] at hf
    ·simp [hp] at hf;subst hf;exact h2 k x hx hp)
  (fun b _=>h3)
 rw [h];congr 1;clear h h1 h2 h3
 induction l with
 | nil=>rfl
 | cons x r ih=>rcases v3u (p x) with hp | hp <;> simp [qux,hp,ih]
theorem qjb {α:Type} (l:List α) (B:Int→Option (LS Int (Unit ⊕ Int))) (p:α→Bool)
  (h1:∀(k:Nat) x,l[k]?=some x→k < l.length→p x=false→B k=some (.next (k+1:Nat))) (h2:∀(k:Nat) x,l[k]?=some x→p x=true→B k=some (.done (.inr k))) (h3:B l.length=some (.done (.inl ()))) :
  qae B 0=some (match l.findIdx? p with | some i=>.inr (i:Int) | none=>.inl ()):=by
 have key:∀(r:List α) (k:Nat),l.drop k=r→k≤l.length→qae B (k:Int)=some (match r.findIdx? p with | some i=>.inr ((k+i:Nat):Int) | none=>.inl ()):=by
  intro r
  induction r with
  | nil =>
   intro k hd hk;have:k=l.length:=by
    have:=congrArg v4o hd;simp at this;omega
   subst this;exact qad h3
  | cons x r ih =>
   intro k hd hk;have hx:l[k]?=some x:=by
    have:=congrArg (·[0]?) hd;simpa [vz8] using this
   have hd':l.drop (k+1)=r:=by rw [←v4h,hd];rfl
   rcases v3u (p x) with hp | hp
   ·rw [qad (h2 k x hx hp)];simp [v4l,hp]
   ·rw [qac (h1 k x hx (qan hx) hp),ih (k+1) hd' (qan hx)];simp only [v4l,hp];cases r.findIdx? p with
    | none=>rfl
    | some i=>simp;omega
 have:=key l 0 (by simp) (v3n _);simpa using this
theorem qb3 {α β σ τ:Type} (l:List α) (S:β→Int→σ) (B:σ→Option (LS σ τ)) (g:β→α→β) (fin:β→τ) (I:Nat→β→Prop) {b0:β} {s0:σ} (h0:s0=S b0 0) (hI:I 0 b0)
  (hs:∀(k:Nat) b x,l[k]?=some x→k < l.length→I k b→B (S b k)=some (.next (S (g b x) (k+1:Nat)))∧I (k+1) (g b x))
  (he:∀b,I l.length b→B (S b l.length)=some (.done (fin b))):qae B s0=some (fin (l.foldl g b0)):=by
 rw [qos l S B (fun b x=>Sum.inl (g b x)) fin I h0 hI (fun k b x hx hk hi=>⟨fun b' hb=>by cases hb;exact hs k b x hx hk hi,fun t ht=>by cases ht⟩) he,q9u]
def okI (k:IntKind) (n:Int):Prop:=(Lit.int k n).wf=true
def okS (s:List UInt8):Prop:=s.length≤1048576
def okL {α:Type} (ok:α→Prop) (l:List α):Prop:=l.length≤1048576∧∀x∈l,ok x
def qft {α:Type} (p:Nat→α→Bool):Nat→List α→Bool
 | _,[]=>true
 | k,x :: r=>p k x && qft p (k+1) r
theorem qre {α ρ:Type} (l:List α) (B:Int→Option (LS Int (Unit ⊕ ρ))) (p:Nat→α→Bool) (bad:ρ)
  (h1:∀(k:Nat) x,l[k]?=some x→k < l.length→p k x=true→B k=some (.next (k+1:Nat))) (h2:∀(k:Nat) x,l[k]?=some x→p k x=false→B k=some (.done (.inr bad))) (h3:B l.length=some (.done (.inl ()))) :
  ∀(r:List α) (k:Nat),l.drop k=r→k≤l.length→qae B (k:Int)=some (if qft p k r then .inl () else .inr bad):=by
 intro r
 induction r with
 | nil =>
  intro k hd hk;have:k=l.length:=by
   have:=congrArg v4o hd;simp at this;omega
  subst this;exact qad h3
 | cons x r ih =>
  intro k hd hk;have hx:l[k]?=some x:=by
   have:=congrArg (·[0]?) hd;simpa [vz8] using this
  have hd':l.drop (k+1)=r:=by rw [←v4h,hd];rfl
  rcases v3u (p k x) with hp | hp
  ·rw [qac (h1 k x hx (qan hx) hp),ih (k+1) hd' (qan hx)];simp [qft,hp]
  ·rw [qad (h2 k x hx hp)];simp [qft,hp]
theorem q1s {α:Type} (q:α→Bool):∀(l:List α) (k:Nat),qft (fun _ x=>q x) k l=l.all q
 | [],_=>rfl
 | x :: r,k=>by simp [qft,q1s q r]
theorem qxp {α:Type} {p q:Nat→α→Bool}:∀(l:List α) (k:Nat),(∀j x,k≤j→x∈l→p j x=q j x)→qft p k l=qft q k l
 | [],_,_=>rfl
 | x :: r,k,h=>by
  simp only [qft];rw [h k x (v1f _) (by simp),qxp r (k+1) (fun j y hj hy=>h j y (by omega) (by simp [hy]))]
theorem qrf {n:Nat} (h:n≤17592186044416):qal n 8=true:=by
 unfold qal;simp only [decide_eq_true_eq];omega
end Go.Ab
namespace Go.Proofs.YtmlegeeinnkhkaaGreat
open Go Go.Ab
def q1t (x:Value):Prop:=(okI .i64) x.Kind∧(okI .i64) x.Num∧okS x.Str
def qto (x:Similar):Prop:=(okI .i64) x.Attr∧(okI .i64) x.Measure∧(okI .i64) x.Limit
def vnv (x:Row):Prop:=(okI .i64) x.ID∧(okL q1t) x.Values
def q9v (x:Linkage):Prop:=(okL (okL qto)) x.Rules∧(okL (okI .i64)) x.Block∧(okL (okI .i64)) x.Survive
def qsc (x:Table):Prop:=okS x.Name∧(okL okS) x.Attrs∧(okL vnv) x.Rows
def qzs (x:Arr2_int64):Prop:=(okI .i64) x.x0∧(okI .i64) x.x1
def qdk (x:Drossref56_Test):Prop:=(okI .u8) x.Attr∧(okI .u8) x.Measure∧(okI .u8) x.Limit
def qb6 (x:Drossref56_Draft):Prop:=(okL (okL qdk)) x.Rules∧(okI .u8) x.Block∧(okL (okI .u8)) x.Survive
def qg9 (x:Drossref03_Recipe):Prop:=(okI .u8) x.Attrs∧(okI .u8) x.Gap∧(okL (okL (okI .u8))) x.Rows
end Go.Proofs.YtmlegeeinnkhkaaGreat
namespace Go.Ab
def qc0:Nat→List Int→Nat→List (List Int)
 | 0,p,u=>[p]
 | k+1,p,u=>(v0z (u+1)).flatMap fun (c:Nat)=>qc0 k (p++[(c:Int)]) (max u (c+1))
def qb7 (l:List Int):Nat:=l.foldl (fun m x=>max m (x.toNat+1)) 0
theorem q4w (l:List Int) (c:Nat):qb7 (l++[(c:Int)])=max (qb7 l) (c+1):=by simp [qb7]
theorem qtp:∀(k:Nat) (p:List Int) (u:Nat) (x:List Int),x∈qc0 k p u→x.length=p.length+k∧x.take p.length=p
 | 0,p,u,x,h=>by
  simp only [qc0,v3d] at h;subst h;simp
 | k+1,p,u,x,h=>by
  simp only [qc0,List.mem_flatMap] at h;obtain ⟨c,_,hx⟩:=h;obtain ⟨h1,h2⟩:=qtp k _ _ x hx;simp only [List.length_append,List.length_singleton] at h1 h2;refine ⟨by omega,?_⟩;have:=congrArg (List.take p.length) h2;rw [List.take_take,Nat.min_eq_left (by omega),List.take_left] at this;exact this
theorem vd7 (k:Nat) (p:List Int) (u:Nat):qc0 k p u≠[]:=by
 induction k generalizing p u with
 | zero=>simp [qc0]
 | succ k ih =>
  simp only [qc0,ne_eq,List.flatMap_eq_nil_iff,v3c];intro h;exact ih _ _ (h 0 (by omega))
theorem q4x:∀(k:Nat) (p:List Int) (u:Nat),u=qb7 p→qc0 (k+1) p u=(qc0 k p u).flatMap fun l=>(v0z (qb7 l+1)).map fun c=>l++[((c:Nat):Int)]
 | 0,p,u,hu=>by
  subst hu;simp only [qc0,List.flatMap_singleton];simp only [List.map_eq_flatMap]
 | k+1,p,u,hu=>by
  rw [qc0]
  conv=>rhs;rw [qc0]
  rw [List.flatMap_assoc];congr 1;funext c;exact q4x k (p++[((c:Nat):Int)]) (max u (c+1)) (by rw [q4w,hu])
def qn5 (cost:List Int→Int) (b:Option (List Int×Int)) (x:List Int):Option (List Int×Int) :=
 match b with
 | none=>some (x,cost x)
 | some (l,c)=>if cost x < c then some (x,cost x) else some (l,c)
theorem q1u (cost:List Int→Int) (l:List Int) (c:Int):∀xs:List (List Int),(∀x∈xs,c≤cost x)→xs.foldl (qn5 cost) (some (l,c))=some (l,c)
 | [],_=>rfl
 | x :: xs,h=>by
  have h0:=h x (by simp);simp only [v4m,qn5];rw [if_neg (by omega)];exact q1u cost l c xs fun y hy=>h y (by simp [hy])
def qia (w:Int) (t:Bool):Int:=if t then max (-w) 0 else max w 0
theorem vj5 (w:Int) (t:Bool):0≤qia w t:=by unfold qia;split <;> omega
def qun (W:Nat→Nat→Int) (l:List Int) (c:Int) (k:Nat):Int:=((v0z k).map fun i=>qia (W i k) (l.getD i 0 == c)).sum
def qgk (W:Nat→Nat→Int) (l:List Int) (v:Nat):Int:=((v0z v).map fun k=>qun W l (l.getD k 0) k).sum
theorem vp0:∀l:List Int,(∀x∈l,0≤x)→0≤l.sum
 | [],_=>by simp
 | x :: l,h=>by
  have h1:=h x (by simp);have h2:=vp0 l fun y hy=>h y (by simp [hy])
  simp only [List.sum_cons];omega
theorem qxq (l:List Int) (x:Int):(l++[x]).sum=l.sum+x:=by simp
theorem q1v (W:Nat→Nat→Int) (l:List Int) (c:Int) (k:Nat):0≤qun W l c k:=by
 refine vp0 _ fun x hx=>?_
 obtain ⟨i,_,rfl⟩:=v3a.1 hx;exact vj5 _ _
theorem q1w (W:Nat→Nat→Int) {l p:List Int} (c:Int) {k:Nat} (h:∀i,i < k→l.getD i 0=p.getD i 0):qun W l c k=qun W p c k:=by
 unfold qun;congr 1;refine List.map_congr_left fun i hi=>?_
 rw [h i (v3c.1 hi)]
theorem qot (W:Nat→Nat→Int) (l:List Int) (v:Nat):qgk W l (v+1)=qgk W l v+qun W l (l.getD v 0) v:=by
 unfold qgk;rw [v4t,v0o,List.map_singleton,qxq]
theorem qy0 (W:Nat→Nat→Int) {l p:List Int}:∀{v:Nat},(∀i,i < v→l.getD i 0=p.getD i 0)→qgk W l v=qgk W p v
 | 0,_=>rfl
 | v+1,h=>by
  rw [qot,qot,qy0 W (v:=v) (fun i hi=>h i (by omega)),h v (by omega),q1w W _ (fun i hi=>h i (by omega))]
theorem q4y (W:Nat→Nat→Int) (l:List Int):∀(k v:Nat),qgk W l v≤qgk W l (v+k)
 | 0,v=>by simp
 | k+1,v=>by
  have h1:=q4y W l k v;have h2:=q1v W l (l.getD (v+k) 0) (v+k);rw [←Nat.add_assoc,qot];omega
theorem q9w (W:Nat→Nat→Int) {x p:List Int} (h:x.take p.length=p) (n:Nat) (hn:p.length≤n):qgk W p p.length≤qgk W x n:=by
 have h1:qgk W x p.length=qgk W p p.length:=by
  refine qy0 W fun i hi=>?_
  have:p[i]?=x[i]?:=by rw [←h];rw [List.getElem?_take];rw [if_pos];rw [←h] at hi;simp at hi;omega
  simp only [v2h,this]
 have h2:=q4y W x (n - p.length) p.length;rw [show p.length+(n - p.length)=n by omega] at h2;omega
theorem vgj (W:Nat→Nat→Int) (p:List Int) (c:Int):qgk W (p++[c]) (p.length+1)=qgk W p p.length+qun W p c p.length:=by
 rw [qot];have h1:∀i,i < p.length→(p++[c]).getD i 0=p.getD i 0:=by
  intro i hi;simp only [v2h,List.getElem?_append_left hi]
 rw [qy0 W h1,q1w W _ h1];congr 2;simp [v2h]
theorem q9x {l:List Int} {i:Nat} {x:Int} (h:l[i]?=some x):x.toNat < qb7 l:=by
 have key:∀(l:List Int) (m:Nat),(m≤l.foldl (fun m x=>max m (x.toNat+1)) m)∧∀x∈l,x.toNat < l.foldl (fun m x=>max m (x.toNat+1)) m:=by
  intro l
  induction l with
  | nil=>intro m;simp
  | cons y l ih =>
   intro m;simp only [v4m,v2z];obtain ⟨h1,h2⟩:=ih (max m (y.toNat+1));refine ⟨by omega,?_⟩;rintro x (rfl | hx)
   ·omega
   ·exact h2 x hx
 exact (key l 0).2 x (v0t h)
def qna (f:Nat→Nat→Int):List Nat→Int
 | []=>0
 | x :: r=>(r.map (f x)).sum+qna f r
def qup (f:Nat→Nat→Int) (a b:List Nat):Int:=(a.map fun x=>(b.map (f x)).sum).sum
theorem q6x (f:Nat→Nat→Int) (x:Nat) (a b:List Nat):qup f (x :: a) b=(b.map (f x)).sum+qup f a b:=by simp [qup]
theorem q1x (a b:List Int):(a++b).sum=a.sum+b.sum:=by simp
theorem qvv (f:Nat→Nat→Int) (b:List Nat):∀a,qna f (a++b)=qna f a+qna f b+qup f a b
 | []=>by simp [qna,qup]
 | x :: a=>by
  simp only [v2e,qna,qvv f b a,q6x,v0o,q1x];omega
theorem q9y (f:Nat→Nat→Int) (l:List Nat) (x:Nat):qna f (l++[x])=qna f l+(l.map fun i=>f i x).sum:=by
 rw [qvv];simp only [qna,List.map_nil,List.sum_nil,qup,v0p,List.sum_cons,Int.add_zero,Int.zero_add]
theorem q1y (W:Nat→Nat→Int) (l:List Int):∀n:Nat,qgk W l n=qna (fun i k=>qia (W i k) (l.getD i 0 == l.getD k 0)) (v0z n)
 | 0=>rfl
 | n+1=>by
  rw [qot,v4t,q9y,q1y W l n];rfl
inductive Rch (R:Nat→Nat→Prop) (v:Nat):Nat→Prop
 | refl:Rch R v v
 | step {x y:Nat}:Rch R v x→R x y→Rch R v y
theorem Rch.trans {R:Nat→Nat→Prop} {a b c:Nat} (h:Rch R a b) (h2:Rch R b c):Rch R a c:=by
 induction h2 with
 | refl=>exact h
 | step _ hr ih=>exact ih.step hr
theorem Rch.symm {R:Nat→Nat→Prop} (hs:∀x y,R x y→R y x) {a b:Nat} (h:Rch R a b):Rch R b a:=by
 induction h with
 | refl=>exact .refl
 | step _ hr ih=>exact (Rch.step .refl (hs _ _ hr)).trans ih
theorem Rch.closed {R:Nat→Nat→Prop} {S:Nat→Prop} {v x:Nat} (h:Rch R v x) (h0:S v) (hs:∀x y,S x→R x y→S y):S x:=by
 induction h with
 | refl=>exact h0
 | step _ hr ih=>exact hs _ _ ih hr
open Classical in
def ql2 (R:Nat→Nat→Prop) (n v:Nat):List Nat:=(v0z n).filter fun x=>decide (Rch R v x)
open Classical in
def qo5 (R:Nat→Nat→Prop) (n:Nat):List Nat:=(v0z n).filter fun v=>decide (∀u,u < v→¬Rch R u v)
def qc7 (R:Nat→Nat→Prop) (n:Nat):List (List Nat):=(qo5 R n).map (ql2 R n)
theorem qky {R:Nat→Nat→Prop} {n v x:Nat}:x∈ql2 R n v↔x < n∧Rch R v x:=by simp [ql2]
theorem q1z (R:Nat→Nat→Prop) (n v:Nat):(ql2 R n v).Pairwise (· < ·):=v4r.filter _
theorem quq {R:Nat→Nat→Prop} {n v:Nat}:v∈qo5 R n↔v < n∧∀u,u < v→¬Rch R u v:=by simp [qo5]
theorem vsu {R:Nat→Nat→Prop} (n:Nat):∀x,x < n→∃v∈qo5 R n,Rch R v x:=by
 intro x
 induction x using Nat.strongRecOn with
 | _ x ih =>
  intro hx;by_cases h:∀u,u < x→¬Rch R u x
  ·exact ⟨x,quq.2 ⟨hx,h⟩,.refl⟩
  ·simp only [Classical.not_forall,Classical.not_not] at h;obtain ⟨u,hu,hr⟩:=h;obtain ⟨v,hv,hvr⟩:=ih u hu (by omega);exact ⟨v,hv,hvr.trans hr⟩
theorem vnw {R:Nat→Nat→Prop} (hs:∀x y,R x y→R y x) {n v w x:Nat} (hv:v∈qo5 R n) (hw:w∈qo5 R n) (h1:Rch R v x) (h2:Rch R w x):v=w:=by
 have h:=h1.trans (h2.symm hs);have h':=h.symm hs;rcases Nat.lt_trichotomy v w with hlt | rfl | hlt
 ·exact absurd h ((quq.1 hw).2 v hlt)
 ·rfl
 ·exact absurd h' ((quq.1 hv).2 w hlt)
theorem qy1 {a b:List Nat} (ha:a.Nodup) (hb:b.Nodup) (h:∀x,x∈a↔x∈b):a.Perm b:=(List.perm_ext_iff_of_nodup ha hb).2 h
theorem vcr {R:Nat→Nat→Prop} (hs:∀x y,R x y→R y x) (n:Nat):(qc7 R n).flatten.Perm (v0z n):=by
 refine qy1 ?_ List.nodup_range ?_
 ·unfold List.Nodup;rw [List.pairwise_flatten];refine ⟨?_,?_⟩
  ·intro l hl;obtain ⟨v,_,rfl⟩:=v3a.1 hl;exact (q1z R n v).imp fun h=>Nat.ne_of_lt h
  ·unfold qc7;rw [List.pairwise_map];have hh:(qo5 R n).Pairwise (·≠·):=(v4r.filter _).imp fun h=>Nat.ne_of_lt h
   refine (v4q.2 ?_);intro a b hab x hxa y hxb hxy;subst hxy;have hne:=(v4q.1 hh) hab;have ha:a∈qo5 R n:=hab.subset (by simp);have hb:b∈qo5 R n:=hab.subset (by simp);exact hne (vnw hs ha hb (qky.1 hxa).2 (qky.1 hxb).2)
 ·intro x;rw [v3c,List.mem_flatten];constructor
  ·rintro ⟨l,hl,hx⟩;obtain ⟨v,_,rfl⟩:=v3a.1 hl;exact (qky.1 hx).1
  ·intro hx;obtain ⟨v,hv,hr⟩:=vsu (R:=R) n x hx;exact ⟨_,v3a.2 ⟨v,hv,rfl⟩,qky.2 ⟨hx,hr⟩⟩
theorem q4z (cost:List Int→Int):∀(xs:List (List Int)) (b:Option (List Int×Int)) (l:List Int) (c:Int),xs.foldl (qn5 cost) b=some (l,c) →
  ((l∈xs∧c=cost l)∨b=some (l,c))∧(∀x∈xs,c≤cost x)∧(∀l' c',b=some (l',c')→c≤c')
 | [],b,l,c,e=>by
  simp only [List.foldl_nil] at e;exact ⟨.inr e,by simp,fun l' c' h=>by rw [e] at h;cases h;exact Int.le_refl _⟩
 | x :: xs,b,l,c,e=>by
  simp only [v4m] at e;obtain ⟨h1,h2,h3⟩:=q4z cost xs _ l c e;cases b with
  | none =>
   have hx:=h3 x (cost x) rfl;refine ⟨.inl ?_,?_,by simp⟩
   ·rcases h1 with ⟨h,h'⟩ | h
    ·exact ⟨v21 _ h,h'⟩
    ·simp only [qn5,v1x,Prod.mk.injEq] at h;exact ⟨by rw [←h.1];exact v24,by rw [←h.1,h.2]⟩
   ·intro y hy;rcases v2z.1 hy with rfl | hy
    ·exact hx
    ·exact h2 y hy
  | some q =>
   obtain ⟨l0,c0⟩:=q;simp only [qn5] at h1 h3;by_cases hc:cost x < c0
   ·simp only [if_pos hc] at h1 h3;have hx:=h3 x (cost x) rfl;refine ⟨.inl ?_,?_,?_⟩
    ·rcases h1 with ⟨h,h'⟩ | h
     ·exact ⟨v21 _ h,h'⟩
     ·simp only [v1x,Prod.mk.injEq] at h;exact ⟨by rw [←h.1];exact v24,by rw [←h.1,h.2]⟩
    ·intro y hy;rcases v2z.1 hy with rfl | hy
     ·exact hx
     ·exact h2 y hy
    ·intro l' c' h;cases h;omega
   ·simp only [if_neg hc] at h1 h3;have hx:=h3 l0 c0 rfl;refine ⟨?_,?_,?_⟩
    ·rcases h1 with ⟨h,h'⟩ | h
     ·exact .inl ⟨v21 _ h,h'⟩
     ·exact .inr h
    ·intro y hy;rcases v2z.1 hy with rfl | hy
     ·omega
     ·exact h2 y hy
    ·intro l' c' h;cases h;exact hx
def vmb (W:Nat→Nat→Int) (n:Nat):Option (List Int×Int):=(qc0 n [] 0).foldl (qn5 fun x=>qgk W x n) none
theorem qwd (cost:List Int→Int):∀(xs:List (List Int)) (q:List Int×Int),∃r,xs.foldl (qn5 cost) (some q)=some r
 | [],q=>⟨q,rfl⟩
 | x :: xs,q=>by
  simp only [v4m,qn5];split
  ·exact qwd cost xs _
  ·exact qwd cost xs _
theorem q11 (W:Nat→Nat→Int) (n:Nat):∃l c,vmb W n=some (l,c)∧l∈qc0 n [] 0∧c=qgk W l n∧∀x∈qc0 n [] 0,c≤qgk W x n:=by
 have hne:=vd7 n [] 0;unfold vmb;cases hx:qc0 n [] 0 with
 | nil=>exact absurd hx hne
 | cons x xs =>
  obtain ⟨⟨l,c⟩,hr⟩:=qwd (fun x=>qgk W x n) xs (x,qgk W x n);have hr':(x :: xs).foldl (qn5 fun x=>qgk W x n) none=some (l,c):=hr;obtain ⟨h1,h2,h3⟩:=q4z _ _ _ l c hr';rcases h1 with ⟨h,h'⟩ | h
  ·exact ⟨l,c,hr',h,h',h2⟩
  ·cases h
theorem q6y (C:List Nat):C=(v0z C.length).map fun i=>C.getD i 0:=by
 refine List.ext_getElem? fun i=>?_
 simp only [List.getElem?_map,v2h];by_cases h:i < C.length
 ·simp [v4n h,h]
 ·simp [h]
def qnp (W:Nat→Nat→Int) (C:List Nat) (i k:Nat):Int:=W (C.getD i 0) (C.getD k 0)
end Go.Ab
namespace Go.Proofs.YtmlegeeinnkhkaaGreat
open Go Go.Ab
def qe6 (v:Value):Bool:=decide ((v.Kind=0∧v.Num=0∧v.Str=[])∨(v.Kind=1∧v.Str=[])∨(v.Kind=2∧v.Num=0∧v.Str.length≤200)∨(v.Kind=3∧1≤v.Num∧v.Str=[]))
theorem qng (v:Value):qkj v=some (qe6 v):=by
 simp only [qkj,qe6]
 repeat' split
 all_goals simp_all
 all_goals (try omega)
 all_goals (try (rw [v3v];simp <;> omega))
theorem qtq (v:Value):qfp v=some (qe6 v):=by
 simp only [qfp,qe6]
 repeat' split
 all_goals simp_all
 all_goals (try omega)
 all_goals (try (rw [v3v];simp <;> omega))
theorem q6z (l:List Value) (hl:l.length≤1073741824):qi7 l=some (l.all qe6):=by
 have h:=qos l (fun (_:Unit) i=>i) (qd1 l) (fun (_:Unit) x=>if qe6 x then Sum.inl () else Sum.inr (Sum.inr false)) (fun _=>Sum.inl ()) (fun _ _=>True) (b0:=()) (s0:=0) rfl trivial
  (fun k b x hx hk _=>by
   constructor
   ·intro b' hf;refine ⟨?_,trivial⟩;have hv:qe6 x=true:=by
     by_cases hc:qe6 x=true
     ·exact hc
     ·simp [hc] at hf
    simp [qd1,qai hx,qaa hx,qtq,hv,qat hk (by omega)]
   ·intro t hf;have hv:qe6 x=false:=by
     by_cases hc:qe6 x=true
     ·simp [hc] at hf
     ·simpa using hc
    simp [hv] at hf;subst hf;simp [qd1,qai hx,qaa hx,qtq,hv])
  (fun b _=>by simp [qd1])
 simp only [qi7];rw [h,q9t];cases h2:l.all qe6 <;> simp [h2]
def sgn (a b:Int):Int:=if a < b then -1 else if b < a then 1 else 0
theorem qsd (a b:Int):qdr a b=some (sgn a b):=by
 simp only [qdr,sgn];split <;> (try split) <;> simp_all
theorem vgk (a b:Int):qkt a b=some (sgn a b):=by
 simp only [qkt,qmk,sgn];simp;split <;> (try split) <;> simp_all
theorem qp6 (a b:Int):qek a b=some (sgn a b):=by
 simp only [qek,qkl,sgn];simp;split <;> (try split) <;> simp_all
def qrg:List UInt8→List UInt8→Int
 | [],[]=>0
 | [],_ :: _=>-1
 | _ :: _,[]=>1
 | a :: x,b :: y=>if a=b then qrg x y else sgn a.toNat b.toNat
theorem qtr:∀a b:List UInt8,v4c a b=qrg a b
 | [],[]=>rfl
 | [],_ :: _=>rfl
 | _ :: _,[]=>rfl
 | x :: a,y :: b=>by
  simp only [v4c,qrg,sgn,qtr a b,UInt8.lt_iff_toNat_lt,←UInt8.toNat_inj];split <;> split <;> (try split) <;> (try split) <;> omega
theorem qp7 (a b:List UInt8):qim a b=some (qrg a b):=by
 simp [qim,qhu,qtr]
theorem vp1 {a b:Int} (h:a≠b):sgn a b≠0:=by
 unfold sgn;split <;> (try split) <;> omega
theorem vnx (a:Int):sgn a a=0:=by unfold sgn;simp
theorem q9z (a b:List UInt8) (ha:a.length≤1073741824):∀(r:List UInt8) (k:Nat),a.drop k=r→k≤a.length→k≤b.length→
  (∃o,qae (qbi a b) (k:Int)=some o∧(match o with | .inl ()=>sgn (r.length) ((b.drop k).length)=qrg r (b.drop k) | .inr z=>z=qrg r (b.drop k))):=by
 intro r
 induction r with
 | nil =>
  intro k hd hk hkb;have hk':k=a.length:=by
   have:=congrArg v4o hd;simp at this;omega
  subst hk';refine ⟨.inl (),qad (by simp [qbi]),?_⟩;cases hb:b.drop a.length with
  | nil=>rfl
  | cons y s=>simp [qrg,sgn]
 | cons x r ih =>
  intro k hd hk hkb;have hx:a[k]?=some x:=by
   have:=congrArg (·[0]?) hd;simpa [vz8] using this
  have hd':a.drop (k+1)=r:=by rw [←v4h,hd];rfl
  have hlt:=qan hx;cases hb:b.drop k with
  | nil =>
   have hkb':k=b.length:=by
    have:=congrArg v4o hb;simp at this;omega
   subst hkb';refine ⟨.inl (),qad (by simp [qbi]),?_⟩;simp [qrg,sgn];omega
  | cons y s =>
   have hy:b[k]?=some y:=by
    have:=congrArg (·[0]?) hb;simpa [vz8] using this
   have hb':b.drop (k+1)=s:=by rw [←v4h,hb];rfl
   by_cases hxy:x=y
   ·subst hxy;have h1:qbi a b (k:Int)=some (.next ((k+1:Nat):Int)):=by
     simp [qbi,qai hx,qai hy,qaa hx,qaa hy,qat hlt (by omega)]
    obtain ⟨o,h2,h3⟩:=ih (k+1) hd' hlt (qan hy);refine ⟨o,by rw [qac h1];exact h2,?_⟩;rw [hb'] at h3;cases o with
    | inl u =>
     simp only at h3 ⊢;rw [qrg,if_pos rfl,←h3];simp only [v2p,sgn];split <;> split <;> (try split) <;> (try split) <;> omega
    | inr z =>
     simp only at h3 ⊢;rw [qrg,if_pos rfl,←h3]
   ·have hne:(((x.toNat:Nat):Int) != ((y.toNat:Nat):Int))=true:=by
     simp only [bne_iff_ne,ne_eq,v31,UInt8.toNat_inj];exact hxy
    refine ⟨.inr (sgn x.toNat y.toNat),qad ?_,?_⟩
    ·simp only [qbi,if_pos (qai hx),if_pos (qai hy),qaa hx,qaa hy,v1r,if_pos hne,vst,qsd]
    ·simp only [qrg,if_neg hxy]
theorem q3j (a b:List UInt8) (ha:a.length≤1073741824):qh2 a b=some (qrg a b):=by
 obtain ⟨o,h1,h2⟩:=q9z a b ha a 0 (by simp) (v3n _) (v3n _);simp only [qh2];have h1':qae (qbi a b) 0=some o:=h1;rw [h1'];cases o with
 | inl u =>
  simp only [v4i] at h2;simp [qsd,h2]
 | inr z =>
  simp only [v4i] at h2;simp [h2]
def qts (a b:Value):Int:=if sgn a.Kind b.Kind≠0 then sgn a.Kind b.Kind else if sgn a.Num b.Num≠0 then sgn a.Num b.Num else qrg a.Str b.Str
theorem qlt (a b:Value) (ha:a.Str.length≤1073741824):qb5 a b=some (qts a b):=by
 simp only [qb5,qsd,q3j _ _ ha,qts,v1r];split <;> (try split) <;> (try split) <;> simp_all
theorem vyf (a b c:Int):qrb [a,b,c]=some (if a≠0 then a else if b≠0 then b else c):=by
 simp only [qrb];have w0:v4a.wrap 1=1:=by decide
 have w1:v4a.wrap 2=2:=by decide
 have w2:v4a.wrap 3=3:=by decide
 by_cases h1:a=0
 ·by_cases h2:b=0
  ·by_cases h3:c=0
   ·rw [qac (s':=1) (by simp [qc8,idx,h1,w0]),qac (s':=2) (by simp [qc8,idx,h2,w1]),qac (s':=3) (by simp [qc8,idx,h3,w2]),qad (t:=.inl ()) (by simp [qc8])];simp [h1,h2,h3]
   ·rw [qac (s':=1) (by simp [qc8,idx,h1,w0]),qac (s':=2) (by simp [qc8,idx,h2,w1]),qad (t:=.inr c) (by simp [qc8,idx,h3])];simp [h1,h2]
  ·rw [qac (s':=1) (by simp [qc8,idx,h1,w0]),qad (t:=.inr b) (by simp [qc8,idx,h2])];simp [h1,h2]
 ·rw [qad (t:=.inr a) (by simp [qc8,idx,h1])];simp [h1]
theorem qz7 (a b:Value):qk5 a b=some (qts a b):=by
 simp only [qk5,vgk,qp6,qp7,v1r,vyf,qts]
theorem vj6:∀a b:List UInt8,qrg a b=0↔a=b
 | [],[]=>by simp [qrg]
 | [],_ :: _=>by simp [qrg]
 | _ :: _,[]=>by simp [qrg]
 | x :: a,y :: b=>by
  simp only [qrg];by_cases h:x=y
  ·subst h;simp [vj6 a b]
  ·have:sgn x.toNat y.toNat≠0:=vp1 (by simpa [v31,UInt8.toNat_inj] using h);simp [h,this]
theorem qnh (a b:Int):sgn a b=0↔a=b:=by
 unfold sgn;split <;> (try split) <;> omega
theorem qse (a b:Value):qts a b=0↔a=b:=by
 unfold qts;cases a;cases b;simp only [Value.mk.injEq];split
 ·rename_i h;simp only [ne_eq,qnh] at h;simp [qnh,h]
 ·rename_i h;simp only [ne_eq,qnh,Decidable.not_not] at h;split
  ·rename_i h2;simp only [ne_eq,qnh] at h2;simp [qnh,h2]
  ·rename_i h2;simp only [ne_eq,qnh,Decidable.not_not] at h2;simp [vj6,h,h2]
def veq (a b:Value):Bool:=(a.Kind == b.Kind) && ((a.Num == b.Num) && (a.Str == b.Str))
theorem q60 (a b:Value):veq a b=true↔a=b:=by
 cases a;cases b;simp [veq]
theorem vyg (a b:Value):veq a b=decide (a=b):=by
 rw [v3v,q60];simp
def qn4:List Row→Int
 | []=>12
 | r :: l=>if (r :: l).all (fun x=>x.Values.length == r.Values.length) then 0 else 6
theorem q90 (rows:List Row) (hl:rows.length≤1073741824):qh4 rows=some (qn4 rows):=by
 cases rows with
 | nil=>rfl
 | cons r l =>
  have h:=qls (r :: l) (qdh (r :: l)) (fun x=>x.Values.length == r.Values.length) 6
   (fun k x hx hk hp=>by
    have hp':¬(((x.Values.length:Int) != (r.Values.length:Int))=true):=by simp at hp ⊢;omega
    simp only [qdh,if_pos (qai hx),qaa hx,v1r,v2j,if_neg hp',qat hk (by omega)])
   (fun k x hx hp=>by
    have hp':(((x.Values.length:Int) != (r.Values.length:Int))=true):=by simp at hp ⊢;omega
    simp only [qdh,if_pos (qai hx),qaa hx,v1r,v2j,if_pos hp'])
   (by simp [qdh])
  have hn:¬((((r :: l).length:Int) == 0)=true):=by simp;omega
  simp only [qh4,if_neg hn,h,v1r,qn4];cases ((r :: l).all fun x=>x.Values.length == r.Values.length) <;> rfl
theorem qxr (l:List Value) (f:Value→Option Bool) (p:Value→Bool) (hf:∀x∈l,f x=some (p x)) (hl:l.length≤1073741824):qec l f=some (match l.findIdx? p with | some i=>(i:Int) | none=>-1):=by
 have h:=qjb l (qbz l f) p
  (fun k x hx hk hp=>by simp [qbz,qai hx,qaa hx,hf x (v0t hx),hp,qat hk (by omega)])
  (fun k x hx hp=>by simp [qbz,qai hx,qaa hx,hf x (v0t hx),hp])
  (by simp [qbz])
 simp only [qec,h,v1r];cases l.findIdx? p <;> rfl
theorem qsx (l:List Row) (f:Row→Option Bool) (p:Row→Bool) (hf:∀x∈l,f x=some (p x)) (hl:l.length≤1073741824):qd0 l f=some (match l.findIdx? p with | some i=>(i:Int) | none=>-1):=by
 have h:=qjb l (qcl l f) p
  (fun k x hx hk hp=>by simp [qcl,qai hx,qaa hx,hf x (v0t hx),hp,qat hk (by omega)])
  (fun k x hx hp=>by simp [qcl,qai hx,qaa hx,hf x (v0t hx),hp])
  (by simp [qcl])
 simp only [qd0,h,v1r];cases l.findIdx? p <;> rfl
theorem qwe {α:Type} (p:α→Bool) (l:List α):decide ((match l.findIdx? p with | some i=>((i:Nat):Int) | none=>-1)≥0)=l.any p:=by
 cases h:l.findIdx? p with
 | none =>
  rw [List.findIdx?_eq_none_iff] at h;have:l.any p=false:=by rw [List.any_eq_false];intro x hx;simp [h x hx]
  rw [this];rfl
 | some i =>
  have:l.any p=true:=by
   rw [List.findIdx?_eq_some_iff_getElem] at h;obtain ⟨hi,hp,_⟩:=h;rw [List.any_eq_true];exact ⟨_,List.getElem_mem hi,hp⟩
  rw [this];simp
theorem qnq (l:List Value) (f:Value→Option Bool) (p:Value→Bool) (hf:∀x∈l,f x=some (p x)) (hl:l.length≤1073741824):qbk l f=some (l.any p):=by
 simp only [qbk,qxr l f p hf hl,v1r,qwe]
def qrh:Int→List Row→Bool
 | _,[]=>true
 | a,r :: l=>decide (a < r.ID) && r.Values.all qe6 && qrh r.ID l
theorem vd8 {ρ:Type} (bad:ρ):∀(l:List Row) (a:Int),qux (fun (a:Int) (r:Row)=>if decide (a < r.ID) && r.Values.all qe6 then Sum.inl r.ID else Sum.inr (Sum.inr bad)) (fun _=>(Sum.inl ():Unit ⊕ ρ)) l a=if qrh a l then .inl () else .inr bad
 | [],_=>rfl
 | r :: l,a=>by
  simp only [qux,qrh];rcases v3u (decide (a < r.ID) && r.Values.all qe6) with h | h
  ·simp only [h,if_true,v3z];exact vd8 bad l r.ID
  ·simp [h]
theorem q3k (rows:List Row) (hl:rows.length≤1073741824) (hv:∀r∈rows,r.Values.length≤1073741824):qfz rows=some (if qrh 0 rows then 0 else 1):=by
 have h:=qos rows (fun (a:Int) i=>(a,i)) (qcm rows) (fun (a:Int) (r:Row)=>if decide (a < r.ID) && r.Values.all qe6 then Sum.inl r.ID else Sum.inr (Sum.inr 1)) (fun _=>Sum.inl ()) (fun _ _=>True) (b0:=0) (s0:=(0,0)) rfl trivial
  (fun k a x hx hk _=>by
   have hc:qbk x.Values (fun y=>qc5 y)=some (x.Values.any fun v=>!qe6 v) :=
    qnq _ _ _ (fun y _=>by simp [qc5,qng]) (hv x (v0t hx))
   have ha:(x.Values.any fun v=>!qe6 v)=!x.Values.all qe6:=by simp [v4e]
   rw [ha] at hc;have hB:qcm rows (a,(k:Int))=if decide (a < x.ID) && x.Values.all qe6 then some (.next (x.ID,((k+1:Nat):Int))) else some (.done (.inr 1)):=by
    simp only [qcm,if_pos (qai hx),qaa hx,v1r,hc,qat hk (by omega)];by_cases h1:a < x.ID
    ·have:¬x.ID≤a:=by omega
     simp only [if_neg this,h1,decide_true,v3z];cases x.Values.all qe6 <;> simp
    ·have:x.ID≤a:=by omega
     simp [this,h1]
   constructor
   ·intro b' hf;refine ⟨?_,trivial⟩;split at hf
    ·cases hf;rw [hB];simp_all
    ·cases hf
   ·intro t hf;split at hf
    ·cases hf
    ·cases hf;rw [hB];simp_all)
  (fun b _=>by simp [qcm])
 simp only [qfz,h,vd8,v1r];cases qrh 0 rows <;> rfl
theorem q12 (a b:Int):sgn a b < 0↔a < b:=by unfold sgn;split <;> (try split) <;> omega
theorem vcs (a b:Int):sgn b a=- sgn a b:=by unfold sgn;split <;> (try split) <;> (try split) <;> omega
theorem q61:∀a b:List UInt8,qrg b a=- qrg a b
 | [],[]=>rfl
 | [],_ :: _=>rfl
 | _ :: _,[]=>rfl
 | x :: a,y :: b=>by
  simp only [qrg];by_cases h:x=y
  ·subst h;simp [q61 a b]
  ·have h':¬y=x:=fun e=>h e.symm
   simp only [if_neg h,if_neg h'];exact vcs _ _
theorem q40:∀a b c:List UInt8,qrg a b < 0→qrg b c < 0→qrg a c < 0
 | [],[],_,h,_=>by simp [qrg] at h
 | [],_ :: _,[],_,h=>by simp [qrg] at h
 | [],_ :: _,_ :: _,_,_=>by simp [qrg]
 | _ :: _,[],_,h,_=>by simp [qrg] at h
 | _ :: _,_ :: _,[],_,h=>by simp [qrg] at h
 | x :: a,y :: b,z :: c,h1,h2=>by
  simp only [qrg] at h1 h2 ⊢;have ix:∀p q:UInt8,p=q↔(p.toNat:Int)=q.toNat:=fun p q=>by rw [v31,UInt8.toNat_inj]
  by_cases hxy:x=y
  ·subst hxy;by_cases hxz:x=z
   ·subst hxz;simp only [if_pos] at h1 h2 ⊢;exact q40 a b c h1 h2
   ·simp only [if_neg hxz] at h2 ⊢;exact h2
  ·simp only [if_neg hxy,q12] at h1;by_cases hyz:y=z
   ·subst hyz;simp only [if_neg hxy,q12];exact h1
   ·simp only [if_neg hyz,q12] at h2;have hxz:¬x=z:=by rw [ix];omega
    simp only [if_neg hxz,q12];omega
theorem vsv (a b:Value):qts a b < 0↔a.Kind < b.Kind∨(a.Kind=b.Kind∧(a.Num < b.Num∨(a.Num=b.Num∧qrg a.Str b.Str < 0))):=by
 unfold qts;split
 ·rename_i h;rw [ne_eq,qnh] at h;rw [q12];omega
 ·rename_i h;rw [ne_eq,qnh,Decidable.not_not] at h;split
  ·rename_i h2;rw [ne_eq,qnh] at h2;rw [q12];omega
  ·rename_i h2;rw [ne_eq,qnh,Decidable.not_not] at h2;constructor
   ·intro h3;exact .inr ⟨h,.inr ⟨h2,h3⟩⟩
   ·rintro (h3 | ⟨_,h3 | ⟨_,h3⟩⟩)
    ·omega
    ·omega
    ·exact h3
theorem q41 (a b c:Value) (h1:qts a b < 0) (h2:qts b c < 0):qts a c < 0:=by
 rw [vsv] at *;rcases h1 with h1 | ⟨h1,h1' | ⟨h1',h1''⟩⟩ <;> rcases h2 with h2 | ⟨h2,h2' | ⟨h2',h2''⟩⟩ <;> try omega
 exact .inr ⟨by omega,.inr ⟨by omega,q40 _ _ _ h1'' h2''⟩⟩
theorem q0k (a b:Value):qts b a=- qts a b:=by
 unfold qts;rw [vcs a.Kind,vcs a.Num,q61 a.Str];split <;> (try split) <;> (try split) <;> (try split) <;> omega
theorem q91 (a:Value):qts a a=0:=(qse a a).2 rfl
def qif (cnt:Value→Int) (rule:Int) (v b:Value):Bool :=
 if rule=2 then decide (cnt v > cnt b) else if rule=3 then decide (v.Kind=2) && (decide (b.Kind≠2) || decide ((v.Str.length:Int) > b.Str.length))
 else if rule=4 then decide (qts v b < 0) else if rule=5 then decide (qts v b > 0) else false
theorem q42 (cnt:Value→Int) (rule:Int) (v:Value):qif cnt rule v v=false:=by
 unfold qif
 repeat' split
 all_goals simp [q91]
theorem q92 (cnt:Value→Int) (rule:Int) (y v b:Value) (h1:qif cnt rule y v=true) (h2:qif cnt rule v b=true):qif cnt rule y b=true:=by
 unfold qif at *;split at h1
 ·rename_i hr;simp only [hr,if_true,decide_eq_true_eq] at *;omega
 ·rename_i hr;simp only [if_neg hr] at h2 ⊢;split at h1
  ·rename_i hr;simp only [hr,if_true,decide_eq_true_eq,vzm,Bool.or_eq_true] at *;obtain ⟨a1,a2⟩:=h1;obtain ⟨b1,b2⟩:=h2;refine ⟨a1,?_⟩;rcases b2 with b2 | b2
   ·exact .inl b2
   ·rcases a2 with a2 | a2
    ·exact absurd b1 a2
    ·exact .inr (by omega)
  ·rename_i hr;simp only [if_neg hr] at h2 ⊢;split at h1
   ·rename_i hr;simp only [hr,if_true,decide_eq_true_eq] at *;exact q41 _ _ _ h1 h2
   ·rename_i hr;simp only [if_neg hr] at h2 ⊢;split at h1
    ·rename_i hr;simp only [hr,if_true,decide_eq_true_eq] at *;rw [q0k b] at *;have e1:qts b v < 0:=by have:=q0k v b;omega
     have e2:qts v y < 0:=by have:=q0k y v;omega
     have:=q41 _ _ _ e1 e2;have:=q0k b y;omega
    ·cases h1
theorem vny (l:List Value) (v:Value) (hl:l.length≤1073741824):qka l v=some ((l.countP (veq · v):Nat):Int):=by
 have h:=qb3 l (fun (n:Nat) i=>((n:Int),i)) (qgh l v) (fun n x=>n+if veq x v then 1 else 0) (fun n=>(n:Int)) (fun k n=>n≤k) (b0:=0) (s0:=(0,0)) rfl (v1f _)
  (fun k n x hx hk hI=>by
   have e1:v4a.wrap ((n:Int)+1)=((n+1:Nat):Int):=qk6 (by omega);refine ⟨?_,by split <;> omega⟩;rcases v3u (veq x v) with hv | hv
   ·have hv':=hv;unfold veq at hv';simp only [qgh,if_pos (qai hx),qaa hx,v1r,hv',if_true,e1,qat hk (by omega),hv]
   ·have hv':=hv;unfold veq at hv';simp only [qgh,if_pos (qai hx),qaa hx,v1r,hv',vzo,if_false,e1,qat hk (by omega),hv,Nat.add_zero])
  (fun n _=>by simp [qgh])
 simp only [qka,h,v1r];congr 2;have:∀(r:List Value) (n:Nat),r.foldl (fun n x=>n+if veq x v then 1 else 0) n=n+r.countP (veq · v):=by
  intro r
  induction r with
  | nil=>intro n;rfl
  | cons x r ih=>intro n;rw [v4m,ih,v4g];omega
 rw [this];simp
theorem vj7 (l:List Value) (v b:Value) (rule:Int) (hl:l.length≤1073741824):qi9 l v b rule=some (qif (fun x=>((l.countP (veq · x):Nat):Int)) rule v b):=by
 simp only [qi9,vny _ _ hl,qz7,v1r,qif];by_cases h2:rule=2
 ·simp [h2]
 ·by_cases h3:rule=3
  ·simp only [h3];by_cases hk:v.Kind=2 <;> by_cases hb:b.Kind=2 <;> simp [hk,hb]
  ·by_cases h4:rule=4
   ·simp [h4]
   ·by_cases h5:rule=5
    ·simp [h5]
    ·simp [h2,h3,h4,h5]
def qav (r:Row) (a:Nat):Value:=r.Values.getD a ⟨0,0,[]⟩
def Has (rows:List Row) (a:Nat):Prop:=∀r∈rows,r.Values[a]?=some (qav r a)
def q93 (rows:List Row):Prop:=∀r∈rows,∀v∈r.Values,v.Str.length≤1073741824
theorem vnz (rows:List Row) (a:Nat) (v:Value) (hl:rows.length≤1073741824) (ha:Has rows a) (hs:q93 rows):qhr rows a v=some (((rows.map (qav · a)).countP (veq · v):Nat):Int):=by
 have h:=qb3 rows (fun (n:Nat) i=>((n:Int),i)) (qg6 rows a v) (fun n x=>n+if veq (qav x a) v then 1 else 0) (fun n=>(n:Int)) (fun k n=>n≤k) (b0:=0) (s0:=(0,0)) rfl (v1f _)
  (fun k n x hx hk hI=>by
   have e1:v4a.wrap ((n:Int)+1)=((n+1:Nat):Int):=qk6 (by omega);refine ⟨?_,by split <;> omega⟩;have hm:=v0t hx;have hc:=ha x hm;have hsh:=hs x hm _ (v0t hc);simp only [qg6,if_pos (qai hx),qaa hx,qaa hc,v1r,qlt _ _ hsh,qat hk (by omega),e1];by_cases hv:qav x a=v
   ·have e2:veq (qav x a) v=true:=(q60 _ _).2 hv;have e3:(qts (qav x a) v == 0)=true:=by simp [qse,hv]
    simp only [e2,e3,if_true]
   ·have e2:veq (qav x a) v=false:=by rw [v18];exact fun h=>hv ((q60 _ _).1 h)
    have e3:¬(qts (qav x a) v == 0)=true:=by simp [qse,hv]
    simp only [e2,if_neg e3,vzo,if_false,Nat.add_zero])
  (fun n _=>by simp [qg6])
 simp only [qhr,h,v1r];congr 2;have:∀(r:List Row) (n:Nat),r.foldl (fun n x=>n+if veq (qav x a) v then 1 else 0) n=n+(r.map (qav · a)).countP (veq · v):=by
  intro r
  induction r with
  | nil=>intro n;rfl
  | cons x r ih=>intro n;rw [v4m,ih,v0p,v4g];omega
 rw [this];simp
theorem q62 (rows:List Row) (a:Nat) (rule:Int) (v b:Value) (hl:rows.length≤1073741824) (ha:Has rows a) (hs:q93 rows) (hv:v.Str.length≤1073741824) :
  qja rows a rule v b=some (qif (fun x=>(((rows.map (qav · a)).countP (veq · x):Nat):Int)) rule v b):=by
 simp only [qja,vnz _ _ _ hl ha hs,qlt _ _ hv,v1r,qif];by_cases h2:rule=2
 ·simp [h2]
 ·by_cases h3:rule=3
  ·simp only [h3];by_cases hk:v.Kind=2 <;> by_cases hb:b.Kind=2 <;> simp [hk,hb]
  ·by_cases h4:rule=4
   ·simp only [h4];by_cases hc:qts v b < 0 <;> simp [hc]
   ·by_cases h5:rule=5
    ·simp [h5]
    ·simp [h2,h3,h4,h5]
def quy {β:Type} (B:Value→Value→Bool) (o:Value×β) (x:Value×β):Value×β:=if B x.1 o.1 then x else o
theorem q13 {β:Type} (B:Value→Value→Bool) (irr:∀v,B v v=false) (tr:∀y v b,B y v=true→B v b=true→B y b=true):∀(r P:List (Value×β)) (o:Value×β),
  P.find? (fun p=>p.1 == o.1)=some o→(∀p∈P,B p.1 o.1=false)→(P++r).find? (fun p=>p.1 == (r.foldl (quy B) o).1)=some (r.foldl (quy B) o)
 | [],P,o,h1,_=>by simpa using h1
 | x :: r,P,o,h1,h2=>by
  have e:P++x :: r=(P++[x])++r:=by simp
  rw [e,v4m];refine q13 B irr tr r (P++[x]) _ ?_ ?_
  ·unfold quy;split
   ·rename_i hb;rw [v4k];have:P.find? (fun p=>p.1 == x.1)=none:=by
     rw [List.find?_eq_none];intro p hp;intro he;have he':p.1=x.1:=by simpa using he
     have:=h2 p hp;rw [he',hb] at this;cases this
    rw [this];simp
   ·rw [v4k,h1];rfl
  ·intro p hp;unfold quy;rcases List.mem_append.1 hp with hp | hp
   ·split
    ·rename_i hb;rw [v18];intro hy;have:=tr _ _ _ hy hb;rw [h2 p hp] at this;cases this
    ·exact h2 p hp
   ·simp only [v3d] at hp;subst hp;split
    ·exact irr _
    ·rename_i hb;simpa using hb
theorem q94 {β:Type} (B:Value→Value→Bool):∀(r:List (Value×β)) (o:Value×β),(r.foldl (quy B) o).1=(r.map (·.1)).foldl (fun b v=>if B v b then v else b) o.1
 | [],_=>rfl
 | x :: r,o=>by
  rw [v4m,q94 B r,v0p,v4m];congr 1;unfold quy;split <;> rfl
def nn (rows:List Row) (a:Nat):List Row:=rows.filter fun r=>(qav r a).Kind != 0
theorem vp2 (rows:List Row) (a:Nat):(nn rows a).map (qav · a)=(rows.map (qav · a)).filter (fun v=>v.Kind != 0):=by
 unfold nn;rw [List.filter_map];rfl
def qsy (rows:List Row) (a:Nat) (rule:Int):Value×Int :=
 match nn rows a with
 | []=>(⟨0,0,[]⟩,(rows[0]?.map (·.ID)).getD 0)
 | r :: l=>(l.map fun x=>(qav x a,x.ID)).foldl (quy (qif (fun x=>(((rows.map (qav · a)).countP (veq · x):Nat):Int)) rule)) (qav r a,r.ID)
theorem q95 {α:Type} (p:α→Bool) (l:List α) {x:α} (h:l.find? p=some x):∃i,l.findIdx? p=some i∧l[i]?=some x:=by
 induction l with
 | nil=>cases h
 | cons y r ih =>
  rw [List.find?_cons] at h;rw [v4l];split at h
  ·rename_i hp;cases h;exact ⟨0,by simp [hp],rfl⟩
  ·rename_i hp;obtain ⟨i,h1,h2⟩:=ih h;exact ⟨i+1,by simp [hp,h1],by simpa using h2⟩
theorem vn0 (vals:List Value) (x:Value) (hx:x.Kind≠0):(vals.filter (fun v=>v.Kind != 0)).countP (veq · x)=vals.countP (veq · x):=by
 rw [List.countP_filter];apply List.countP_congr;intro v _;by_cases hv:veq v x=true
 ·have:=(q60 _ _).1 hv;subst this;simp [hv,hx]
 ·simp [hv]
theorem q63 {c d:Value→Int} {rule:Int} {v b:Value} (h1:c v=d v) (h2:c b=d b):qif c rule v b=qif d rule v b:=by
 unfold qif;rw [h1,h2]
theorem vj8 (rows:List Row) (a:Nat) (rule:Int) (hne:rows≠[]) (hl:rows.length≤1073741824) (ha:Has rows a):qku rows a rule=some (qsy rows a rule):=by
 obtain ⟨r0,rs,rfl⟩:∃r l,rows=r :: l:=by cases rows with | nil=>exact absurd rfl hne | cons r l=>exact ⟨r,l,rfl⟩
 generalize hrows:r0 :: rs=rows at *;have h0:rows[0]?=some r0:=by rw [←hrows];rfl
 -- the first loop
 have h:=qb3 rows (fun (l:List Value) i=>(l,i)) (qh5 rows a) (fun l x=>l++if (qav x a).Kind != 0 then [qav x a] else []) id (fun k l=>l.length≤k) (b0:=[]) (s0:=([],0)) rfl (v1f _)
  (fun k l x hx hk hI=>by
   have hc:=ha x (v0t hx);simp only [qh5,if_pos (qai hx),qaa hx,qaa hc,v1r,qat hk (by omega)];by_cases hz:((qav x a).Kind != 0)=true
   ·have hr:qal (l.length+1) 32=true:=qf2 (by omega) (by omega);simp only [hz,hr,if_true];exact ⟨trivial,by simp;omega⟩
   ·simp only [hz,if_false,vzo,List.append_nil];exact ⟨trivial,by omega⟩)
  (fun l _=>by simp [qh5])
 have hf:∀(r:List Row) (l:List Value),r.foldl (fun l x=>l++if (qav x a).Kind != 0 then [qav x a] else []) l=l++(r.map (qav · a)).filter (fun v=>v.Kind != 0):=by
  intro r
  induction r with
  | nil=>intro l;simp
  | cons x r ih =>
   intro l;rw [v4m,ih,v0p,v4j];split <;> simp
 rw [hf] at h;simp only [id,List.nil_append] at h;rw [←vp2] at h;simp only [qku,h,v1r];have hnl:(nn rows a).length≤rows.length:=List.length_filter_le _ _;unfold qsy;cases hn:nn rows a with
 | nil=>simp [h0]
 | cons r l =>
  have hk0:∀x∈nn rows a,(qav x a).Kind≠0:=by
   intro x hx;have:=(v28.1 hx).2;simpa using this
  rw [hn] at hk0 hnl;have hz:¬((((((r :: l).map (qav · a)).length:Nat):Int) == 0)=true):=by simp;omega
  have h1:(1:Int)≤((((r :: l).map (qav · a)).length:Nat):Int):=by simp;omega
  rw [if_neg hz];simp only [v0p,v2j,v1r];rw [v0p] at h1;rw [if_pos h1]
  -- the second loop
  have ht:((qav r a :: l.map (qav · a)).drop 1).take ((qav r a :: l.map (qav · a)).length - 1)=l.map (qav · a):=by
   rw [List.drop_succ_cons,v4i,List.take_of_length_le];simp
  have hB:∀v b,v∈(qav r a :: l.map (qav · a))→b∈(qav r a :: l.map (qav · a)) →
    qi9 (qav r a :: l.map (qav · a)) v b rule=some (qif (fun x=>(((rows.map (qav · a)).countP (veq · x):Nat):Int)) rule v b):=by
   intro v b hv hb;rw [vj7 _ _ _ _ (by simp at hnl ⊢;omega)];have key:∀x,x∈(qav r a :: l.map (qav · a))→((qav r a :: l.map (qav · a)).countP (veq · x))=(rows.map (qav · a)).countP (veq · x):=by
    intro x hx;rw [←v0p (f:=(qav · a)),←hn,vp2];refine vn0 _ _ ?_;rw [←v0p (f:=(qav · a)),v3a] at hx;obtain ⟨y,hy,rfl⟩:=hx;exact hk0 y hy
   congr 1;exact q63 (by rw [key v hv]) (by rw [key b hb])
  have h2:=qb3 (l.map (qav · a)) (fun (b:Value) i=>(b,i)) (qh6 rule (qav r a :: l.map (qav · a))) (fun b v=>if qif (fun x=>(((rows.map (qav · a)).countP (veq · x):Nat):Int)) rule v b then v else b) id
   (fun k b=>b∈(qav r a :: l.map (qav · a))) (b0:=qav r a) (s0:=(qav r a,0)) rfl (by simp)
   (fun k b x hx hk hI=>by
    have hm:x∈(qav r a :: l.map (qav · a)):=v21 _ (v0t hx);have hlt:(k:Int) < (((qav r a :: l.map (qav · a)).length - 1:Nat):Int):=by simp at hk ⊢;omega
    simp only [qh6,if_pos hlt,ht,qaa hx,v1r,hB x b hm hI,qat hk (by simp at hnl ⊢;omega)];split
    ·exact ⟨rfl,hm⟩
    ·exact ⟨rfl,hI⟩)
   (fun b _=>by simp [qh6])
  simp only [id] at h2;rw [h2,v1r]
  -- the place
  have hfst:=q94 (qif (fun x=>(((rows.map (qav · a)).countP (veq · x):Nat):Int)) rule) (l.map fun x=>(qav x a,x.ID)) (qav r a,r.ID);have hff:=q13 (qif (fun x=>(((rows.map (qav · a)).countP (veq · x):Nat):Int)) rule) (q42 _ _) (q92 _ _) (l.map fun x=>(qav x a,x.ID)) [(qav r a,r.ID)] (qav r a,r.ID) (by simp) (by simp [q42]);generalize hR:(l.map fun x=>(qav x a,x.ID)).foldl (quy (qif (fun x=>(((rows.map (qav · a)).countP (veq · x):Nat):Int)) rule)) (qav r a,r.ID)=R at *;have e1:(l.map fun x=>(qav x a,x.ID)).map (·.1)=l.map (qav · a):=by rw [List.map_map];rfl
  rw [e1] at hfst;rw [←hfst];have hff':((nn rows a).map fun x=>(qav x a,x.ID)).find? (fun p=>p.1 == R.1)=some R:=by rw [hn,v0p];exact hff
  rw [List.find?_map] at hff';obtain ⟨x,hx1,hx2⟩:=Option.map_eq_some_iff.1 hff';have hx3:rows.find? (fun y=>veq (qav y a) R.1)=some x:=by
   unfold nn at hx1;rw [List.find?_filter] at hx1;rw [←hx1];congr 1;funext y;simp only [Function.comp];rw [vyg];by_cases hy:qav y a=R.1
   ·have hk:R.1.Kind≠0:=by
     have hxm:=List.mem_of_find?_eq_some hx1;have:=List.find?_some hx1;simp at this;rw [←this.2];exact this.1
    simp [hy,hk]
   ·simp [hy]
  obtain ⟨i,hi1,hi2⟩:=q95 _ _ hx3;have hIF:=qsx rows (fun y=>qgi y a R.1) (fun y=>veq (qav y a) R.1) (fun y hy=>by simp only [qgi,qaa (ha y hy),v1r];rfl) hl;rw [hIF,hi1];simp only [v1r,qaa hi2];rw [←hx2]
def qy2 (B:Value→Value→Bool) (a:Nat) (o:Drossref55_Result) (r:Row):Drossref55_Result :=
 if (qav r a).Kind != 0 && (o.Origin == 0 || B (qav r a) o.Value) then ⟨qav r a,r.ID⟩ else o
theorem q64 (B:Value→Value→Bool) (a:Nat):∀(rows:List Row) (o:Drossref55_Result),rows.foldl (qy2 B a) o=(nn rows a).foldl (qy2 B a) o
 | [],_=>rfl
 | r :: l,o=>by
  unfold nn;rw [v4m,v4j];by_cases h:((qav r a).Kind != 0)=true
  ·rw [if_pos h,v4m];exact q64 B a l _
  ·rw [if_neg h];have:qy2 B a o r=o:=by unfold qy2;simp [h]
   rw [this];exact q64 B a l o
theorem q43 (B:Value→Value→Bool) (a:Nat):∀(l:List Row) (o:Drossref55_Result),o.Origin≠0→(∀r∈l,(qav r a).Kind≠0∧r.ID≠0) →
  l.foldl (qy2 B a) o=⟨((l.map fun x=>(qav x a,x.ID)).foldl (quy B) (o.Value,o.Origin)).1,((l.map fun x=>(qav x a,x.ID)).foldl (quy B) (o.Value,o.Origin)).2⟩∧(l.foldl (qy2 B a) o).Origin≠0
 | [],o,h,_=>⟨rfl,h⟩
 | r :: l,o,h,hr=>by
  have h1:=(hr r (by simp)).1;have h2:=(hr r (by simp)).2;rw [v4m,v0p,v4m];have hs:qy2 B a o r=⟨(quy B (o.Value,o.Origin) (qav r a,r.ID)).1,(quy B (o.Value,o.Origin) (qav r a,r.ID)).2⟩:=by
   unfold qy2 quy;by_cases hb:B (qav r a) o.Value=true
   ·simp [hb,h1]
   ·simp [hb,h]
  rw [hs];exact q43 B a l _ (by unfold quy;split <;> simp [h,h2]) (fun x hx=>hr x (by simp [hx]))
theorem vsw (rows:List Row) (a:Nat) (rule:Int) (hne:rows≠[]) (hl:rows.length≤1073741824) (ha:Has rows a) (hs:q93 rows) (hid:∀r∈rows,r.ID≠0) :
  qkw rows a rule=some ⟨(qsy rows a rule).1,(qsy rows a rule).2⟩:=by
 generalize hB:qif (fun x=>(((rows.map (qav · a)).countP (veq · x):Nat):Int)) rule=B;have h:=qb3 rows (fun (o:Drossref55_Result) i=>(o,i)) (qh9 rows a rule) (qy2 B a) id (fun _ _=>True) (b0:=⟨⟨0,0,[]⟩,0⟩) (s0:=(⟨⟨0,0,[]⟩,0⟩,0)) rfl trivial
  (fun k o x hx hk _=>by
   have hm:=v0t hx;have hc:=ha x hm;have hsh:=hs x hm _ (v0t hc);refine ⟨?_,trivial⟩;simp only [qh9,if_pos (qai hx),qaa hx,qaa hc,v1r,qat hk (by omega),q62 rows a rule _ _ hl ha hs hsh,hB,qy2];by_cases h1:((qav x a).Kind != 0)=true
   ·by_cases h2:(o.Origin == 0)=true
    ·simp [h1,h2]
    ·by_cases h3:B (qav x a) o.Value=true
     ·simp [h1,h2,h3]
     ·simp [h1,h2,h3]
   ·simp [h1])
  (fun o _=>by simp [qh9])
 simp only [qkw,h,id,v1r];rw [q64];obtain ⟨r0,rs,hrows⟩:∃r l,rows=r :: l:=by cases rows with | nil=>exact absurd rfl hne | cons r l=>exact ⟨r,l,rfl⟩
 have h0:rows[0]?=some r0:=by rw [hrows];rfl
 unfold qsy;rw [hB];cases hn:nn rows a with
 | nil=>simp [h0]
 | cons r l =>
  have hk0:∀x∈nn rows a,(qav x a).Kind≠0∧x.ID≠0:=by
   intro x hx;have:=v28.1 hx;exact ⟨by simpa using this.2,hid x this.1⟩
  rw [hn] at hk0;have hr:=hk0 r (by simp);rw [v4m];have hs1:qy2 B a ⟨⟨0,0,[]⟩,0⟩ r=⟨qav r a,r.ID⟩:=by unfold qy2;simp [hr.1]
  rw [hs1];obtain ⟨e1,e2⟩:=q43 B a l ⟨qav r a,r.ID⟩ hr.2 (fun x hx=>hk0 x (by simp [hx]));have e3:¬(((l.foldl (qy2 B a) ⟨qav r a,r.ID⟩).Origin == 0)=true):=by simpa using e2
  rw [if_neg e3,e1]
theorem q44:∀(l:List Row) (a:Int),0≤a→qrh a l=true→∀r∈l,r.ID≠0
 | [],_,_,_,r,hr=>by cases hr
 | x :: l,a,ha,h,r,hr=>by
  simp only [qrh,vzm,decide_eq_true_eq] at h;rcases v2z.1 hr with e | e
  ·subst e;omega
  ·exact q44 l x.ID (by omega) h.2 r e
theorem qzt {rows:List Row} (h:qn4 rows=0):rows≠[]∧∀r0,rows[0]?=some r0→∀r∈rows,r.Values.length=r0.Values.length:=by
 cases rows with
 | nil=>cases h
 | cons x l =>
  refine ⟨by simp,fun r0 h0 r hr=>?_⟩;simp only [v2j,v1x] at h0;subst h0;simp only [qn4] at h;split at h
  ·rename_i hc;have:=List.all_eq_true.1 hc r hr;simpa using this
  ·cases h
theorem vp3 {rows:List Row} (h:qn4 rows=0) {r0:Row} (h0:rows[0]?=some r0) {a:Nat} (ha:a < r0.Values.length):Has rows a:=by
 intro r hr;have:=(qzt h).2 r0 h0 r hr;have hlt:a < r.Values.length:=by omega
 simp [qav,List.getD,vz9 hlt]
structure RowsOk (rows:List Row):Prop where
 len:rows.length≤1073741824
 vals:∀r∈rows,r.Values.length≤1073741824
 short:q93 rows
theorem qzu (r:Int):qfl r=some (decide (1≤r) && decide (r≤5)):=by
 simp only [qfl];by_cases h:1≤r <;> simp [h]
def choice (rows:List Row) (attr rule:Int):Value×Int×Int :=
 if qn4 rows≠0 then (⟨0,0,[]⟩,0,qn4 rows)
 else if attr < 0∨((rows[0]?.map (·.Values.length)).getD 0:Nat)≤attr then (⟨0,0,[]⟩,0,6)
 else if qrh 0 rows=false∨rule < 1∨5 < rule then (⟨0,0,[]⟩,0,1)
 else ((qsy rows attr.toNat rule).1,(qsy rows attr.toNat rule).2,0)
theorem vyh (a b:List Int) (ha:a.length≤1073741824):qlo a b=some (decide (a=b)):=by
 simp only [qlo];by_cases hl:a.length=b.length
 ·have hn:¬(((a.length:Int) != (b.length:Int))=true):=by simp;omega
  rw [if_neg hn];have key:∀(r:List Int) (k:Nat),a.drop k=r→k≤a.length→qae (qgb a b) (k:Int)=some (if r=b.drop k then .inl () else .inr false):=by
   intro r
   induction r with
   | nil =>
    intro k hd hk;have:k=a.length:=by
     have:=congrArg v4o hd;simp at this;omega
    subst this;have:b.drop a.length=[]:=by rw [hl];simp
    rw [this];exact qad (by simp [qgb])
   | cons x r ih =>
    intro k hd hk;have hx:a[k]?=some x:=by
     have:=congrArg (·[0]?) hd;simpa [vz8] using this
    have hd':a.drop (k+1)=r:=by rw [←v4h,hd];rfl
    have hlt:=qan hx;obtain ⟨y,hy⟩:∃y,b[k]?=some y:=⟨_,vz9 (by omega)⟩;have hb:b.drop k=y :: b.drop (k+1):=by
     rw [List.drop_eq_getElem_cons (by omega)];congr 1;exact (v0b.1 hy).2
    rw [hb];by_cases hxy:x=y
    ·subst hxy;rw [qac (s':=((k+1:Nat):Int)) (by simp [qgb,qai hx,qaa hx,qaa hy,qat hlt (by omega)]),ih (k+1) hd' hlt];simp
    ·rw [qad (t:=.inr false) (by simp [qgb,qai hx,qaa hx,qaa hy,hxy])];simp [hxy]
  have h0:=key a 0 (by simp) (v3n _);simp only [v4i,v33] at h0;rw [h0];by_cases hab:a=b <;> simp [hab]
 ·have hn:(((a.length:Int) != (b.length:Int))=true):=by simp;omega
  rw [if_pos hn];have:a≠b:=fun e=>hl (by rw [e])
  simp [this]
def vct:List Value→List Value→Int
 | [],[]=>0
 | [],_ :: _=>-1
 | _ :: _,[]=>1
 | a :: x,b :: y=>if qts a b≠0 then qts a b else vct x y
theorem vj9:∀a b:List Value,vct a b=0↔a=b
 | [],[]=>by simp [vct]
 | [],_ :: _=>by simp [vct]
 | _ :: _,[]=>by simp [vct]
 | x :: a,y :: b=>by
  simp only [vct];by_cases h:x=y
  ·subst h;simp [q91,vj9 a b]
  ·have:qts x y≠0:=fun e=>h ((qse _ _).1 e)
   simp [h,this]
theorem vgl (a b:List Value) (ha:a.length≤1073741824) (hs:∀v∈a,v.Str.length≤1073741824):∀(r:List Value) (k:Nat),a.drop k=r→k≤a.length→k≤b.length →
  (∃o,qae (qbu a b) (k:Int)=some o∧(match o with | .inl ()=>sgn (r.length) ((b.drop k).length)=vct r (b.drop k) | .inr z=>z=vct r (b.drop k))):=by
 intro r
 induction r with
 | nil =>
  intro k hd hk hkb;have hk':k=a.length:=by
   have:=congrArg v4o hd;simp at this;omega
  subst hk';refine ⟨.inl (),qad (by simp [qbu]),?_⟩;cases hb:b.drop a.length with
  | nil=>rfl
  | cons y s=>simp [vct,sgn]
 | cons x r ih =>
  intro k hd hk hkb;have hx:a[k]?=some x:=by
   have:=congrArg (·[0]?) hd;simpa [vz8] using this
  have hd':a.drop (k+1)=r:=by rw [←v4h,hd];rfl
  have hlt:=qan hx;have hsx:=hs x (v0t hx);cases hb:b.drop k with
  | nil =>
   have hkb':k=b.length:=by
    have:=congrArg v4o hb;simp at this;omega
   subst hkb';refine ⟨.inl (),qad (by simp [qbu]),?_⟩;simp [vct,sgn];omega
  | cons y s =>
   have hy:b[k]?=some y:=by
    have:=congrArg (·[0]?) hb;simpa [vz8] using this
   have hb':b.drop (k+1)=s:=by rw [←v4h,hb];rfl
   by_cases hxy:qts x y=0
   ·have h1:qbu a b (k:Int)=some (.next ((k+1:Nat):Int)):=by
     simp [qbu,qai hx,qai hy,qaa hx,qaa hy,qat hlt (by omega),qlt _ _ hsx,hxy]
    obtain ⟨o,h2,h3⟩:=ih (k+1) hd' hlt (qan hy);refine ⟨o,by rw [qac h1];exact h2,?_⟩;rw [hb'] at h3;have hl:vct (x :: r) (y :: s)=vct r s:=by simp [vct,hxy]
    rw [hl];cases o with
    | inl u =>
     simp only at h3 ⊢;rw [←h3];simp only [v2p,sgn];split <;> split <;> (try split) <;> (try split) <;> omega
    | inr z=>exact h3
   ·refine ⟨.inr (qts x y),qad ?_,?_⟩
    ·simp [qbu,qai hx,qai hy,qaa hx,qaa hy,qlt _ _ hsx,hxy]
    ·simp [vct,hxy]
theorem vn1 (a b:List Value) (ha:a.length≤1073741824) (hs:∀v∈a,v.Str.length≤1073741824):qjv a b=some (vct a b):=by
 obtain ⟨o,h1,h2⟩:=vgl a b ha hs a 0 (by simp) (v3n _) (v3n _);simp only [qjv];have h1':qae (qbu a b) 0=some o:=h1;rw [h1'];cases o with
 | inl u =>
  simp only [v4i] at h2;simp [qsd,h2]
 | inr z =>
  simp only [v4i] at h2;simp [h2]
theorem vka (a b:List Value) (ha:a.length≤1073741824) (hs:∀v∈a,v.Str.length≤1073741824):qi2 a b=some (decide (a=b)):=by
 simp only [qi2,vn1 a b ha hs,v1r];congr 1;rw [v3v];simp [vj9]
theorem q96 (a b:Row) (ha:a.Values.length≤1073741824) (hs:∀v∈a.Values,v.Str.length≤1073741824):qf0 a b=some (decide (a=b)):=by
 simp only [qf0,vka _ _ ha hs,v1r];cases a;cases b;simp only [Row.mk.injEq];split
 ·rename_i h;simp at h;simp [h]
 ·rename_i h;simp at h;simp [h]
def qp8 (r:Int):Bool:=decide (1≤r) && decide (r≤5)
theorem vn2 (l:List Int) (hl:l.length≤1073741824):qj1 l=some (l.all qp8):=by
 have h:=qls l (qdb l) qp8 false
  (fun k x hx hk hp=>by
   simp only [qp8,vzm,decide_eq_true_eq] at hp;have h1:¬x < 1:=by omega
   have h2:¬x > 5:=by omega
   simp [qdb,qai hx,qaa hx,h1,h2,qat hk (by omega)])
  (fun k x hx hp=>by
   simp only [qp8,v3t,decide_eq_false_iff_not] at hp;by_cases h1:x < 1
   ·simp [qdb,qai hx,qaa hx,h1]
   ·have h2:x > 5:=by omega
    simp [qdb,qai hx,qaa hx,h1,h2])
  (by simp [qdb])
 simp only [qj1,h,v1r];cases l.all qp8 <;> rfl
theorem qz8 (l:List Int) (f:Int→Option Bool) (p:Int→Bool) (hf:∀x∈l,f x=some (p x)) (hl:l.length≤1073741824):qcr l f=some (match l.findIdx? p with | some i=>(i:Int) | none=>-1):=by
 have h:=qjb l (qa6 l f) p
  (fun k x hx hk hp=>by simp [qa6,qai hx,qaa hx,hf x (v0t hx),hp,qat hk (show l.length≤4611686018427387904 by omega)])
  (fun k x hx hp=>by simp [qa6,qai hx,qaa hx,hf x (v0t hx),hp])
  (by simp [qa6])
 simp only [qcr,h,v1r];cases l.findIdx? p <;> rfl
theorem qo6 (l:List Int) (f:Int→Option Bool) (p:Int→Bool) (hf:∀x∈l,f x=some (p x)) (hl:l.length≤1073741824):qar l f=some (l.any p):=by
 simp only [qar,qz8 l f p hf hl,v1r];exact congrArg some (qwe p l)
def qy3 (rows:List Row) (b:List Value×List Int) (rule:Int):List Value×List Int:=(b.1++[(qsy rows b.1.length rule).1],b.2++[(qsy rows b.1.length rule).2])
def qo7 (rows:List Row) (rules:List Int):List Value×List Int:=rules.foldl (qy3 rows) ([],[])
theorem vgm (rows:List Row) (rules:List Int) (hne:rows≠[]) (hl:rows.length≤1073741824) (hr:rules.length≤1048576) (ha:∀a,a < rules.length→Has rows a) :
  qae (qgj rows rules) ([],[],0)=some (qo7 rows rules):=by
 have h:=qb3 rules (fun (b:List Value×List Int) i=>(b.1,b.2,i)) (qgj rows rules) (qy3 rows) id (fun k b=>b.1.length=k∧b.2.length=k) (b0:=([],[])) (s0:=([],[],0)) rfl ⟨rfl,rfl⟩
  (fun k b x hx hk hI=>by
   have hc:=vj8 rows k x hne hl (ha k hk);have r1:qal (k+1) 32=true:=qf2 (by omega) (by omega);have r2:qal (k+1) 8=true:=qf2 (by omega) (by omega);refine ⟨?_,by simp [qy3,hI]⟩;simp only [qgj,if_pos (qai hx),qaa hx,v1r,hc,r1,r2,if_true,qat hk (by omega),qy3,hI.1,hI.2])
  (fun b _=>by simp [qgj])
 exact h
theorem q97 (rows:List Row) (rules:List Int) (r0:Row) (h0:rows[0]?=some r0) (hl:rows.length≤1073741824) (hr:rules.length≤1048576) (ha:∀a,a < rules.length→Has rows a) (hs:q93 rows) (hid:∀r∈rows,r.ID≠0) :
  qhs rows rules=some ⟨⟨r0.ID,(qo7 rows rules).1⟩,(qo7 rows rules).2⟩:=by
 have hne:rows≠[]:=by intro e;rw [e] at h0;cases h0
 have h:=qb3 rules (fun (b:List Value×List Int) i=>(b.1,b.2,i)) (qg7 rows rules) (qy3 rows) id (fun k b=>b.1.length=k∧b.2.length=k) (b0:=([],[])) (s0:=([],[],0)) rfl ⟨rfl,rfl⟩
  (fun k b x hx hk hI=>by
   have hc:=vsw rows k x hne hl (ha k hk) hs hid;have r1:qal (k+1) 32=true:=qf2 (by omega) (by omega);have r2:qal (k+1) 8=true:=qf2 (by omega) (by omega);refine ⟨?_,by simp [qy3,hI]⟩;simp only [qg7,if_pos (qai hx),qaa hx,v1r,hc,r1,r2,if_true,qat hk (by omega),qy3,hI.1,hI.2])
  (fun b _=>by simp [qg7])
 simp only [qhs,h0,v1r,h];rfl
def q14 (rows:List Row) (rules:List Int):(Row×List Int)×Int :=
 if qn4 rows≠0 then ((⟨0,[]⟩,[]),qn4 rows)
 else if rules.length≠(rows[0]?.map (·.Values.length)).getD 0 then ((⟨0,[]⟩,[]),6)
 else if qrh 0 rows=false∨rules.all qp8=false then ((⟨0,[]⟩,[]),1)
 else ((⟨(rows[0]?.map (·.ID)).getD 0,(qo7 rows rules).1⟩,(qo7 rows rules).2),0)
theorem qsf {α:Type} (p:α→Bool) (l:List α):(l.any fun x=>!p x)=!l.all p:=by simp [v4e]
theorem vn3 (rows:List Row) (rules:List Int) (H:RowsOk rows) (hr:rules.length≤1048576):qkb rows rules=some ((q14 rows rules).1.1,(q14 rows rules).1.2,(q14 rows rules).2):=by
 simp only [qkb,q90 rows H.len,v1r,q14];by_cases h1:qn4 rows=0
 ·obtain ⟨hne,_⟩:=qzt h1;obtain ⟨r0,rs,hrows⟩:∃r l,rows=r :: l:=by cases rows with | nil=>exact absurd rfl hne | cons r l=>exact ⟨r,l,rfl⟩
  have h0:rows[0]?=some r0:=by rw [hrows];rfl
  simp only [h1,h0,v1r,Option.map_some,Option.getD_some];by_cases h2:rules.length=r0.Values.length
  ·have ha:∀a,a < rules.length→Has rows a:=fun a h=>vp3 h1 h0 (by omega)
   have hcf:qar rules (fun y=>qhq y)=some (!rules.all qp8):=by
    rw [←qsf];exact qo6 _ _ _ (fun y _=>by simp [qhq,qzu,qp8]) (by omega)
   simp only [q3k rows H.len H.vals,hcf,vgm rows rules hne H.len hr ha,v1r];by_cases h4:qrh 0 rows=true
   ·by_cases h5:rules.all qp8=true
    ·simp [h2,h4,h5]
    ·simp only [v3x] at h5;simp [h2,h4,h5]
   ·simp [h2,h4]
  ·have h2':¬((rules.length:Int)=r0.Values.length):=by omega
   simp [h2,h2']
 ·simp [h1]
def qp9 (c:Int):Bool:=(decide (97≤c) && decide (c≤122)) || ((decide (65≤c) && decide (c≤90)) || c == 95)
theorem q98 (c : Int) : (show Option Bool from
            if c ≥ 97 then
              if c ≤ 122 then some true
              else if c ≥ 65 then if c ≤ 90 then some true else some (c == 95) else some (c == 95)
            else if c ≥ 65 then if c ≤ 90 then some true else some (c == 95) else some (c == 95)) = some (qp9 c) := by
  simp only [qp9]
  by_cases h1 : 97 ≤ c <;> by_cases h2 : c ≤ 122 <;> by_cases h3 : 65 ≤ c <;> by_cases h4 : c ≤ 90 <;> simp [h1, h2, h3, h4]
theorem q15 (c:Int):qgg c=some (qp9 c):=by
 simp only [qgg,qp9];by_cases h1:97≤c <;> by_cases h2:c≤122 <;> by_cases h3:65≤c <;> by_cases h4:c≤90 <;> simp [h1,h2,h3,h4]
def lod (c:UInt8):Bool:=qp9 c.toNat || (decide (48≤(c.toNat:Int)) && decide ((c.toNat:Int)≤57))
def qqn:List UInt8→Bool
 | []=>false
 | c :: r=>decide (r.length < 24) && qp9 c.toNat && !((c :: r) == [110,117,108,108]) && r.all lod
theorem vcu (s:List UInt8):qi5 s=some (qqn s):=by
 cases s with
 | nil=>rfl
 | cons c r =>
  have hn:¬((((c :: r).length:Int) == 0)=true):=by simp;omega
  simp only [qi5,if_neg hn];by_cases h24:((c :: r).length:Int) > 24
  ·have:¬r.length < 24:=by simp at h24;omega
   rw [if_pos h24];simp [qqn,this]
  ·have h24':r.length < 24:=by simp at h24;omega
   rw [if_neg h24];simp only [v2j,v1r,q15];by_cases hl:qp9 c.toNat=true
   ·simp only [hl,if_true];by_cases hnull:((c :: r) == [110,117,108,108])=true
    ·simp only [hnull,if_true,qqn];simp
    ·simp only [v3x] at hnull;have h:=qls (c :: r) (qfj (c :: r)) lod false
      (fun k x hx hk hp=>by
       simp only [qfj,if_pos (qai hx),qaa hx,v1r,q15,qat hk (by simp;omega)];by_cases hx1:qp9 x.toNat=true
       ·simp [hx1]
       ·simp only [v3x] at hx1;simp only [lod,hx1,Bool.false_or,vzm,decide_eq_true_eq] at hp;have e1:¬(x.toNat:Int) < 48:=by omega
        have e2:¬(x.toNat:Int) > 57:=by omega
        simp [hx1,e1,e2])
      (fun k x hx hp=>by
       simp only [qfj,if_pos (qai hx),qaa hx,v1r,q15];simp only [lod,v3y,v3t,decide_eq_false_iff_not] at hp;simp only [hp.1,vzo,if_false];by_cases e1:(x.toNat:Int) < 48
       ·simp [e1]
       ·have e2:(x.toNat:Int) > 57:=by omega
        simp [e1,e2])
      (by simp [qfj])
     simp only [hnull,vzo,if_false,h,v1r];have hlc:lod c=true:=by simp [lod,hl]
     simp only [List.all_cons,hlc,v3z,qqn,h24',decide_true,hl,hnull,Bool.not_false];cases r.all lod <;> rfl
   ·simp only [v3x] at hl;simp [hl,qqn]
theorem q16 (s:List UInt8):qmd s=some (qqn s):=by
 cases s with
 | nil=>rfl
 | cons c r =>
  have hn:¬(((c :: r) == [])=true):=by simp
  simp only [qmd,if_neg hn];by_cases h24:((c :: r).length:Int) > 24
  ·have:¬r.length < 24:=by simp at h24;omega
   rw [if_pos h24];simp [qqn,this]
  ·have h24':r.length < 24:=by simp at h24;omega
   rw [if_neg h24];by_cases hnull:((c :: r) == [110,117,108,108])=true
   ·simp only [hnull,if_true,qqn];simp
   ·simp only [v3x] at hnull;have hlet:∀x:UInt8,(show Option Bool from
      if ((x.toNat:Nat):Int)≥97 then
       if ((x.toNat:Nat):Int)≤122 then some true
       else if ((x.toNat:Nat):Int)≥65 then if ((x.toNat:Nat):Int)≤90 then some true else some (((x.toNat:Nat):Int) == 95) else some (((x.toNat:Nat):Int) == 95)
      else if ((x.toNat:Nat):Int)≥65 then if ((x.toNat:Nat):Int)≤90 then some true else some (((x.toNat:Nat):Int) == 95) else some (((x.toNat:Nat):Int) == 95))=some (qp9 x.toNat):=fun x=>q98 x.toNat
    have h:=qre (c :: r) (qir (c :: r)) (fun k x=>qp9 x.toNat || (decide (k≠0) && (decide (48≤(x.toNat:Int)) && decide ((x.toNat:Int)≤57)))) false
     (fun k x hx hk hp=>by
      simp only [qir,if_pos (qai hx),qaa hx,v1r,hlet,qat hk (by simp;omega)];by_cases hx1:qp9 x.toNat=true
      ·simp [hx1]
      ·simp only [v3x] at hx1;simp only [hx1,Bool.false_or,vzm,decide_eq_true_eq] at hp;have e0:¬(((k:Int) == 0)=true):=by simp;omega
       have e1:¬(x.toNat:Int) < 48:=by omega
       have e2:¬(x.toNat:Int) > 57:=by omega
       simp [hx1,e0,e1,e2])
     (fun k x hx hp=>by
      simp only [qir,if_pos (qai hx),qaa hx,v1r,hlet];simp only [v3y,v3t,decide_eq_false_iff_not] at hp;simp only [hp.1,vzo,if_false];by_cases e0:k=0
      ·simp [e0]
      ·have e0':¬(((k:Int) == 0)=true):=by simp;omega
       by_cases e1:(x.toNat:Int) < 48
       ·simp [e1]
       ·have e2:(x.toNat:Int) > 57:=by
         rcases hp.2 with h | h | h
         ·exact absurd e0 h
         ·omega
         ·omega
        simp [e1,e2])
     (by simp [qir]) (c :: r) 0 rfl (v3n _)
    simp only [v33] at h;simp only [hnull,vzo,if_false,h,v1r];have e:qft (fun k x=>qp9 x.toNat || (decide (k≠0) && (decide (48≤(x.toNat:Int)) && decide ((x.toNat:Int)≤57)))) 0 (c :: r)=(qp9 c.toNat && r.all lod):=by
     simp only [qft];rw [qxp (q:=fun _ x=>lod x) r 1 (fun j x hj _=>by
      have hj0:j≠0:=by omega
      simp [lod,hj0]),q1s]
     simp
    rw [e];simp only [qqn,h24',decide_true,v3z,hnull,Bool.not_false,Bool.and_true];cases qp9 c.toNat <;> cases r.all lod <;> rfl
def q99:Option Nat→Int
 | some i=>i
 | none=>-1
theorem qsg {α:Type} (p:α→Bool) (l:List α):decide (q99 (l.findIdx? p)≥0)=l.any p:=by
 rw [←qwe];cases l.findIdx? p <;> rfl
theorem q17 (l:List (List UInt8)) (s:List UInt8) (hl:l.length≤1073741824):qgp l s=some (q99 (l.findIdx? (fun x=>s == x))):=by
 have h:=qjb l (qc1 l s) (fun x=>s == x)
  (fun k x hx hk hp=>by simp only [qc1,if_pos (qai hx),qaa hx,v1r,hp,vzo,if_false,if_true,qat hk (show l.length≤4611686018427387904 by omega)])
  (fun k x hx hp=>by simp only [qc1,if_pos (qai hx),qaa hx,v1r,hp,if_true])
  (by simp [qc1])
 simp only [qgp,h,v1r];cases l.findIdx? (fun x=>s == x) <;> rfl
theorem qqa (l:List (List UInt8)) (s:List UInt8) (hl:l.length≤1073741824):qeb l s=some (l.any fun x=>s == x):=by
 simp only [qeb,q17 l s hl,v1r];exact congrArg some (qsg _ l)
theorem vsx (l:List (List UInt8)) (s:List UInt8) (hl:l.length≤1073741824):qi6 l s=some (q99 (l.findIdx? (fun x=>x == s))):=by
 have h:=qjb l (qfk l s) (fun x=>x == s)
  (fun k x hx hk hp=>by simp only [qfk,if_pos (qai hx),qaa hx,v1r,hp,vzo,if_false,if_true,qat hk (show l.length≤4611686018427387904 by omega)])
  (fun k x hx hp=>by simp only [qfk,if_pos (qai hx),qaa hx,v1r,hp,if_true])
  (by simp [qfk])
 simp only [qi6,h,v1r];cases l.findIdx? (fun x=>x == s) <;> rfl
def qxs (l:List (List UInt8)):Bool:=qft (fun k x=>qqn x && !(l.take k).any fun y=>x == y) 0 l
theorem vn4 (l:List (List UInt8)) (hl:l.length≤1073741824):qjx l=some (qxs l):=by
 have key:∀(k:Nat) (x:List UInt8),k < l.length→qi6 (l.take ((k:Int).toNat)) x=some (q99 ((l.take k).findIdx? (fun y=>y == x))):=by
  intro k x hk;rw [v38];exact vsx _ _ (by simp;omega)
 have any_sym:∀(k:Nat) (x:List UInt8),((l.take k).any fun y=>y == x)=(l.take k).any fun y=>x == y:=by
  intro k x;congr 1;funext y;rw [v3v,beq_iff_eq,beq_iff_eq];exact eq_comm
 have h:=qre l (qev l) (fun k x=>qqn x && !(l.take k).any fun y=>x == y) false
  (fun k x hx hk hp=>by
   simp only [vzm,vzq] at hp;have hany:=qsg (fun y=>y == x) (l.take k);rw [any_sym,hp.2] at hany;have h0:((0:Int)≤(k:Int)):=by omega
   have h1:((k:Int)≤(l.length:Int)):=by omega
   simp only [qev,if_pos (qai hx),qaa hx,v1r,vcu,hp.1,if_true,if_pos h0,if_pos h1,key k x hk,if_neg (of_decide_eq_false hany),qat hk (show l.length≤4611686018427387904 by omega)])
  (fun k x hx hp=>by
   have hk:=qan hx;have h0:((0:Int)≤(k:Int)):=by omega
   have h1:((k:Int)≤(l.length:Int)):=by omega
   simp only [qev,if_pos (qai hx),qaa hx,v1r,vcu,if_pos h0,if_pos h1,key k x hk];rcases v3u (qqn x) with hn | hn
   ·simp only [hn,v3z,v3w] at hp;have hany:=qsg (fun y=>y == x) (l.take k);rw [any_sym,hp] at hany;simp only [hn,if_true,if_pos (of_decide_eq_true hany)]
   ·simp [hn])
  (by simp [qev]) l 0 rfl (v3n _)
 simp only [v33] at h;simp only [qjx,h,v1r];unfold qxs;cases qft (fun k x=>qqn x && !(l.take k).any fun y=>x == y) 0 l <;> rfl
def qd9 (n:Nat):Int→List Row→Int
 | _,[]=>0
 | a,r :: l=>if r.ID≤a then 1 else if r.Values.length≠n then 6 else if r.Values.all qe6 then qd9 n r.ID l else 1
def qbb (t:Table):Int :=
 if qqn t.Name=false then 1 else if t.Attrs.length > 16 then 3 else if t.Rows.length > 1000 then 3 else if qxs t.Attrs=false then 1 else qd9 t.Attrs.length 0 t.Rows
theorem q3l (l:List Value) (hl:l.length≤1073741824):qis l=some (l.all qe6):=by
 simp only [qis,qnq l (fun y=>qeh y) (fun v=>!qe6 v) (fun y _=>by simp [qeh,qng]) hl,v1r,qsf,Bool.not_not]
theorem vaa {B:Int×Int→Option (LS (Int×Int) (Unit ⊕ Int))} (rows:List Row) (n:Nat)
  (hB:∀(k:Nat) (a:Int) x,rows[k]?=some x→k < rows.length→B (a,(k:Int))=if x.ID≤a then some (.done (.inr 1)) else if x.Values.length≠n then some (.done (.inr 6)) else if x.Values.all qe6 then some (.next (x.ID,((k+1:Nat):Int))) else some (.done (.inr 1)))
  (hE:∀a,B (a,(rows.length:Int))=some (.done (.inl ()))):∀(r:List Row) (k:Nat) (a:Int),rows.drop k=r→k≤rows.length→∃o,qae B (a,(k:Int))=some o∧(match o with | .inl ()=>qd9 n a r=0 | .inr z=>qd9 n a r=z∧z≠0):=by
 intro r
 induction r with
 | nil =>
  intro k a hd hk;have:k=rows.length:=by
   have:=congrArg v4o hd;simp at this;omega
  subst this;exact ⟨.inl (),qad (hE a),rfl⟩
 | cons x r ih =>
  intro k a hd hk;have hx:rows[k]?=some x:=by
   have:=congrArg (·[0]?) hd;simpa [vz8] using this
  have hd':rows.drop (k+1)=r:=by rw [←v4h,hd];rfl
  have hlt:=qan hx;have hb:=hB k a x hx hlt;by_cases h1:x.ID≤a
  ·rw [if_pos h1] at hb;exact ⟨_,qad hb,by simp [qd9,h1]⟩
  ·rw [if_neg h1] at hb;by_cases h2:x.Values.length≠n
   ·rw [if_pos h2] at hb;exact ⟨_,qad hb,by simp [qd9,h1,h2]⟩
   ·rw [if_neg h2] at hb;by_cases h3:x.Values.all qe6=true
    ·rw [if_pos h3] at hb;obtain ⟨o,h4,h5⟩:=ih (k+1) x.ID hd' hlt;refine ⟨o,by rw [qac hb];exact h4,?_⟩;have e:qd9 n a (x :: r)=qd9 n x.ID r:=by
      simp only [qd9,if_neg h1,if_neg h2,if_pos h3]
     rw [e];exact h5
    ·rw [if_neg h3] at hb;exact ⟨_,qad hb,by simp only [qd9,if_neg h1,if_neg h2,if_neg h3];exact ⟨trivial,by omega⟩⟩
structure TableOk (t:Table):Prop where
 attrs:t.Attrs.length≤1073741824
 rows:t.Rows.length≤1073741824
 vals:∀r∈t.Rows,r.Values.length≤1073741824
 short:q93 t.Rows
theorem vn5 {t:Table} (h:qsc t):TableOk t:=by
 obtain ⟨_,h2,h3⟩:=h;refine ⟨by have:=h2.1;omega,by have:=h3.1;omega,fun r hr=>?_,fun r hr v hv=>?_⟩
 ·have:=(h3.2 r hr).2.1;omega
 ·have:okS v.Str:=((h3.2 r hr).2.2 v hv).2.2;unfold okS at this;omega
theorem q18 (t : Table) (H : TableOk t) : qjy t = some (qbb t) := by
  simp only [qjy, vcu, v1r, qbb]
  by_cases h1 : qqn t.Name = true
  · by_cases h2 : t.Attrs.length > 16
    · have : (t.Attrs.length : Int) > 16 := by omega
      simp [h1, h2, this]
    · have h2' : ¬ (t.Attrs.length : Int) > 16 := by omega
      by_cases h3 : t.Rows.length > 1000
      · have : (t.Rows.length : Int) > 1000 := by omega
        simp [h1, h2, h2', h3, this]
      · have h3' : ¬ (t.Rows.length : Int) > 1000 := by omega
        simp only [h1, if_true, if_neg h2', if_neg h3', vn4 t.Attrs H.attrs, v1r, vzs, if_false, if_neg h2, if_neg h3]
        by_cases h4 : qxs t.Attrs = true
        · obtain ⟨o, h5, h6⟩ := vaa (B := qg3 t) t.Rows t.Attrs.length (fun k a x hx hk => by
              simp only [qg3, if_pos (qai hx), qaa hx, v1r, q6z _ (H.vals x (v0t hx)), qat hk (show t.Rows.length ≤ 4611686018427387904 by have := H.rows; omega)]
              by_cases e1 : x.ID ≤ a
              · simp [e1]
              · by_cases e2 : x.Values.length = t.Attrs.length
                · simp [e1, e2]
                · have : ¬ ((x.Values.length : Int) = t.Attrs.length) := by omega
                  simp [e1, e2, this]) (fun a => by simp [qg3]) t.Rows 0 0 rfl (v3n _)
          simp only [v33] at h5
          simp only [h4, if_true, h5, v1r, vzs, if_false]
          cases o with
          | inl u => simp only at h6 ⊢; rw [h6]
          | inr z => simp only at h6 ⊢; rw [h6.1]
        · simp only [v3x] at h4
          simp [h4]
  · simp only [v3x] at h1
    simp [h1]
theorem qri (t : Table) (H : TableOk t) : qm8 t = some (qbb t) := by
  simp only [qm8, q16, v1r, qbb]
  by_cases h1 : qqn t.Name = true
  · by_cases h2 : t.Attrs.length > 16
    · have : (t.Attrs.length : Int) > 16 := by omega
      simp [h1, h2, this]
    · have h2' : ¬ (t.Attrs.length : Int) > 16 := by omega
      by_cases h3 : t.Rows.length > 1000
      · have : (t.Rows.length : Int) > 1000 := by omega
        simp [h1, h2, h2', h3, this]
      · have h3' : ¬ (t.Rows.length : Int) > 1000 := by omega
        have hN := qre t.Attrs (qj5 t) (fun k x => qqn x && !(t.Attrs.take k).any fun y => x == y) 1
          (fun k x hx hk hp => by
            simp only [vzm, vzq] at hp
            have h0 : ((0 : Int) ≤ (k : Int)) := by omega
            have h1 : ((k : Int) ≤ (t.Attrs.length : Int)) := by omega
            have hA := H.attrs
            simp only [qj5, if_pos (qai hx), qaa hx, v1r, q16, hp.1, if_true, if_pos h0, if_pos h1, v38, qqa _ x (show (t.Attrs.take k).length ≤ 1073741824 by simp; omega), hp.2, vzo, if_false,
              qat hk (show t.Attrs.length ≤ 4611686018427387904 by omega)])
          (fun k x hx hp => by
            have hk := qan hx
            have h0 : ((0 : Int) ≤ (k : Int)) := by omega
            have h1 : ((k : Int) ≤ (t.Attrs.length : Int)) := by omega
            have hA := H.attrs
            simp only [qj5, if_pos (qai hx), qaa hx, v1r, q16, if_pos h0, if_pos h1, v38, qqa _ x (show (t.Attrs.take k).length ≤ 1073741824 by simp; omega)]
            rcases v3u (qqn x) with hn | hn
            · simp only [hn, v3z, v3w] at hp
              simp only [hn, if_true, hp]
            · simp [hn])
          (by simp [qj5]) t.Attrs 0 rfl (v3n _)
        simp only [v33] at hN
        simp only [h1, if_true, if_neg h2', if_neg h3', hN, v1r, vzs, if_false, if_neg h2, if_neg h3]
        have hNe : qxs t.Attrs = qft (fun k x => qqn x && !(t.Attrs.take k).any fun y => x == y) 0 t.Attrs := rfl
        rw [← hNe]
        by_cases h4 : qxs t.Attrs = true
        · obtain ⟨o, h5, h6⟩ := vaa (B := qlj t) t.Rows t.Attrs.length (fun k a x hx hk => by
              simp only [qlj, if_pos (qai hx), qaa hx, v1r, q3l _ (H.vals x (v0t hx)), qat hk (show t.Rows.length ≤ 4611686018427387904 by have := H.rows; omega)]
              by_cases e1 : x.ID ≤ a
              · simp [e1]
              · by_cases e2 : x.Values.length = t.Attrs.length
                · simp [e1, e2]
                · have : ¬ ((x.Values.length : Int) = t.Attrs.length) := by omega
                  simp [e1, e2, this]) (fun a => by simp [qlj]) t.Rows 0 0 rfl (v3n _)
          simp only [v33] at h5
          simp only [h4, if_true, h5, v1r, vzs, if_false]
          cases o with
          | inl u => simp only at h6 ⊢; rw [h6]
          | inr z => simp only at h6 ⊢; rw [h6.1]
        · simp only [v3x] at h4
          simp [h4]
  · simp only [v3x] at h1
    simp [h1]
def vn6 (t:Table) (id:Int):Int×Bool:=match t.Rows.findIdx? (fun r=>r.ID == id) with | some i=>((i:Int),true) | none=>(0,false)
theorem q19 (t:Table) (id:Int) (H:t.Rows.length≤1073741824):qkr t id=some (vn6 t id):=by
 have key:∀(r:List Row) (k:Nat),t.Rows.drop k=r→k≤t.Rows.length→qae (qfc t id) (k:Int)=some (match r.findIdx? (fun r=>r.ID == id) with | some i=>.inr (((k+i:Nat):Int),true) | none=>.inl ()):=by
  intro r
  induction r with
  | nil =>
   intro k hd hk;have:k=t.Rows.length:=by
    have:=congrArg v4o hd;simp at this;omega
   subst this;exact qad (by simp [qfc])
  | cons x r ih =>
   intro k hd hk;have hx:t.Rows[k]?=some x:=by
    have:=congrArg (·[0]?) hd;simpa [vz8] using this
   have hd':t.Rows.drop (k+1)=r:=by rw [←v4h,hd];rfl
   have hlt:=qan hx;by_cases hp:(x.ID == id)=true
   ·rw [qad (t:=.inr ((k:Int),true)) (by simp only [qfc,if_pos (qai hx),qaa hx,v1r,if_pos hp])];simp [v4l,hp]
   ·rw [qac (s':=((k+1:Nat):Int)) (by simp only [qfc,if_pos (qai hx),qaa hx,v1r,if_neg hp,qat hlt (show t.Rows.length≤4611686018427387904 by omega)]),ih (k+1) hd' hlt];simp only [v3x] at hp;simp only [v4l,hp];cases r.findIdx? (fun r=>r.ID == id) with
    | none=>rfl
    | some i=>simp;omega
 have h:=key t.Rows 0 rfl (v3n _);simp only [v33] at h;simp only [qkr,h,v1r,vn6];cases t.Rows.findIdx? (fun r=>r.ID == id) <;> simp
end Go.Proofs.YtmlegeeinnkhkaaGreat
namespace Go.Ab
open Go
theorem vp4 {n:Nat} (h:n≤8000000000):qal n 16=true:=by
 unfold qal;simp only [decide_eq_true_eq];omega
theorem vab {n k x:Nat} (h:(v0z n)[k]?=some x):x=k∧k < n:=by
 have hl:=qan h;rw [List.length_range] at hl;rw [v4n hl] at h;exact ⟨(Option.some.inj h).symm,hl⟩
end Go.Ab
namespace Go.Proofs.YtmlegeeinnkhkaaGreat
open Go Go.Ab
end Go.Proofs.YtmlegeeinnkhkaaGreat
namespace Go.Ab
open Go
def q2a {α:Type} (lt:α→α→Bool) (x:α):List α→List α
 | []=>[x]
 | y :: r=>if lt x y then y :: q2a lt x r else x :: y :: r
def q3m {α:Type} (lt:α→α→Bool) (x:α) (s:List α):List α:=(q2a lt x s.reverse).reverse
theorem qsh {α:Type} (lt:α→α→Bool) (x y:α) (s:List α):q3m lt x (s++[y])=if lt x y then q3m lt x s++[y] else s++[y,x]:=by
 unfold q3m;rw [List.reverse_append];simp only [List.reverse_singleton,List.singleton_append,q2a];split <;> simp
theorem qwf {α:Type} (lt:α→α→Bool) (x:α):∀s:List α,(q2a lt x s).Perm (x :: s)
 | []=>v4d.refl _
 | y :: r=>by
  simp only [q2a];split
  ·exact ((qwf lt x r).cons y).trans (v4d.swap x y r)
  ·exact v4d.refl _
theorem q2b {α:Type} (lt:α→α→Bool) (x:α) (s:List α):(q3m lt x s).Perm (x :: s):=by
 unfold q3m;exact (v4u _).trans ((qwf lt x _).trans ((v4u s).cons x))
theorem vd9 {α:Type} (lt:α→α→Bool) (x:α) (s:List α):(q3m lt x s).length=s.length+1:=by rw [(q2b lt x s).length_eq];rfl
theorem qxt {α:Type} (lt:α→α→Bool) (asym:∀x y,lt x y=true→lt y x=false) (ntr:∀x y z,lt y x=false→lt z y=false→lt z x=false) (x:α) :
  ∀s:List α,s.Pairwise (fun a b=>lt a b=false)→(q2a lt x s).Pairwise (fun a b=>lt a b=false)
 | [],_=>List.pairwise_singleton _ _
 | y :: r,h=>by
  simp only [q2a];obtain ⟨h1,h2⟩:=v4p.1 h;by_cases hxy:lt x y=true
  ·rw [if_pos hxy];refine v4p.2 ⟨fun z hz=>?_,qxt lt asym ntr x r h2⟩;rcases v2z.1 ((qwf lt x r).mem_iff.1 hz) with rfl | hz
   ·exact asym _ _ hxy
   ·exact h1 z hz
  ·rw [if_neg hxy];have hxy:lt x y=false:=by simpa using hxy
   refine v4p.2 ⟨fun z hz=>?_,h⟩;rcases v2z.1 hz with rfl | hz
   ·exact hxy
   ·exact ntr _ _ _ (h1 z hz) hxy
theorem vcv {α:Type} (lt:α→α→Bool) (asym:∀x y,lt x y=true→lt y x=false) (ntr:∀x y z,lt y x=false→lt z y=false→lt z x=false) (x:α)
  (s:List α) (h:s.Pairwise (fun a b=>lt b a=false)):(q3m lt x s).Pairwise (fun a b=>lt b a=false):=by
 unfold q3m;rw [v4s];exact qxt lt asym ntr x _ (by rw [v4s];exact h)
theorem vkb {α:Type} (lt:α→α→Bool) (B:(List α×Int)→Option (LS (List α×Int) (List α))) (N:Nat)
  (h0:∀l,B (l,0)=some (.done l))
  (h1:∀(l:List α) (k:Nat) x y,k+1 < N→l[k+1]?=some x→l[k]?=some y→lt x y=true→B (l,((k+1:Nat):Int))=some (.next ((l.set (k+1) y).set k x,(k:Int))))
  (h2:∀(l:List α) (k:Nat) x y,k+1 < N→l[k+1]?=some x→l[k]?=some y→lt x y=false→B (l,((k+1:Nat):Int))=some (.done l)) (x:α) :
  ∀(n:Nat) (s t:List α),s.length=n→n < N→qae B (s++x :: t,(n:Int))=some (q3m lt x s++t):=by
 intro n
 induction n with
 | zero =>
  intro s t hs hN;have:s=[]:=vz2 hs;subst this;rw [v33,qad (h0 _)];rfl
 | succ n ih =>
  intro s t hs hN;obtain ⟨s',y,rfl⟩:∃s' y,s=s'++[y]:=by
   rcases List.eq_nil_or_concat s with rfl | ⟨s',y,rfl⟩
   ·simp at hs
   ·exact ⟨s',y,by simp⟩
  have hs':s'.length=n:=by simpa using hs
  have e:s'++[y]++x :: t=s'++y :: x :: t:=by simp
  have g1:(s'++y :: x :: t)[n+1]?=some x:=by rw [vz7 (by omega),hs'];simp
  have g2:(s'++y :: x :: t)[n]?=some y:=by rw [vz7 (by omega),hs'];simp
  rw [e];by_cases hl:lt x y=true
  ·rw [qac (h1 _ n x y hN g1 g2 hl)];have e2:((s'++y :: x :: t).set (n+1) y).set n x=s'++x :: y :: t:=by
    subst hs';rw [List.set_append_right _ _ (by omega),show s'.length+1 - s'.length=1 by omega];simp
   rw [e2,ih s' (y :: t) hs' (by omega),qsh,if_pos hl];simp
  ·have hl:lt x y=false:=by simpa using hl
   rw [qad (h2 _ n x y hN g1 g2 hl),qsh,hl];simp
def qxu {α:Type} (lt:α→α→Bool) (l:List α):List α:=l.foldl (fun s x=>q3m lt x s) []
theorem qo8 {α:Type} (lt:α→α→Bool) (asym:∀x y,lt x y=true→lt y x=false) (ntr:∀x y z,lt y x=false→lt z y=false→lt z x=false) :
  ∀(l s:List α),s.Pairwise (fun a b=>lt b a=false)→(l.foldl (fun s x=>q3m lt x s) s).Perm (s++l)∧(l.foldl (fun s x=>q3m lt x s) s).Pairwise (fun a b=>lt b a=false)
 | [],s,h=>⟨by simp,h⟩
 | x :: l,s,h=>by
  obtain ⟨p,q⟩:=qo8 lt asym ntr l (q3m lt x s) (vcv lt asym ntr x s h);refine ⟨p.trans ?_,q⟩;exact ((q2b lt x s).append_right l).trans (by rw [v2e];exact List.perm_middle.symm)
def qtt {α:Type} (lt:α→α→Bool):List α→List α→Nat
 | [],_=>0
 | _ :: _,[]=>0
 | a :: u,b :: v=>if lt a b then qtt lt u (b :: v) else if lt b a then qtt lt (a :: u) v else qtt lt u v+1
termination_by l r=>l.length+r.length
theorem vea {α:Type} (lt:α→α→Bool) (l:List α):qtt lt l []=0:=by cases l <;> simp [qtt]
theorem vsy {α:Type} (lt:α→α→Bool):∀n (l r:List α),l.length+r.length≤n→qtt lt l r≤l.length:=by
 intro n
 induction n with
 | zero=>intro l r h;have:l=[]:=vz2 (by omega);subst this;simp [qtt]
 | succ n ih =>
  intro l r h;cases l with
  | nil=>simp [qtt]
  | cons a l =>
   cases r with
   | nil=>simp [qtt]
   | cons b r =>
    simp only [v2p] at h;simp only [qtt];split
    ·have:=ih l (b :: r) (by simp;omega);simp;omega
    ·split
     ·have:=ih (a :: l) r (by simp;omega);simpa using this
     ·have:=ih l r (by omega);simp;omega
end Go.Ab
namespace Go.Proofs.YtmlegeeinnkhkaaGreat
open Go Go.Ab
abbrev Str:=List UInt8
def ltS (a b:Str):Bool:=decide (a < b)
theorem vn7:∀(x y:Str),Op.bytesLess x y=ltS x y:=fun x y=>by
 show Op.bytesLess x y=decide (x < y)
 induction x generalizing y with
 | nil=>cases y <;> simp [Op.bytesLess]
 | cons a x ih =>
  cases y with
  | nil=>simp [Op.bytesLess]
  | cons b y =>
   simp only [Op.bytesLess,ih];by_cases h1:a < b
   ·simp [h1,v4f]
   ·by_cases h2:a=b
    ·subst h2;simp [v4f]
    ·simp [h1,h2,v4f]
theorem vsz (x:Str):ltS x x=false:=by simp [ltS,List.lt_irrefl]
theorem q65 (x y:Str) (h:ltS x y=true):ltS y x=false:=by
 simp only [ltS,decide_eq_true_eq,decide_eq_false_iff_not] at *;exact List.lt_asymm h
theorem vkc (x y z:Str) (h1:ltS y x=false) (h2:ltS z y=false):ltS z x=false:=by
 simp only [ltS,decide_eq_false_iff_not,List.not_lt] at *;exact List.le_trans h1 h2
theorem vp5 {x y:Str} (h1:ltS x y=false) (h2:ltS y x=false):x=y:=by
 simp only [ltS,decide_eq_false_iff_not,List.not_lt] at *;exact List.le_antisymm h2 h1
end Go.Proofs.YtmlegeeinnkhkaaGreat

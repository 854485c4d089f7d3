/- The Lean functions that the program's functions are lifted to, and the plain laws about them. -/
import Derived.Lib.Repeat
import Derived.Test.YtmlegeeinnkhkaaGreatA3
import Derived.Test.YtmlegeeinnkhkaaGreatA2
set_option linter.unusedVariables false
set_option linter.unusedSimpArgs false
open Bool renaming and_eq_true→vti,eq_false_or_eq_true→vxi,eq_iff_iff→vxj,false_eq_true→vtk,not_eq_true→vxk,true_eq_false→vto
open Int renaming fdiv→vxl,natCast_inj→vxm,natCast_zero→vxn,ofNat_tmod→vxo,tdiv→vxp,tmod→vxq,toNat_natCast→vxr
open Go.IntKind renaming i64→vxs,u32→vxt,u64→vxu
open Go.Lib renaming compareBytes→vxv
open List renaming Perm→vxw,append_assoc→vts,append_nil→vtt,cons_append→vwa,cons_lt_cons_iff→vxx,drop_drop→vxy,drop_eq_getElem_cons→vtv,drop_of_length_le→vtw,drop_zero→vxz,eq_nil_of_length_eq_zero→vty,ext_getElem?→vtz,findIdx?_cons→vx0,foldl_cons→vx1,getD_eq_getElem?_getD→vwd,getElem?_append_right→vt3,getElem?_drop→vt4,getElem?_eq_getElem→vt5,getElem?_eq_none→vt6,getElem?_eq_some_iff→vt7,getElem?_map→vt8,getElem?_range→vx2,getElem?_replicate→vua,getElem?_set→vwh,length→vx3,length_append→vud,length_cons→vwl,length_drop→vue,length_nil→vug,length_range→vwp,length_replicate→vuh,length_singleton→vwq,length_take→vuj,map_append→vuk,map_congr_left→vws,map_singleton→vx4,mem_cons→vwv,mem_cons_of_mem→vww,mem_cons_self→vwx,mem_map→vwz,mem_of_getElem?→vup,mem_range→vw1,nil_append→vuu,not_lt→vx5,pairwise_cons→vx6,pairwise_iff_forall_sublist→vx7,pairwise_lt_range→vx8,pairwise_reverse→vx9,range→vuv,range_succ→vya,replicate→vux,replicate_succ→vyb,replicate_succ'→vyc,replicate_zero→vyd,reverse_perm→vye,set_append_right→vyf,singleton_append→vyg,take_add_one→vyh,take_append_drop→vw5,take_length→vyi,take_zero→vu2
open Nat renaming add_mul→vu5,div_le_self→vyj,gcd→vyk,gcd_comm→vyl,gcd_pos_of_pos_right→vym,gcd_zero_right→vyn,le_refl→vvb,le_total→vyo,le_trans→vvd,min_eq_left→vw8,min_eq_right→vyp,mod_lt→vvg,one_mul→vvj,strongRecOn→vw9,zero_le→vxc
open Option renaming bind_some→vvn,map_some→vvs
open Option.some renaming inj→vxf,injEq→vvt
noncomputable section
namespace Go.Proofs.YtmlegeeinnkhkaaGreat
open Go Go.Ab
structure Value where
 Kind:Int
 Num:Int
 Str:List UInt8
 deriving DecidableEq
structure Similar where
 Attr:Int
 Measure:Int
 Limit:Int
 deriving DecidableEq
structure Ratio where
 Num:Int
 Den:Int
 deriving DecidableEq
structure Row where
 ID:Int
 Values:List Value
 deriving DecidableEq
structure Linkage where
 Rules:List (List Similar)
 Block:List Int
 Survive:List Int
 deriving DecidableEq
structure Table where
 Name:List UInt8
 Attrs:List (List UInt8)
 Rows:List Row
 deriving DecidableEq
structure Arr2_int where
 x0:Int
 x1:Int
 deriving DecidableEq
structure Arr2_int64 where
 x0:Int
 x1:Int
 deriving DecidableEq
structure Pair where
 I:Int
 K:Int
 Weight:Int
 deriving DecidableEq
structure Cluster_search where
 w:List (List Int)
 labels:List Int
 best:List Int
 least:Int
 deriving DecidableEq
structure Drossref04_Wide where
 Hi:Int
 Lo:Int
 deriving DecidableEq
structure Drossref56_Test where
 Attr:Int
 Measure:Int
 Limit:Int
 deriving DecidableEq
structure Drossref56_Draft where
 Rules:List (List Drossref56_Test)
 Block:Int
 Survive:List Int
 deriving DecidableEq
structure Drossref03_Recipe where
 Attrs:Int
 Gap:Int
 Rows:List (List Int)
 deriving DecidableEq
structure Merged where
 Table:Table
 Clusters:List (List Int)
 Origins:List (List Int)
 deriving DecidableEq
structure Drossref55_Result where
 Value:Value
 Origin:Int
 deriving DecidableEq
structure Drossref55_Row where
 Row:Row
 Origins:List Int
 deriving DecidableEq
def qjo (v_1:Value):Option (Bool) :=
 if (v_1.Kind == 0)=true then
 if (v_1.Num == 0)=true then
 some (v_1.Str == [])
 else
 some false
 else
 if (v_1.Kind == 1)=true then
 some (v_1.Str == [])
 else
 if (v_1.Kind == 2)=true then
 if (v_1.Num == 0)=true then
 some (decide ((v_1.Str.length:Int)≤200))
 else
 some false
 else
 if (v_1.Kind == 3)=true then
 if v_1.Num≥1 then
 some (v_1.Str == [])
 else
 some false
 else
 some false
def qhy (c_10:Similar):Option (Bool) :=
 if (c_10.Measure == 1)=true then
 some (c_10.Limit == 0)
 else
 if (c_10.Measure == 2)=true then
 if c_10.Limit≥0 then
 some (decide (c_10.Limit≤200))
 else
 some false
 else
 if (c_10.Measure == 4)=true then
 if c_10.Limit≥0 then
 some (decide (c_10.Limit≤200))
 else
 some false
 else
 if (c_10.Measure == 3)=true then
 if c_10.Limit≥0 then
 some (decide (c_10.Limit≤100))
 else
 some false
 else
 some false
def qau (s_19:List (List UInt8)) (f_20:(List UInt8)→Option (Bool)):Int→Option (LS (Int) ((Unit) ⊕ (Int))):=fun t8_30 =>
 if t8_30 < (s_19.length:Int) then
 (idx s_19 t8_30).bind fun (x_40:List UInt8) =>
 (f_20 x_40).bind fun (r_42:Bool) =>
 if r_42=true then
 some (.done (.inr t8_30))
 else
 some (.next (vxs.wrap (t8_30+1)))
 else
 some (.done (.inl ()))
def qb5 (s_19:List (List UInt8)) (f_20:(List UInt8)→Option (Bool)):Option (Int) :=
 (qae (qau s_19 f_20) 0).bind (fun o=>match o with
 | .inl () =>
 some (-1)
 | .inr r_47 =>
 some r_47)
def qcd (s_51:List (List UInt8)) (f_52:(List UInt8)→Option (Bool)):Option (Bool) :=
 (qb5 s_51 f_52).bind fun (r_55:Int) =>
 some (decide (r_55≥0))
def qcz (s_58:List UInt8):Option (Bool) :=
 some (decide ((s_58.length:Int) > 200))
def qc6 (l_60:List (List UInt8)):Option (Bool) :=
 (qcd l_60 (fun (y_61:List UInt8)=>qcz y_61)).bind fun (r_62:Bool) =>
 some r_62
def qb6 (a1:List UInt8) (b2:List UInt8):(List (List Int)×Int)→Option (LS (List (List Int)×Int) (List (List Int))):=fun (d3,t4) =>
 if t4 < ((((vux (vxs.wrap ((a1.length:Int)+1)).toNat ([]:List Int))).length:Nat):Int) then
 if 0≤(vxs.wrap ((b2.length:Int)+1)) then
 if qao (vxs.wrap ((b2.length:Int)+1)).toNat 8=true then
 (idx d3 t4).bind fun (x5:List Int) =>
 some (.next ((d3.set t4.toNat (vux (vxs.wrap ((b2.length:Int)+1)).toNat 0)),(vxs.wrap (t4+1))))
 else none
 else none
 else
 some (.done d3)
def qba (a1:List UInt8) (b2:List UInt8) (i3:Int):(List (List Int)×Int)→Option (LS (List (List Int)×Int) (List (List Int))):=fun (d4,j5) =>
 if j5≥0 then
 if (i3 == (a1.length:Int))=true then
 (idx d4 i3).bind fun (x6:List Int) =>
 (idx x6 j5).bind fun (x7:Int) =>
 some (.next ((d4.set i3.toNat (x6.set j5.toNat (vxs.wrap ((b2.length:Int) - j5)))),(vxs.wrap (j5 - 1))))
 else
 if (j5 == (b2.length:Int))=true then
 (idx d4 i3).bind fun (x8:List Int) =>
 (idx x8 j5).bind fun (x9:Int) =>
 some (.next ((d4.set i3.toNat (x8.set j5.toNat (vxs.wrap ((a1.length:Int) - i3)))),(vxs.wrap (j5 - 1))))
 else
 (idx a1 i3).bind fun (c10:UInt8) =>
 (idx b2 j5).bind fun (c11:UInt8) =>
 if (((c10.toNat:Nat):Int) == ((c11.toNat:Nat):Int))=true then
 (idx d4 i3).bind fun (x12:List Int) =>
 (idx d4 (vxs.wrap (i3+1))).bind fun (x13:List Int) =>
 (idx x13 (vxs.wrap (j5+1))).bind fun (x14:Int) =>
 (idx x12 j5).bind fun (x15:Int) =>
 some (.next ((d4.set i3.toNat (x12.set j5.toNat x14)),(vxs.wrap (j5 - 1))))
 else
 (idx d4 i3).bind fun (x16:List Int) =>
 (idx d4 (vxs.wrap (i3+1))).bind fun (x17:List Int) =>
 (idx x17 (vxs.wrap (j5+1))).bind fun (x18:Int) =>
 (idx x17 j5).bind fun (x19:Int) =>
 (idx x16 (vxs.wrap (j5+1))).bind fun (x20:Int) =>
 (idx x16 j5).bind fun (x21:Int) =>
 some (.next ((d4.set i3.toNat (x16.set j5.toNat (vxs.wrap (1+(if x20 < (if x19 < x18 then x19 else x18) then x20 else (if x19 < x18 then x19 else x18)))))),(vxs.wrap (j5 - 1))))
 else
 some (.done d4)
def qc7 (a1:List UInt8) (b2:List UInt8):(List (List Int)×Int)→Option (LS (List (List Int)×Int) (List (List Int))):=fun (d3,i4) =>
 if i4≥0 then
 (qae (qba a1 b2 i4) (d3,(b2.length:Int))).bind (fun d5 =>
 some (.next (d5,(vxs.wrap (i4 - 1)))))
 else
 some (.done d3)
def qe1 (a1:List UInt8) (b2:List UInt8):Option (List (List Int)) :=
 if 0≤(vxs.wrap ((a1.length:Int)+1)) then
 if qao (vxs.wrap ((a1.length:Int)+1)).toNat 24=true then
 (qae (qb6 a1 b2) ((vux (vxs.wrap ((a1.length:Int)+1)).toNat ([]:List Int)),0)).bind (fun d3 =>
 (qae (qc7 a1 b2) (d3,(a1.length:Int))).bind (fun d4 =>
 some d4))
 else none
 else none
def qfm (a1:List UInt8) (b2:List UInt8):Option (Int×Int) :=
 (qc6 [a1,b2]).bind fun (r3:Bool) =>
 if r3=true then
 some (0,3)
 else
 (qe1 a1 b2).bind fun (r4:List (List Int)) =>
 (r4[0]?).bind fun (x5:List Int) =>
 (x5[0]?).bind fun (x6:Int) =>
 some (x6,0)
def qiw (a1:List UInt8) (b2:List UInt8) (m3:Int):Option (Bool×Int) :=
 (qfm a1 b2).bind fun (r4:Int×Int) =>
 if (r4.2 == 0)=true then
 some ((decide (r4.1≤m3)),r4.2)
 else
 some (false,r4.2)
def qn8 (n1:Int):Option (Int) :=
 if n1 < 0 then
 some (vxu.wrap (0 - (vxu.wrap n1)))
 else
 some (vxu.wrap n1)
def qk1:(Int×Int)→Option (LS (Int×Int) (Int)):=fun (a1,b2) =>
 if b2 > 0 then
 if b2=0 then none else
 some (.next (b2,(vxq a1 b2)))
 else
 some (.done a1)
def qpz (a1:Int) (b2:Int):Option (Int) :=
 (qae qk1 (a1,b2)).bind (fun a3 =>
 some a3)
def qv0 (n1:Bool) (n2:Int) (d3:Int):Option (Ratio×Int) :=
 if n2 > 9223372036854775807 then
 some ((Ratio.mk 0 0),7)
 else
 if d3 > 9223372036854775807 then
 some ((Ratio.mk 0 0),7)
 else
 if n1=true then
 some ((Ratio.mk (vxs.wrap (0 - (vxs.wrap n2))) (vxs.wrap d3)),0)
 else
 some ((Ratio.mk (vxs.wrap n2) (vxs.wrap d3)),0)
def qj0 (n1:Int) (d2:Int):Option (Ratio×Int) :=
 if (d2 == 0)=true then
 some ((Ratio.mk 0 0),8)
 else
 (qn8 n1).bind fun (r3:Int) =>
 (qn8 d2).bind fun (r4:Int) =>
 (qpz r3 r4).bind fun (r5:Int) =>
 if r5=0 then none else
 (qv0 (!((decide (n1 < 0)) == (decide (d2 < 0)))) (vxu.wrap (vxp r3 r5)) (vxu.wrap (vxp r4 r5))).bind fun (r6:Ratio×Int) =>
 some (r6.1,r6.2)
def strings_Repeat (x:List UInt8) (n:Int):Option (List UInt8):=repF x n
def qfn (s1:List UInt8) (q2:Int) (w3:List UInt8):(List (List UInt8)×Int)→Option (LS (List (List UInt8)×Int) (List (List UInt8))):=fun (o4,t5) =>
 if t5 < (vxs.wrap ((vxs.wrap ((s1.length:Int)+q2)) - 1)) then
 if 0≤t5 then
 if t5≤(vxs.wrap (t5+q2)) then
 if (vxs.wrap (t5+q2))≤(w3.length:Int) then
 if qao (o4.length+1) 16=true then
 some (.next ((o4++[((w3.drop t5.toNat).take ((vxs.wrap (t5+q2)).toNat - t5.toNat))]),(vxs.wrap (t5+1))))
 else none
 else none
 else none
 else none
 else
 some (.done o4)
def qdk (s1:List UInt8) (q2:Int):Option (List (List UInt8)×Int) :=
 (qc6 [s1]).bind fun (r3:Bool) =>
 if r3=true then
 some ([],3)
 else
 if q2 < 1 then
 some ([],7)
 else
 if q2 > 4 then
 some ([],7)
 else
 (strings_Repeat [1] (vxs.wrap (q2 - 1))).bind fun (r4:List UInt8) =>
 if r4.length+s1.length≤9223372036854775807 then
 (some (r4++s1)).bind fun (w5:List UInt8) =>
 if w5.length+r4.length≤9223372036854775807 then
 (some (w5++r4)).bind fun (w6:List UInt8) =>
 (qae (qfn s1 q2 w6) ([],0)).bind (fun o7 =>
 (q61 o7).bind fun (l8:List (List UInt8)) =>
 some (l8,0))
 else none
 else none
def qgj (a1:List UInt8) (b2:List UInt8):Option (Int) :=
 some (vxv a1 b2)
def qif (a1:List UInt8) (b2:List UInt8):Option (Int) :=
 (qgj a1 b2).bind fun (r3:Int) =>
 some r3
def qcg:(List (List UInt8)×List (List UInt8)×Int)→Option (LS (List (List UInt8)×List (List UInt8)×Int) (Int)):=fun (a1,b2,n3) =>
 if (a1.length:Int) > 0 then
 if (b2.length:Int) > 0 then
 (a1[0]?).bind fun (x4:List UInt8) =>
 (b2[0]?).bind fun (x5:List UInt8) =>
 (qif x4 x5).bind fun (r6:Int) =>
 if r6 < 0 then
 if (1:Int)≤(a1.length:Int) then
 some (.next (((a1.drop 1).take (a1.length - 1)),b2,n3))
 else none
 else
 if r6 > 0 then
 if (1:Int)≤(b2.length:Int) then
 some (.next (a1,((b2.drop 1).take (b2.length - 1)),n3))
 else none
 else
 if (1:Int)≤(a1.length:Int) then
 if (1:Int)≤(b2.length:Int) then
 some (.next (((a1.drop 1).take (a1.length - 1)),((b2.drop 1).take (b2.length - 1)),(vxs.wrap (n3+1))))
 else none
 else none
 else
 some (.done n3)
 else
 some (.done n3)
def qg2 (a1:List (List UInt8)) (b2:List (List UInt8)):Option (Int) :=
 (qae qcg (a1,b2,0)).bind (fun n3 =>
 some n3)
def qg3 (a1:List UInt8) (b2:List UInt8) (q3:Int):Option (Ratio×Int) :=
 (qc6 [a1,b2]).bind fun (r4:Bool) =>
 if r4=true then
 some ((Ratio.mk 0 0),3)
 else
 (qdk a1 q3).bind fun (r5:List (List UInt8)×Int) =>
 (qdk b2 q3).bind fun (r6:List (List UInt8)×Int) =>
 if (r5.2 != 0)=true then
 some ((Ratio.mk 0 0),r5.2)
 else
 if ((vxs.wrap ((r5.1.length:Int)+(r6.1.length:Int))) == 0)=true then
 some ((Ratio.mk 1 1),0)
 else
 (qg2 r5.1 r6.1).bind fun (r7:Int) =>
 (qj0 (vxs.wrap (2 * r7)) (vxs.wrap ((r5.1.length:Int)+(r6.1.length:Int)))).bind fun (r8:Ratio×Int) =>
 some (r8.1,r8.2)
def qb3 (x1:Row) (y2:Row) (c3:Similar):Option (Bool×Int) :=
 if c3.Attr < 0 then
 some (false,6)
 else
 if c3.Attr≥(x1.Values.length:Int) then
 some (false,6)
 else
 if c3.Attr≥(y2.Values.length:Int) then
 some (false,6)
 else
 (idx x1.Values c3.Attr).bind fun (x4:Value) =>
 (idx y2.Values c3.Attr).bind fun (x5:Value) =>
 (qjo x4).bind fun (r6:Bool) =>
 if r6=true then
 (qjo x5).bind fun (r7:Bool) =>
 if r7=true then
 (qhy c3).bind fun (r8:Bool) =>
 if r8=true then
 (show Option (Bool) from
 if (x4.Kind != 2)=true then
 some true
 else
 some (x5.Kind != 2)).bind (fun t9 =>
 if t9=true then
 some (((x4.Kind == x5.Kind) && ((x4.Num == x5.Num) && (x4.Str == x5.Str))),0)
 else
 if (c3.Measure == 2)=true then
 (qiw x4.Str x5.Str c3.Limit).bind fun (r10:Bool×Int) =>
 some (r10.1,r10.2)
 else
 if (c3.Measure == 3)=true then
 (qg3 x4.Str x5.Str 2).bind fun (r11:Ratio×Int) =>
 if (r11.2 == 0)=true then
 some ((decide ((vxs.wrap (100 * r11.1.Num))≥(vxs.wrap (c3.Limit * r11.1.Den)))),r11.2)
 else
 some (false,r11.2)
 else
 if (c3.Measure == 4)=true then
 if (0:Int)≤(if (x4.Str.length:Int) < c3.Limit then (x4.Str.length:Int) else c3.Limit) then
 if (if (x4.Str.length:Int) < c3.Limit then (x4.Str.length:Int) else c3.Limit)≤(x4.Str.length:Int) then
 if (0:Int)≤(if (x5.Str.length:Int) < c3.Limit then (x5.Str.length:Int) else c3.Limit) then
 if (if (x5.Str.length:Int) < c3.Limit then (x5.Str.length:Int) else c3.Limit)≤(x5.Str.length:Int) then
 some (((x4.Str.take ((if (x4.Str.length:Int) < c3.Limit then (x4.Str.length:Int) else c3.Limit).toNat)) == (x5.Str.take ((if (x5.Str.length:Int) < c3.Limit then (x5.Str.length:Int) else c3.Limit).toNat))),0)
 else none
 else none
 else none
 else none
 else
 some ((x4.Str == x5.Str),0))
 else
 some (false,1)
 else
 some (false,1)
 else
 some (false,1)
def qb7 (s1:List Int) (f2:Int→Option (Bool)):Int→Option (LS (Int) ((Unit) ⊕ (Int))):=fun t3 =>
 if t3 < (s1.length:Int) then
 (idx s1 t3).bind fun (x4:Int) =>
 (f2 x4).bind fun (r5:Bool) =>
 if r5=true then
 some (.done (.inr t3))
 else
 some (.next (vxs.wrap (t3+1)))
 else
 some (.done (.inl ()))
def qe2 (s1:List Int) (f2:Int→Option (Bool)):Option (Int) :=
 (qae (qb7 s1 f2) 0).bind (fun o=>match o with
 | .inl () =>
 some (-1)
 | .inr r3 =>
 some r3)
def qa4 (s1:List Int) (f2:Int→Option (Bool)):Option (Bool) :=
 (qe2 s1 f2).bind fun (r3:Int) =>
 some (decide (r3≥0))
def qg4 (a1:Int) (c2:Int):Option (Bool) :=
 if a1 < 0 then
 some true
 else
 some (decide (a1≥c2))
def qg5 (s1:Int):Option (Bool) :=
 if s1 < 1 then
 some true
 else
 some (decide (s1 > 5))
def qf6 (l1:List Value) (x2:List Similar):Int→Option (LS (Int) ((Unit) ⊕ (Int))):=fun t3 =>
 if t3 < (x2.length:Int) then
 (idx x2 t3).bind fun (x4:Similar) =>
 (qb3 (Row.mk 0 l1) (Row.mk 0 l1) x4).bind fun (r5:Bool×Int) =>
 if (r5.2 != 0)=true then
 some (.done (.inr r5.2))
 else
 some (.next (vxs.wrap (t3+1)))
 else
 some (.done (.inl ()))
def qdl (l1:Linkage) (l2:List Value):Int→Option (LS (Int) ((Unit) ⊕ (Int))):=fun t3 =>
 if t3 < (l1.Rules.length:Int) then
 (idx l1.Rules t3).bind fun (x4:List Similar) =>
 if (x4.length:Int) < 1 then
 some (.done (.inr 1))
 else
 if (x4.length:Int) > 6 then
 some (.done (.inr 1))
 else
 (qae (qf6 l2 x4) 0).bind (fun o=>match o with
 | .inl () =>
 some (.next (vxs.wrap (t3+1)))
 | .inr r5 =>
 some (.done (.inr r5)))
 else
 some (.done (.inl ()))
def qgk (n1:Int) (l2:Linkage):Option (Int) :=
 if n1 < 0 then
 some 7
 else
 if n1 > 16 then
 some 7
 else
 if (l2.Rules.length:Int) > 8 then
 some 3
 else
 if 0≤n1 then
 if qao (n1).toNat 32=true then
 (some ((vux (n1).toNat (Value.mk 0 0 [])):List Value)).bind fun (l3:List Value) =>
 (qae (qdl l2 l3) 0).bind (fun o=>match o with
 | .inl () =>
 (qa4 l2.Block (fun (y4:Int)=>qg4 y4 n1)).bind fun (r5:Bool) =>
 if r5=true then
 some 6
 else
 if qao l2.Block.length 8=true then
 (qwx l2.Block).bind fun (l6:List Int) =>
 (vgl l6).bind fun (l7:List Int) =>
 if (((l7.length:Nat):Int) != (l2.Block.length:Int))=true then
 some 1
 else
 if ((l2.Survive.length:Int) != n1)=true then
 some 6
 else
 (qa4 l2.Survive (fun (y8:Int)=>qg5 y8)).bind fun (r9:Bool) =>
 if r9=true then
 some 1
 else
 some 0
 else none
 | .inr r10 =>
 some r10)
 else none
 else none
def qg6 (s1:List UInt8):Int→Option (LS (Int) ((Unit) ⊕ (Bool))):=fun t2 =>
 if t2 < (s1.length:Int) then
 (idx s1 t2).bind fun (c3:UInt8) =>
 (show Option (Bool) from
 if ((c3.toNat:Nat):Int)≥97 then
 if ((c3.toNat:Nat):Int)≤122 then
 some true
 else
 if ((c3.toNat:Nat):Int)≥65 then
 if ((c3.toNat:Nat):Int)≤90 then
 some true
 else
 some (((c3.toNat:Nat):Int) == 95)
 else
 some (((c3.toNat:Nat):Int) == 95)
 else
 if ((c3.toNat:Nat):Int)≥65 then
 if ((c3.toNat:Nat):Int)≤90 then
 some true
 else
 some (((c3.toNat:Nat):Int) == 95)
 else
 some (((c3.toNat:Nat):Int) == 95)).bind (fun l4 =>
 if l4=true then
 some (.next (vxs.wrap (t2+1)))
 else
 if (t2 == 0)=true then
 some (.done (.inr false))
 else
 if ((c3.toNat:Nat):Int) < 48 then
 some (.done (.inr false))
 else
 if ((c3.toNat:Nat):Int) > 57 then
 some (.done (.inr false))
 else
 some (.next (vxs.wrap (t2+1))))
 else
 some (.done (.inl ()))
def qj1 (s1:List UInt8):Option (Bool) :=
 if (s1 == [])=true then
 some false
 else
 if (s1.length:Int) > 24 then
 some false
 else
 if (s1 == [110,117,108,108])=true then
 some false
 else
 (qae (qg6 s1) 0).bind (fun o=>match o with
 | .inl () =>
 some true
 | .inr r2 =>
 some r2)
def qcq (s1:List (List UInt8)) (v2:List UInt8):Int→Option (LS (Int) ((Unit) ⊕ (Int))):=fun t3 =>
 if t3 < (s1.length:Int) then
 (idx s1 t3).bind fun (x4:List UInt8) =>
 if (v2 == x4)=true then
 some (.done (.inr t3))
 else
 some (.next (vxs.wrap (t3+1)))
 else
 some (.done (.inl ()))
def qfo (s1:List (List UInt8)) (v2:List UInt8):Option (Int) :=
 (qae (qcq s1 v2) 0).bind (fun o=>match o with
 | .inl () =>
 some (-1)
 | .inr r3 =>
 some r3)
def qdq (s1:List (List UInt8)) (v2:List UInt8):Option (Bool) :=
 (qfo s1 v2).bind fun (r3:Int) =>
 some (decide (r3≥0))
def qbu (s1:List Value) (f2:Value→Option (Bool)):Int→Option (LS (Int) ((Unit) ⊕ (Int))):=fun t3 =>
 if t3 < (s1.length:Int) then
 (idx s1 t3).bind fun (x4:Value) =>
 (f2 x4).bind fun (r5:Bool) =>
 if r5=true then
 some (.done (.inr t3))
 else
 some (.next (vxs.wrap (t3+1)))
 else
 some (.done (.inl ()))
def qdr (s1:List Value) (f2:Value→Option (Bool)):Option (Int) :=
 (qae (qbu s1 f2) 0).bind (fun o=>match o with
 | .inl () =>
 some (-1)
 | .inr r3 =>
 some r3)
def qcu (s1:List Value) (f2:Value→Option (Bool)):Option (Bool) :=
 (qdr s1 f2).bind fun (r3:Int) =>
 some (decide (r3≥0))
def qdv (v1:Value):Option (Bool) :=
 (qjo v1).bind fun (r2:Bool) =>
 some (!r2)
def qg7 (l1:List Value):Option (Bool) :=
 (qcu l1 (fun (y2:Value)=>qdv y2)).bind fun (r3:Bool) =>
 some (!r3)
def qh5 (t1:Table):Int→Option (LS (Int) ((Unit) ⊕ (Int))):=fun t2 =>
 if t2 < (t1.Attrs.length:Int) then
 (idx t1.Attrs t2).bind fun (x3:List UInt8) =>
 (qj1 x3).bind fun (r4:Bool) =>
 if r4=true then
 if (0:Int)≤t2 then
 if t2≤(t1.Attrs.length:Int) then
 (qdq (t1.Attrs.take (t2.toNat)) x3).bind fun (r5:Bool) =>
 if r5=true then
 some (.done (.inr 1))
 else
 some (.next (vxs.wrap (t2+1)))
 else none
 else none
 else
 some (.done (.inr 1))
 else
 some (.done (.inl ()))
def qi9 (t1:Table):(Int×Int)→Option (LS (Int×Int) ((Unit) ⊕ (Int))):=fun (l2,t3) =>
 if t3 < (t1.Rows.length:Int) then
 (idx t1.Rows t3).bind fun (x4:Row) =>
 if x4.ID≤l2 then
 some (.done (.inr 1))
 else
 if ((x4.Values.length:Int) != (t1.Attrs.length:Int))=true then
 some (.done (.inr 6))
 else
 (qg7 x4.Values).bind fun (r5:Bool) =>
 if r5=true then
 some (.next (x4.ID,(vxs.wrap (t3+1))))
 else
 some (.done (.inr 1))
 else
 some (.done (.inl ()))
def qmb (t1:Table):Option (Int) :=
 (qj1 t1.Name).bind fun (r2:Bool) =>
 if r2=true then
 if (t1.Attrs.length:Int) > 16 then
 some 3
 else
 if (t1.Rows.length:Int) > 1000 then
 some 3
 else
 (qae (qh5 t1) 0).bind (fun o=>match o with
 | .inl () =>
 (qae (qi9 t1) (0,0)).bind (fun o=>match o with
 | .inl () =>
 some 0
 | .inr r3 =>
 some r3)
 | .inr r4 =>
 some r4)
 else
 some 1
def qh6 (t1:Table) (l2:Linkage):Option (Int) :=
 (qmb t1).bind fun (r3:Int) =>
 if (r3 != 0)=true then
 some r3
 else
 (qgk (t1.Attrs.length:Int) l2).bind fun (r4:Int) =>
 if (r4 != 0)=true then
 some r4
 else
 if (t1.Rows.length:Int) > 200 then
 some 3
 else
 some 0
def qbh (s1:List (List Similar)) (f2:(List Similar)→Option (Bool)):Int→Option (LS (Int) ((Unit) ⊕ (Int))):=fun t3 =>
 if t3 < (s1.length:Int) then
 (idx s1 t3).bind fun (x4:List Similar) =>
 (f2 x4).bind fun (r5:Bool) =>
 if r5=true then
 some (.done (.inr t3))
 else
 some (.next (vxs.wrap (t3+1)))
 else
 some (.done (.inl ()))
def qc0 (s1:List (List Similar)) (f2:(List Similar)→Option (Bool)):Option (Int) :=
 (qae (qbh s1 f2) 0).bind (fun o=>match o with
 | .inl () =>
 some (-1)
 | .inr r3 =>
 some r3)
def qa9 (s1:List Similar) (f2:Similar→Option (Bool)):Int→Option (LS (Int) ((Unit) ⊕ (Int))):=fun t3 =>
 if t3 < (s1.length:Int) then
 (idx s1 t3).bind fun (x4:Similar) =>
 (f2 x4).bind fun (r5:Bool) =>
 if r5=true then
 some (.done (.inr t3))
 else
 some (.next (vxs.wrap (t3+1)))
 else
 some (.done (.inl ()))
def qce (s1:List Similar) (f2:Similar→Option (Bool)):Option (Int) :=
 (qae (qa9 s1 f2) 0).bind (fun o=>match o with
 | .inl () =>
 some (-1)
 | .inr r3 =>
 some r3)
def qbi (s1:List Similar) (f2:Similar→Option (Bool)):Option (Bool) :=
 (qce s1 f2).bind fun (r3:Int) =>
 some (decide (r3≥0))
def qfb (c1:Similar) (c2:Row) (c3:Row):Option (Bool) :=
 (qb3 c2 c3 c1).bind fun (r4:Bool×Int) =>
 some (!r4.1)
def qfp (r1:List Similar) (c2:Row) (c3:Row):Option (Bool) :=
 (qbi r1 (fun (y4:Similar)=>qfb y4 c2 c3)).bind fun (r5:Bool) =>
 some (!r5)
def qka (l1:Linkage) (a2:Row) (b3:Row):Option (Int) :=
 (qc0 l1.Rules (fun (y4:List Similar)=>qfp y4 a2 b3)).bind fun (r5:Int) =>
 some r5
def qgl (k1:Int) (c2:Row) (c3:Row):Option (Bool) :=
 (idx c2.Values k1).bind fun (x4:Value) =>
 (idx c3.Values k1).bind fun (x5:Value) =>
 some ((x4.Kind == x5.Kind) && ((x4.Num == x5.Num) && (x4.Str == x5.Str)))
def qf7 (l1:Linkage) (a2:Row) (b3:Row):Option (Bool) :=
 if ((l1.Block.length:Int) == 0)=true then
 some true
 else
 (qa4 l1.Block (fun (y4:Int)=>qgl y4 a2 b3)).bind fun (r5:Bool) =>
 some r5
def qc8 (t1:Table) (l2:Linkage) (t3:Int) (x4:Row):(List Arr2_int×Int)→Option (LS (List Arr2_int×Int) (List Arr2_int)):=fun (o5,k6) =>
 if k6 < (t1.Rows.length:Int) then
 (idx t1.Rows k6).bind fun (x7:Row) =>
 (show Option (Bool) from
 (qf7 l2 x4 x7).bind fun (r8:Bool) =>
 if r8=true then
 (qka l2 x4 x7).bind fun (r9:Int) =>
 some (decide (r9≥0))
 else
 some false).bind (fun t10 =>
 if t10=true then
 if qao (o5.length+1) 16=true then
 some (.next ((o5++[(Arr2_int.mk t3 k6)]),(vxs.wrap (k6+1))))
 else none
 else
 some (.next (o5,(vxs.wrap (k6+1)))))
 else
 some (.done o5)
def qgm (t1:Table) (l2:Linkage):(List Arr2_int×Int)→Option (LS (List Arr2_int×Int) (List Arr2_int)):=fun (o3,t4) =>
 if t4 < (t1.Rows.length:Int) then
 (idx t1.Rows t4).bind fun (x5:Row) =>
 (qae (qc8 t1 l2 t4 x5) (o3,(vxs.wrap (t4+1)))).bind (fun o6 =>
 some (.next (o6,(vxs.wrap (t4+1)))))
 else
 some (.done o3)
def qfq (t1:Table) (l2:Linkage):Option (List Arr2_int) :=
 (qae (qgm t1 l2) ([],0)).bind (fun o3 =>
 some o3)
def qgn (t1:Table) (r2:List Arr2_int):(List Arr2_int64×Int)→Option (LS (List Arr2_int64×Int) (List Arr2_int64)):=fun (o3,t4) =>
 if t4 < (r2.length:Int) then
 (idx r2 t4).bind fun (x5:Arr2_int) =>
 (idx t1.Rows x5.x0).bind fun (x6:Row) =>
 (idx t1.Rows x5.x1).bind fun (x7:Row) =>
 if qao (o3.length+1) 16=true then
 some (.next ((o3++[(Arr2_int64.mk x6.ID x7.ID)]),(vxs.wrap (t4+1))))
 else none
 else
 some (.done o3)
def qig (t1:Table) (l2:Linkage):Option (List Arr2_int64×Int) :=
 (qh6 t1 l2).bind fun (r3:Int) =>
 if (r3 != 0)=true then
 some ([],r3)
 else
 (qfq t1 l2).bind fun (r4:List Arr2_int) =>
 (qae (qgn t1 r4) ([],0)).bind (fun o5 =>
 some (o5,0))
def qe6 (a1:List Arr2_int64) (b2:List Arr2_int64):Int→Option (LS (Int) ((Unit) ⊕ (Bool))):=fun i3 =>
 if i3 < (a1.length:Int) then
 (idx a1 i3).bind fun (x4:Arr2_int64) =>
 (idx b2 i3).bind fun (x5:Arr2_int64) =>
 if ((x4.x0 == x5.x0) && (x4.x1 == x5.x1))=true then
 some (.next (vxs.wrap (i3+1)))
 else
 some (.done (.inr false))
 else
 some (.done (.inl ()))
def qdf (a1:List Arr2_int64) (b2:List Arr2_int64):Option (Bool) :=
 if ((a1.length:Int) != (b2.length:Int))=true then
 some false
 else
 (qae (qe6 a1 b2) 0).bind (fun o=>match o with
 | .inl () =>
 some true
 | .inr r3 =>
 some r3)
def qja (n1:Int) (e2:List Arr2_int):Int→Option (LS (Int) ((Unit) ⊕ (Int))):=fun t3 =>
 if t3 < (e2.length:Int) then
 (idx e2 t3).bind fun (x4:Arr2_int) =>
 if (if x4.x1 < x4.x0 then x4.x1 else x4.x0) < 0 then
 some (.done (.inr 1))
 else
 if (if x4.x1 > x4.x0 then x4.x1 else x4.x0)≥n1 then
 some (.done (.inr 1))
 else
 some (.next (vxs.wrap (t3+1)))
 else
 some (.done (.inl ()))
def qmc (n1:Int) (e2:List Arr2_int):Option (Int) :=
 (show Option (Bool) from
 if n1 > 1000 then
 some true
 else
 some (decide ((e2.length:Int) > 20000))).bind (fun t3 =>
 if t3=true then
 some 3
 else
 if n1 < 0 then
 some 1
 else
 (qae (qja n1 e2) 0).bind (fun o=>match o with
 | .inl () =>
 some 0
 | .inr r4 =>
 some r4))
def qfr (e1:List Arr2_int):(List (List Int)×Int)→Option (LS (List (List Int)×Int) (List (List Int))):=fun (o2,t3) =>
 if t3 < (e1.length:Int) then
 (idx e1 t3).bind fun (x4:Arr2_int) =>
 (idx o2 x4.x0).bind fun (x5:List Int) =>
 if qao (x5.length+1) 8=true then
 some (.next ((o2.set x4.x0.toNat (x5++[x4.x1])),(vxs.wrap (t3+1))))
 else none
 else
 some (.done o2)
def qfs (o1:List (List Int)):(List (List Int)×Int)→Option (LS (List (List Int)×Int) (List (List Int))):=fun (o2,t3) =>
 if t3 < ((o1.length:Nat):Int) then
 (idx o2 t3).bind fun (x4:List Int) =>
 (qwx x4).bind fun (l5:List Int) =>
 (idx (o2.set t3.toNat l5) t3).bind fun (x6:List Int) =>
 (vgl x6).bind fun (l7:List Int) =>
 some (.next (((o2.set t3.toNat l5).set t3.toNat l7),(vxs.wrap (t3+1))))
 else
 some (.done o2)
def qhz (n1:Int) (e2:List Arr2_int):Option (List (List Int)) :=
 if 0≤n1 then
 if qao (n1).toNat 24=true then
 (qae (qfr e2) ((vux (n1).toNat ([]:List Int)),0)).bind (fun o3 =>
 (qae (qfs o3) (o3,0)).bind (fun o4 =>
 some o4))
 else none
 else none
def qb8 (s1:List (List Arr2_int)):(Int×Int)→Option (LS (Int×Int) (Int)):=fun (s2,t3) =>
 if t3 < (s1.length:Int) then
 (idx s1 t3).bind fun (x4:List Arr2_int) =>
 if (vxs.wrap (s2+(x4.length:Int))) < 0 then
 none
 else
 some (.next ((vxs.wrap (s2+(x4.length:Int))),(vxs.wrap (t3+1))))
 else
 some (.done s2)
def qb9 (s1:List (List Arr2_int)):(List Arr2_int×Int)→Option (LS (List Arr2_int×Int) (List Arr2_int)):=fun (n2,t3) =>
 if t3 < (s1.length:Int) then
 (idx s1 t3).bind fun (x4:List Arr2_int) =>
 if qao (n2.length+x4.length) 16=true then
 some (.next ((n2++x4),(vxs.wrap (t3+1))))
 else none
 else
 some (.done n2)
def qe3 (s1:List (List Arr2_int)):Option (List Arr2_int) :=
 (qae (qb8 s1) (0,0)).bind (fun s2 =>
 if 0≤s2 then
 if s2≤1000000000000 then
 (qae (qb9 s1) (([]:List Arr2_int),0)).bind (fun n3 =>
 some n3)
 else none
 else none)
def qg8 (e1:List Arr2_int):(List Arr2_int×Int)→Option (LS (List Arr2_int×Int) (List Arr2_int)):=fun (o2,t3) =>
 if t3 < (e1.length:Int) then
 (idx e1 t3).bind fun (x4:Arr2_int) =>
 (idx o2 t3).bind fun (x5:Arr2_int) =>
 some (.next ((o2.set t3.toNat (Arr2_int.mk x4.x1 x4.x0)),(vxs.wrap (t3+1))))
 else
 some (.done o2)
def qjb (e1:List Arr2_int):Option (List Arr2_int) :=
 if 0≤(e1.length:Int) then
 if qao e1.length 16=true then
 (qae (qg8 e1) ((vux e1.length (Arr2_int.mk 0 0)),0)).bind (fun o2 =>
 some o2)
 else none
 else none
def qh7 (x1:List Int):(List Bool×List Int×Int)→Option (LS (List Bool×List Int×Int) (List Bool×List Int)):=fun (s2,o3,t4) =>
 if t4 < (x1.length:Int) then
 (idx x1 t4).bind fun (x5:Int) =>
 (idx s2 x5).bind fun (x6:Bool) =>
 if x6=true then
 some (.next (s2,o3,(vxs.wrap (t4+1))))
 else
 if qao (o3.length+1) 8=true then
 some (.next ((s2.set x5.toNat true),(o3++[x5]),(vxs.wrap (t4+1))))
 else none
 else
 some (.done (s2,o3))
def qh8 (n1:List (List Int)):(List Bool×List Int×Int)→Option (LS (List Bool×List Int×Int) (List Int)):=fun (s2,o3,i4) =>
 if i4 < ((o3.length:Nat):Int) then
 (idx o3 i4).bind fun (x5:Int) =>
 (idx n1 x5).bind fun (x6:List Int) =>
 (qae (qh7 x6) (s2,o3,0)).bind (fun (s7,o8) =>
 some (.next (s7,o8,(vxs.wrap (i4+1)))))
 else
 some (.done o3)
def qmd (n1:List (List Int)) (f2:Int):Option (List Int) :=
 if 0≤(n1.length:Int) then
 if qao n1.length 1=true then
 (some ((vux n1.length false):List Bool)).bind fun (l3:List Bool) =>
 (idx l3 f2).bind fun (x4:Bool) =>
 (qae (qh8 n1) ((l3.set f2.toNat true),[f2],0)).bind (fun o5 =>
 (qwx o5).bind fun (l6:List Int) =>
 some l6)
 else none
 else none
def qdw (r1:List Int):(List Bool×Int)→Option (LS (List Bool×Int) (List Bool)):=fun (d2,t3) =>
 if t3 < (r1.length:Int) then
 (idx r1 t3).bind fun (x4:Int) =>
 (idx d2 x4).bind fun (x5:Bool) =>
 some (.next ((d2.set x4.toNat true),(vxs.wrap (t3+1))))
 else
 some (.done d2)
def qdx (n1:Int) (r2:List (List Int)):(List Bool×List (List Int)×Int)→Option (LS (List Bool×List (List Int)×Int) (List (List Int))):=fun (d3,o4,t5) =>
 if t5 < n1 then
 (idx d3 t5).bind fun (x6:Bool) =>
 if x6=true then
 some (.next (d3,o4,(vxs.wrap (t5+1))))
 else
 (qmd r2 t5).bind fun (r7:List Int) =>
 (qae (qdw r7) (d3,0)).bind (fun d8 =>
 if qao (o4.length+1) 24=true then
 some (.next (d8,(o4++[r7]),(vxs.wrap (t5+1))))
 else none)
 else
 some (.done o4)
def qf8 (n1:Int) (e2:List Arr2_int):Option (List (List Int)×Int) :=
 (qmc n1 e2).bind fun (r3:Int) =>
 if (r3 != 0)=true then
 some ([],r3)
 else
 (qjb e2).bind fun (r4:List Arr2_int) =>
 (qe3 [e2,r4]).bind fun (r5:List Arr2_int) =>
 (qhz n1 r5).bind fun (r6:List (List Int)) =>
 if 0≤n1 then
 if qao (n1).toNat 1=true then
 (qae (qdx n1 r6) ((vux (n1).toNat false),[],0)).bind (fun o7 =>
 some (o7,0))
 else none
 else none
def qh0 (n1:Int) (l2:List Pair):((List (Arr2_int×Bool))×Int)→Option (LS ((List (Arr2_int×Bool))×Int) ((Unit) ⊕ (Int))):=fun (s3,t4) =>
 if t4 < (l2.length:Int) then
 (idx l2 t4).bind fun (x5:Pair) =>
 if x5.I < 0 then
 some (.done (.inr 1))
 else
 if x5.I≥x5.K then
 some (.done (.inr 1))
 else
 if x5.K≥n1 then
 some (.done (.inr 1))
 else
 if x5.Weight < (-1000) then
 some (.done (.inr 1))
 else
 if x5.Weight > 1000 then
 some (.done (.inr 1))
 else
 if ((qpx s3 (Arr2_int.mk x5.I x5.K)).getD false)=true then
 some (.done (.inr 1))
 else
 some (.next ((qvz s3 (Arr2_int.mk x5.I x5.K) true),(vxs.wrap (t4+1))))
 else
 some (.done (.inl ()))
def qix (n1:Int) (l2:List Pair):Option (Int) :=
 (show Option (Bool) from
 if n1 < 0 then
 some true
 else
 some (decide (n1 > 200))).bind (fun t3 =>
 if t3=true then
 some 7
 else
 if (l2.length:Int) > 20000 then
 some 3
 else
 (qae (qh0 n1 l2) ([],0)).bind (fun o=>match o with
 | .inl () =>
 some 0
 | .inr r4 =>
 some r4))
def qg9 (n1:Int):(List (List Int)×Int)→Option (LS (List (List Int)×Int) (List (List Int))):=fun (w2,t3) =>
 if t3 < ((((vux (n1).toNat ([]:List Int))).length:Nat):Int) then
 if 0≤n1 then
 if qao (n1).toNat 8=true then
 (idx w2 t3).bind fun (x4:List Int) =>
 some (.next ((w2.set t3.toNat (vux (n1).toNat 0)),(vxs.wrap (t3+1))))
 else none
 else none
 else
 some (.done w2)
def qha (l1:List Pair):(List (List Int)×Int)→Option (LS (List (List Int)×Int) (List (List Int))):=fun (w2,t3) =>
 if t3 < (l1.length:Int) then
 (idx l1 t3).bind fun (x4:Pair) =>
 (idx w2 x4.I).bind fun (x5:List Int) =>
 (idx w2 x4.K).bind fun (x6:List Int) =>
 (idx x5 x4.K).bind fun (x7:Int) =>
 (idx (w2.set x4.I.toNat (x5.set x4.K.toNat x4.Weight)) x4.K).bind fun (x8:List Int) =>
 (idx x8 x4.I).bind fun (x9:Int) =>
 if x4.I < ((x6.length:Nat):Int) then
 some (.next (((w2.set x4.I.toNat (x5.set x4.K.toNat x4.Weight)).set x4.K.toNat (x8.set x4.I.toNat x4.Weight)),(vxs.wrap (t3+1))))
 else none
 else
 some (.done w2)
def qjc (n1:Int) (l2:List Pair):Option (List (List Int)) :=
 if 0≤n1 then
 if qao (n1).toNat 24=true then
 (qae (qg9 n1) ((vux (n1).toNat ([]:List Int)),0)).bind (fun w3 =>
 (qae (qha l2) (w3,0)).bind (fun w4 =>
 some w4))
 else none
 else none
def qd9 (w1:Int) (t2:Bool):Option (Int) :=
 if t2=true then
 some (if 0 > (vxs.wrap (0 - w1)) then 0 else (vxs.wrap (0 - w1)))
 else
 some (if 0 > w1 then 0 else w1)
def qkb:Unit→Option (LS (Unit) (Unit)):=fun () =>
 some (.done ())
def qkc (r1:List (List Int)) (s2:List Int) (t3:Int):(Int×Int)→Option (LS (Int×Int) (Int)):=fun (m4,t5) =>
 if t5 < 1 then
 (idx r1 t5).bind fun (x6:List Int) =>
 (x6[1]?).bind fun (x7:Int) =>
 (idx s2 t5).bind fun (x8:Int) =>
 (qd9 x7 (x8 == t3)).bind fun (r9:Int) =>
 some (.next ((vxs.wrap (m4+r9)),(vxs.wrap (t5+1))))
 else
 some (.done m4)
def qm1 (r1:List (List Int)) (s2:List Int) (t3:Int):(Int×Int)→Option (LS (Int×Int) (Int)):=fun (m4,t5) =>
 if t5 < 2 then
 (idx r1 t5).bind fun (x6:List Int) =>
 (x6[2]?).bind fun (x7:Int) =>
 (idx s2 t5).bind fun (x8:Int) =>
 (qd9 x7 (x8 == t3)).bind fun (r9:Int) =>
 some (.next ((vxs.wrap (m4+r9)),(vxs.wrap (t5+1))))
 else
 some (.done m4)
def qm2 (r1:List (List Int)) (s2:List Int) (t3:Int):(Int×Int)→Option (LS (Int×Int) (Int)):=fun (m4,t5) =>
 if t5 < 3 then
 (idx r1 t5).bind fun (x6:List Int) =>
 (x6[3]?).bind fun (x7:Int) =>
 (idx s2 t5).bind fun (x8:Int) =>
 (qd9 x7 (x8 == t3)).bind fun (r9:Int) =>
 some (.next ((vxs.wrap (m4+r9)),(vxs.wrap (t5+1))))
 else
 some (.done m4)
def qm3 (r1:List (List Int)) (s2:List Int) (t3:Int):(Int×Int)→Option (LS (Int×Int) (Int)):=fun (m4,t5) =>
 if t5 < 4 then
 (idx r1 t5).bind fun (x6:List Int) =>
 (x6[4]?).bind fun (x7:Int) =>
 (idx s2 t5).bind fun (x8:Int) =>
 (qd9 x7 (x8 == t3)).bind fun (r9:Int) =>
 some (.next ((vxs.wrap (m4+r9)),(vxs.wrap (t5+1))))
 else
 some (.done m4)
def qkd (r1:List (List Int)) (s2:List Int) (t3:Int):(Int×Int)→Option (LS (Int×Int) (Int)):=fun (m4,t5) =>
 if t5 < 5 then
 (idx r1 t5).bind fun (x6:List Int) =>
 (x6[5]?).bind fun (x7:Int) =>
 (idx s2 t5).bind fun (x8:Int) =>
 (qd9 x7 (x8 == t3)).bind fun (r9:Int) =>
 some (.next ((vxs.wrap (m4+r9)),(vxs.wrap (t5+1))))
 else
 some (.done m4)
def qm4 (u1:Int):Unit→Option (LS (Unit) (Unit)):=fun () =>
 if (0:Int) < (vxs.wrap (u1+1)) then
 none
 else
 some (.done ())
def qby (r1:List (List Int)) (u2:Int) (c3:Int):(List Int×Bool×Int×List Int×Int×Int)→Option (LS (List Int×Bool×Int×List Int×Int×Int) (List Int×Bool×Int×List Int×Int)):=fun (s4,s5,s6,s7,s8,t9) =>
 if t9 < (vxs.wrap (u2+1)) then
 (qae (qkd r1 s4 t9) (0,0)).bind (fun m10 =>
 (s4[5]?).bind fun (x11:Int) =>
 (some (if (vxs.wrap (t9+1)) > u2 then (vxs.wrap (t9+1)) else u2)).bind fun (u12:Int) =>
 (some (vxs.wrap (c3+m10))).bind fun (c13:Int) =>
 (show Option ((Unit) ⊕ (Unit)) from
 if s5=true then
 if c13≥s8 then
 some (.inr ())
 else
 some (.inl ())
 else
 some (.inl ())).bind (fun o=>match o with
 | .inl () =>
 if (6 == (r1.length:Int))=true then
 if (s4.set 5 t9).length≤1000000000 then
 ((s4.set 5 t9)[0]?).bind fun (x14:Int) =>
 (some ((s4.set 5 t9).drop 1)).bind fun (l15:List Int) =>
 some (.next ((s4.set 5 t9),true,x14,l15,c13,(vxs.wrap (t9+1))))
 else none
 else
 (qae (qm4 u12) ()).bind (fun () =>
 some (.next ((s4.set 5 t9),s5,s6,s7,s8,(vxs.wrap (t9+1)))))
 | .inr () =>
 some (.next ((s4.set 5 t9),s5,s6,s7,s8,(vxs.wrap (t9+1))))))
 else
 some (.done (s4,s5,s6,s7,s8))
def qft (r1:List (List Int)) (u2:Int) (c3:Int):(List Int×Bool×Int×List Int×Int×Int)→Option (LS (List Int×Bool×Int×List Int×Int×Int) (List Int×Bool×Int×List Int×Int)):=fun (s4,s5,s6,s7,s8,t9) =>
 if t9 < (vxs.wrap (u2+1)) then
 (qae (qm3 r1 s4 t9) (0,0)).bind (fun m10 =>
 (s4[4]?).bind fun (x11:Int) =>
 (some (if (vxs.wrap (t9+1)) > u2 then (vxs.wrap (t9+1)) else u2)).bind fun (u12:Int) =>
 (some (vxs.wrap (c3+m10))).bind fun (c13:Int) =>
 (show Option ((Unit) ⊕ (Unit)) from
 if s5=true then
 if c13≥s8 then
 some (.inr ())
 else
 some (.inl ())
 else
 some (.inl ())).bind (fun o=>match o with
 | .inl () =>
 if (5 == (r1.length:Int))=true then
 if (s4.set 4 t9).length≤1000000000 then
 ((s4.set 4 t9)[0]?).bind fun (x14:Int) =>
 (some ((s4.set 4 t9).drop 1)).bind fun (l15:List Int) =>
 some (.next ((s4.set 4 t9),true,x14,l15,c13,(vxs.wrap (t9+1))))
 else none
 else
 (qae (qby r1 u12 c13) ((s4.set 4 t9),s5,s6,s7,s8,0)).bind (fun (b16,b17,b18,b19,b20) =>
 if b16.length=((s4.set 4 t9)).length then
 some (.next (b16,b17,b18,b19,b20,(vxs.wrap (t9+1))))
 else none)
 | .inr () =>
 some (.next ((s4.set 4 t9),s5,s6,s7,s8,(vxs.wrap (t9+1))))))
 else
 some (.done (s4,s5,s6,s7,s8))
def qfu (r1:List (List Int)) (u2:Int) (c3:Int):(List Int×Bool×Int×List Int×Int×Int)→Option (LS (List Int×Bool×Int×List Int×Int×Int) (List Int×Bool×Int×List Int×Int)):=fun (s4,s5,s6,s7,s8,t9) =>
 if t9 < (vxs.wrap (u2+1)) then
 (qae (qm2 r1 s4 t9) (0,0)).bind (fun m10 =>
 (s4[3]?).bind fun (x11:Int) =>
 (some (if (vxs.wrap (t9+1)) > u2 then (vxs.wrap (t9+1)) else u2)).bind fun (u12:Int) =>
 (some (vxs.wrap (c3+m10))).bind fun (c13:Int) =>
 (show Option ((Unit) ⊕ (Unit)) from
 if s5=true then
 if c13≥s8 then
 some (.inr ())
 else
 some (.inl ())
 else
 some (.inl ())).bind (fun o=>match o with
 | .inl () =>
 if (4 == (r1.length:Int))=true then
 if (s4.set 3 t9).length≤1000000000 then
 ((s4.set 3 t9)[0]?).bind fun (x14:Int) =>
 (some ((s4.set 3 t9).drop 1)).bind fun (l15:List Int) =>
 some (.next ((s4.set 3 t9),true,x14,l15,c13,(vxs.wrap (t9+1))))
 else none
 else
 (qae (qft r1 u12 c13) ((s4.set 3 t9),s5,s6,s7,s8,0)).bind (fun (b16,b17,b18,b19,b20) =>
 if b16.length=((s4.set 3 t9)).length then
 some (.next (b16,b17,b18,b19,b20,(vxs.wrap (t9+1))))
 else none)
 | .inr () =>
 some (.next ((s4.set 3 t9),s5,s6,s7,s8,(vxs.wrap (t9+1))))))
 else
 some (.done (s4,s5,s6,s7,s8))
def qfv (r1:List (List Int)) (u2:Int) (c3:Int):(List Int×Bool×Int×List Int×Int×Int)→Option (LS (List Int×Bool×Int×List Int×Int×Int) (List Int×Bool×Int×List Int×Int)):=fun (s4,s5,s6,s7,s8,t9) =>
 if t9 < (vxs.wrap (u2+1)) then
 (qae (qm1 r1 s4 t9) (0,0)).bind (fun m10 =>
 (s4[2]?).bind fun (x11:Int) =>
 (some (if (vxs.wrap (t9+1)) > u2 then (vxs.wrap (t9+1)) else u2)).bind fun (u12:Int) =>
 (some (vxs.wrap (c3+m10))).bind fun (c13:Int) =>
 (show Option ((Unit) ⊕ (Unit)) from
 if s5=true then
 if c13≥s8 then
 some (.inr ())
 else
 some (.inl ())
 else
 some (.inl ())).bind (fun o=>match o with
 | .inl () =>
 if (3 == (r1.length:Int))=true then
 if (s4.set 2 t9).length≤1000000000 then
 ((s4.set 2 t9)[0]?).bind fun (x14:Int) =>
 (some ((s4.set 2 t9).drop 1)).bind fun (l15:List Int) =>
 some (.next ((s4.set 2 t9),true,x14,l15,c13,(vxs.wrap (t9+1))))
 else none
 else
 (qae (qfu r1 u12 c13) ((s4.set 2 t9),s5,s6,s7,s8,0)).bind (fun (b16,b17,b18,b19,b20) =>
 if b16.length=((s4.set 2 t9)).length then
 some (.next (b16,b17,b18,b19,b20,(vxs.wrap (t9+1))))
 else none)
 | .inr () =>
 some (.next ((s4.set 2 t9),s5,s6,s7,s8,(vxs.wrap (t9+1))))))
 else
 some (.done (s4,s5,s6,s7,s8))
def qa7 (r1:List (List Int)) (u2:Int):(List Int×Bool×Int×List Int×Int×Int)→Option (LS (List Int×Bool×Int×List Int×Int×Int) (List Int×Bool×Int×List Int×Int)):=fun (s3,s4,s5,s6,s7,t8) =>
 if t8 < (vxs.wrap (u2+1)) then
 (qae (qkc r1 s3 t8) (0,0)).bind (fun m9 =>
 (s3[1]?).bind fun (x10:Int) =>
 (some (if (vxs.wrap (t8+1)) > u2 then (vxs.wrap (t8+1)) else u2)).bind fun (u11:Int) =>
 (some (vxs.wrap (0+m9))).bind fun (c12:Int) =>
 (show Option ((Unit) ⊕ (Unit)) from
 if s4=true then
 if c12≥s7 then
 some (.inr ())
 else
 some (.inl ())
 else
 some (.inl ())).bind (fun o=>match o with
 | .inl () =>
 if (2 == (r1.length:Int))=true then
 if (s3.set 1 t8).length≤1000000000 then
 ((s3.set 1 t8)[0]?).bind fun (x13:Int) =>
 (some ((s3.set 1 t8).drop 1)).bind fun (l14:List Int) =>
 some (.next ((s3.set 1 t8),true,x13,l14,c12,(vxs.wrap (t8+1))))
 else none
 else
 (qae (qfv r1 u11 c12) ((s3.set 1 t8),s4,s5,s6,s7,0)).bind (fun (b15,b16,b17,b18,b19) =>
 if b15.length=((s3.set 1 t8)).length then
 some (.next (b15,b16,b17,b18,b19,(vxs.wrap (t8+1))))
 else none)
 | .inr () =>
 some (.next ((s3.set 1 t8),s4,s5,s6,s7,(vxs.wrap (t8+1))))))
 else
 some (.done (s3,s4,s5,s6,s7))
def qbn (r1:List (List Int)):(List Int×Bool×Int×List Int×Int×Int)→Option (LS (List Int×Bool×Int×List Int×Int×Int) (List Int×Bool×Int×List Int×Int)):=fun (s2,s3,s4,s5,s6,t7) =>
 if t7 < 1 then
 (qae qkb ()).bind (fun () =>
 (s2[0]?).bind fun (x8:Int) =>
 (some (if (vxs.wrap (t7+1)) > 0 then (vxs.wrap (t7+1)) else 0)).bind fun (u9:Int) =>
 (show Option ((Unit) ⊕ (Unit)) from
 if s3=true then
 if (0:Int)≥s6 then
 some (.inr ())
 else
 some (.inl ())
 else
 some (.inl ())).bind (fun o=>match o with
 | .inl () =>
 if (1 == (r1.length:Int))=true then
 if (s2.set 0 t7).length≤1000000000 then
 ((s2.set 0 t7)[0]?).bind fun (x10:Int) =>
 (some ((s2.set 0 t7).drop 1)).bind fun (l11:List Int) =>
 some (.next ((s2.set 0 t7),true,x10,l11,0,(vxs.wrap (t7+1))))
 else none
 else
 (qae (qa7 r1 u9) ((s2.set 0 t7),s3,s4,s5,s6,0)).bind (fun (b12,b13,b14,b15,b16) =>
 if b12.length=((s2.set 0 t7)).length then
 some (.next (b12,b13,b14,b15,b16,(vxs.wrap (t7+1))))
 else none)
 | .inr () =>
 some (.next ((s2.set 0 t7),s3,s4,s5,s6,(vxs.wrap (t7+1))))))
 else
 some (.done (s2,s3,s4,s5,s6))
def qhb (n1:Int) (l2:List Pair):Option (List Int×Int×Int) :=
 (qix n1 l2).bind fun (r3:Int) =>
 if (r3 != 0)=true then
 some ([],0,r3)
 else
 if n1 > 10 then
 some ([],0,3)
 else
 (qjc n1 l2).bind fun (r4:List (List Int)) =>
 if 0≤n1 then
 if qao (n1).toNat 8=true then
 (show Option (List Int×Bool×Int×List Int×Int) from
 (some ((vux (n1).toNat 0):List Int)).bind fun (l5:List Int) =>
 if (0 == (r4.length:Int))=true then
 if l5.length≤1000000000 then
 (l5[0]?).bind fun (x6:Int) =>
 (some (l5.drop 1)).bind fun (l7:List Int) =>
 some (l5,true,x6,l7,0)
 else none
 else
 (qae (qbn r4) (l5,false,0,[],0,0)).bind (fun (b8,b9,b10,b11,b12) =>
 if b8.length=l5.length then
 some (b8,b9,b10,b11,b12)
 else none)).bind (fun (s13,s14,s15,s16,s17) =>
 if s14=true then
 some ((s15 :: s16),s17,0)
 else
 some ([],s17,0))
 else none
 else none
def qow (n1:Int) (l2:List Pair):Option (List Int×Int) :=
 (qix n1 l2).bind fun (r3:Int) =>
 if (r3 != 0)=true then
 some ([],r3)
 else
 none
def qfc (l1:List Int):((List (Int×Int))×List Int×Int)→Option (LS ((List (Int×Int))×List Int×Int) (List Int)):=fun (n2,o3,t4) =>
 if t4 < (l1.length:Int) then
 (idx l1 t4).bind fun (x5:Int) =>
 if (qpx n2 x5).isSome=true then
 (idx o3 t4).bind fun (x6:Int) =>
 some (.next (n2,(o3.set t4.toNat ((qpx n2 x5).getD 0)),(vxs.wrap (t4+1))))
 else
 (idx o3 t4).bind fun (x7:Int) =>
 some (.next ((qvz n2 x5 (n2.length:Int)),(o3.set t4.toNat (n2.length:Int)),(vxs.wrap (t4+1))))
 else
 some (.done o3)
def qh9 (l1:List Int):Option (List Int) :=
 if 0≤(l1.length:Int) then
 if qao l1.length 8=true then
 (qae (qfc l1) ([],(vux l1.length 0),0)).bind (fun o2 =>
 some o2)
 else none
 else none
def qfd (c1:List Int) (m2:List (Arr2_int×Bool)) (t3:Int):(List Pair×Int)→Option (LS (List Pair×Int) (List Pair)):=fun (p4,k5) =>
 if k5 < (c1.length:Int) then
 (idx c1 t3).bind fun (x6:Int) =>
 (idx c1 k5).bind fun (x7:Int) =>
 if ((qpx m2 (Arr2_int.mk x6 x7)).getD false)=true then
 if qao (p4.length+1) 24=true then
 some (.next ((p4++[(Pair.mk t3 k5 1)]),(vxs.wrap (k5+1))))
 else none
 else
 if qao (p4.length+1) 24=true then
 some (.next ((p4++[(Pair.mk t3 k5 (-1))]),(vxs.wrap (k5+1))))
 else none
 else
 some (.done p4)
def qfe (c1:List Int) (m2:List (Arr2_int×Bool)):(List Pair×Int)→Option (LS (List Pair×Int) (List Pair)):=fun (p3,t4) =>
 if t4 < (c1.length:Int) then
 (qae (qfd c1 m2 t4) (p3,(vxs.wrap (t4+1)))).bind (fun p5 =>
 some (.next (p5,(vxs.wrap (t4+1)))))
 else
 some (.done p3)
def qks (r1:List Int):(List (List Int)×Int)→Option (LS (List (List Int)×Int) (List (List Int))):=fun (o2,t3) =>
 if t3 < (r1.length:Int) then
 (idx r1 t3).bind fun (x4:Int) =>
 if (x4 == ((o2.length:Nat):Int))=true then
 if qao (o2.length+1) 24=true then
 (idx (o2++[[]]) x4).bind fun (x5:List Int) =>
 if qao (x5.length+1) 8=true then
 some (.next (((o2++[[]]).set x4.toNat (x5++[t3])),(vxs.wrap (t3+1))))
 else none
 else none
 else
 (idx o2 x4).bind fun (x6:List Int) =>
 if qao (x6.length+1) 8=true then
 some (.next ((o2.set x4.toNat (x6++[t3])),(vxs.wrap (t3+1))))
 else none
 else
 some (.done o2)
def qhc (c1:List Int) (t2:Int) (x3:List Int):(List (List Int)×Int)→Option (LS (List (List Int)×Int) (List (List Int))):=fun (g4,t5) =>
 if t5 < ((x3.length:Nat):Int) then
 (idx g4 t2).bind fun (x6:List Int) =>
 (idx x6 t5).bind fun (x7:Int) =>
 if t5 < ((x3.length:Nat):Int) then
 (idx c1 x7).bind fun (x8:Int) =>
 some (.next ((g4.set t2.toNat (x6.set t5.toNat x8)),(vxs.wrap (t5+1))))
 else none
 else
 some (.done g4)
def qej (c1:List Int) (o2:List (List Int)):(List (List Int)×Int)→Option (LS (List (List Int)×Int) (List (List Int))):=fun (g3,t4) =>
 if t4 < ((o2.length:Nat):Int) then
 (idx g3 t4).bind fun (x5:List Int) =>
 (qae (qhc c1 t4 x5) (g3,0)).bind (fun g6 =>
 some (.next (g6,(vxs.wrap (t4+1)))))
 else
 some (.done g3)
def qm5 (r1:List Int):(List (List Int)×Int)→Option (LS (List (List Int)×Int) (List (List Int))):=fun (o2,t3) =>
 if t3 < (r1.length:Int) then
 (idx r1 t3).bind fun (x4:Int) =>
 if (x4 == ((o2.length:Nat):Int))=true then
 if qao (o2.length+1) 24=true then
 (idx (o2++[[]]) x4).bind fun (x5:List Int) =>
 if qao (x5.length+1) 8=true then
 some (.next (((o2++[[]]).set x4.toNat (x5++[t3])),(vxs.wrap (t3+1))))
 else none
 else none
 else
 (idx o2 x4).bind fun (x6:List Int) =>
 if qao (x6.length+1) 8=true then
 some (.next ((o2.set x4.toNat (x6++[t3])),(vxs.wrap (t3+1))))
 else none
 else
 some (.done o2)
def qm6 (c1:List Int) (t2:Int) (x3:List Int):(List (List Int)×Int)→Option (LS (List (List Int)×Int) (List (List Int))):=fun (g4,t5) =>
 if t5 < ((x3.length:Nat):Int) then
 (idx g4 t2).bind fun (x6:List Int) =>
 (idx x6 t5).bind fun (x7:Int) =>
 if t5 < ((x3.length:Nat):Int) then
 (idx c1 x7).bind fun (x8:Int) =>
 some (.next ((g4.set t2.toNat (x6.set t5.toNat x8)),(vxs.wrap (t5+1))))
 else none
 else
 some (.done g4)
def qm7 (c1:List Int) (o2:List (List Int)):(List (List Int)×Int)→Option (LS (List (List Int)×Int) (List (List Int))):=fun (g3,t4) =>
 if t4 < ((o2.length:Nat):Int) then
 (idx g3 t4).bind fun (x5:List Int) =>
 (qae (qm6 c1 t4 x5) (g3,0)).bind (fun g6 =>
 some (.next (g6,(vxs.wrap (t4+1)))))
 else
 some (.done g3)
def qjd (c1:List Int) (m2:List (Arr2_int×Bool)):Option (List (List Int)×Int) :=
 (qae (qfe c1 m2) ([],0)).bind (fun p3 =>
 if (c1.length:Int)≤10 then
 (qhb (c1.length:Int) p3).bind fun (r4:List Int×Int×Int) =>
 if (r4.2.2 != 0)=true then
 some ([],r4.2.2)
 else
 (qh9 r4.1).bind fun (r5:List Int) =>
 (qae (qks r5) ([],0)).bind (fun o6 =>
 (qae (qej c1 o6) (o6,0)).bind (fun g7 =>
 some (g7,0)))
 else
 (qow (c1.length:Int) p3).bind fun (r8:List Int×Int) =>
 if (r8.2 != 0)=true then
 some ([],r8.2)
 else
 (qh9 r8.1).bind fun (r9:List Int) =>
 (qae (qm5 r9) ([],0)).bind (fun o10 =>
 (qae (qm7 c1 o10) (o10,0)).bind (fun g11 =>
 some (g11,0))))
def qih (x1:Int):Option (Bool) :=
 some (x1 != x1)
def qhd (x1:Int) (y2:Int):Option (Int) :=
 (qih x1).bind fun (r3:Bool) =>
 (qih y2).bind fun (r4:Bool) =>
 if r3=true then
 if r4=true then
 some 0
 else
 some (-1)
 else
 if r4=true then
 some 1
 else
 if x1 < y2 then
 some (-1)
 else
 if x1 > y2 then
 some 1
 else
 some 0
def qa5 (s1:List Int) (s2:List Int):Int→Option (LS (Int) ((Unit) ⊕ (Int))):=fun t3 =>
 if t3 < (s1.length:Int) then
 (idx s1 t3).bind fun (x4:Int) =>
 if t3≥(s2.length:Int) then
 some (.done (.inr 1))
 else
 (idx s2 t3).bind fun (x5:Int) =>
 (qhd x4 x5).bind fun (r6:Int) =>
 if (r6 != 0)=true then
 some (.done (.inr r6))
 else
 some (.next (vxs.wrap (t3+1)))
 else
 some (.done (.inl ()))
def qak (s1:List Int) (s2:List Int):Option (Int) :=
 (qae (qa5 s1 s2) 0).bind (fun o=>match o with
 | .inl () =>
 if (s1.length:Int) < (s2.length:Int) then
 some (-1)
 else
 some 0
 | .inr r3 =>
 some r3)
def qdy (r1:List Arr2_int):((List (Arr2_int×Bool))×Int)→Option (LS ((List (Arr2_int×Bool))×Int) ((List (Arr2_int×Bool)))):=fun (m2,t3) =>
 if t3 < (r1.length:Int) then
 (idx r1 t3).bind fun (x4:Arr2_int) =>
 (some x4.x0).bind fun (k5:Int) =>
 (some x4.x1).bind fun (k6:Int) =>
 some (.next ((qvz m2 (Arr2_int.mk k5 k6) true),(vxs.wrap (t3+1))))
 else
 some (.done m2)
def qdg (t1:Table) (x2:List Int):(List Int×Int)→Option (LS (List Int×Int) (List Int)):=fun (i3,t4) =>
 if t4 < (x2.length:Int) then
 (idx x2 t4).bind fun (x5:Int) =>
 (idx t1.Rows x5).bind fun (x6:Row) =>
 if qao (i3.length+1) 8=true then
 some (.next ((i3++[x6.ID]),(vxs.wrap (t4+1))))
 else none
 else
 some (.done i3)
def qdh (t1:Table) (r2:List (List Int)×Int):(List (List Int)×Int)→Option (LS (List (List Int)×Int) (List (List Int))):=fun (o3,t4) =>
 if t4 < (r2.1.length:Int) then
 (idx r2.1 t4).bind fun (x5:List Int) =>
 (qae (qdg t1 x5) ([],0)).bind (fun i6 =>
 if qao (o3.length+1) 24=true then
 some (.next ((o3++[i6]),(vxs.wrap (t4+1))))
 else none)
 else
 some (.done o3)
def qe4 (t1:Table) (m2:List (Arr2_int×Bool)) (r3:List (List Int)×Int):(List (List Int)×Int)→Option (LS (List (List Int)×Int) ((List (List Int)) ⊕ (List (List Int)×Int))):=fun (o4,t5) =>
 if t5 < (r3.1.length:Int) then
 (idx r3.1 t5).bind fun (x6:List Int) =>
 (qjd x6 m2).bind fun (r7:List (List Int)×Int) =>
 if (r7.2 != 0)=true then
 some (.done (.inr ([],r7.2)))
 else
 (qae (qdh t1 r7) (o4,0)).bind (fun o8 =>
 some (.next (o8,(vxs.wrap (t5+1)))))
 else
 some (.done (.inl o4))
def qf9 (t1:Table) (l2:Linkage):Option (List (List Int)×Int) :=
 (qh6 t1 l2).bind fun (r3:Int) =>
 if (r3 != 0)=true then
 some ([],r3)
 else
 (qfq t1 l2).bind fun (r4:List Arr2_int) =>
 (qae (qdy r4) ([],0)).bind (fun m5 =>
 (qf8 (t1.Rows.length:Int) r4).bind fun (r6:List (List Int)×Int) =>
 if (r6.2 != 0)=true then
 some ([],r6.2)
 else
 (qae (qe4 t1 m5 r6) ([],0)).bind (fun o=>match o with
 | .inl o7 =>
 (vho (fun (y8:List Int) (y9:List Int)=>qak y8 y9) o7).bind fun (l10:List (List Int)) =>
 some (l10,0)
 | .inr r11 =>
 some r11))
def qff (a1:List Int) (b2:List Int):Int→Option (LS (Int) ((Unit) ⊕ (Bool))):=fun i3 =>
 if i3 < (a1.length:Int) then
 (idx a1 i3).bind fun (x4:Int) =>
 (idx b2 i3).bind fun (x5:Int) =>
 if (x4 != x5)=true then
 some (.done (.inr false))
 else
 some (.next (vxs.wrap (i3+1)))
 else
 some (.done (.inl ()))
def qje (a1:List Int) (b2:List Int):Option (Bool) :=
 if ((a1.length:Int) != (b2.length:Int))=true then
 some false
 else
 (qae (qff a1 b2) 0).bind (fun o=>match o with
 | .inl () =>
 some true
 | .inr r3 =>
 some r3)
def qhp (a1:List (List Int)) (b2:List (List Int)):Int→Option (LS (Int) ((Unit) ⊕ (Bool))):=fun i3 =>
 if i3 < (a1.length:Int) then
 (idx a1 i3).bind fun (x4:List Int) =>
 (idx b2 i3).bind fun (x5:List Int) =>
 (qje x4 x5).bind fun (r6:Bool) =>
 if r6=true then
 some (.next (vxs.wrap (i3+1)))
 else
 some (.done (.inr false))
 else
 some (.done (.inl ()))
def qev (a1:List (List Int)) (b2:List (List Int)):Option (Bool) :=
 if ((a1.length:Int) != (b2.length:Int))=true then
 some false
 else
 (qae (qhp a1 b2) 0).bind (fun o=>match o with
 | .inl () =>
 some true
 | .inr r3 =>
 some r3)
def qdz (t1:Int) (x2:List Int):((List (Int×Int))×Int×Int)→Option (LS ((List (Int×Int))×Int×Int) (((List (Int×Int))) ⊕ ((List (Int×Int))×Int×Bool))):=fun (o3,b4,t5) =>
 if t5 < (x2.length:Int) then
 (idx x2 t5).bind fun (x6:Int) =>
 if (qpx o3 x6).isSome=true then
 some (.done (.inr ([],0,false)))
 else
 if x6≤b4 then
 some (.done (.inr ([],0,false)))
 else
 some (.next ((qvz o3 x6 t1),x6,(vxs.wrap (t5+1))))
 else
 some (.done (.inl o3))
def qbj (d1:List (List Int)):((List (Int×Int))×Int×Int)→Option (LS ((List (Int×Int))×Int×Int) (((List (Int×Int))×Int) ⊕ ((List (Int×Int))×Int×Bool))):=fun (o2,p3,t4) =>
 if t4 < (d1.length:Int) then
 (idx d1 t4).bind fun (x5:List Int) =>
 if ((x5.length:Int) == 0)=true then
 some (.done (.inr ([],0,false)))
 else
 (qae (qdz t4 x5) (o2,0,0)).bind (fun o=>match o with
 | .inl o6 =>
 some (.next (o6,(vxs.wrap (p3+(vxs.wrap (vxp (vxs.wrap ((x5.length:Int) * (vxs.wrap ((x5.length:Int) - 1)))) 2)))),(vxs.wrap (t4+1))))
 | .inr r7 =>
 some (.done (.inr r7)))
 else
 some (.done (.inl (o2,p3)))
def qe8 (d1:List (List Int)):Option ((List (Int×Int))×Int×Bool) :=
 (qae (qbj d1) ([],0,0)).bind (fun o=>match o with
 | .inl (o2,p3) =>
 some (o2,p3,(decide ((o2.length:Int)≤1000)))
 | .inr r4 =>
 some r4)
def qch (r1:(List (Int×Int))×Int×Bool) (x2:List Int):(Int×(List (Int×Int))×Int)→Option (LS (Int×(List (Int×Int))×Int) (Int)):=fun (b3,c4,t5) =>
 if t5 < (x2.length:Int) then
 (idx x2 t5).bind fun (x6:Int) =>
 if (qpx r1.1 x6).isSome=true then
 some (.next ((vxs.wrap (b3+((qpx c4 ((qpx r1.1 x6).getD 0)).getD 0))),(qvz c4 ((qpx r1.1 x6).getD 0) (vxs.wrap (((qpx c4 ((qpx r1.1 x6).getD 0)).getD 0)+1))),(vxs.wrap (t5+1))))
 else
 some (.next (b3,c4,(vxs.wrap (t5+1))))
 else
 some (.done b3)
def qax (f1:List (List Int)) (r2:(List (Int×Int))×Int×Bool):(Int×Int)→Option (LS (Int×Int) (Int)):=fun (b3,t4) =>
 if t4 < (f1.length:Int) then
 (idx f1 t4).bind fun (x5:List Int) =>
 (qae (qch r2 x5) (b3,[],0)).bind (fun b6 =>
 some (.next (b6,(vxs.wrap (t4+1)))))
 else
 some (.done b3)
def qc1 (f1:List (List Int)) (t2:List (List Int)):Option (Ratio×Int) :=
 (qe8 f1).bind fun (r3:(List (Int×Int))×Int×Bool) =>
 (qe8 t2).bind fun (r4:(List (Int×Int))×Int×Bool) =>
 if r3.2.2=true then
 if r4.2.2=true then
 if (r3.2.1 == 0)=true then
 some ((Ratio.mk 1 1),0)
 else
 (qae (qax f1 r4) (0,0)).bind (fun b5 =>
 (qj0 b5 r3.2.1).bind fun (r6:Ratio×Int) =>
 some (r6.1,r6.2))
 else
 some ((Ratio.mk 0 0),1)
 else
 some ((Ratio.mk 0 0),1)
def qjf (f1:List (List Int)) (t2:List (List Int)):Option (Ratio×Int) :=
 (qc1 t2 f1).bind fun (r3:Ratio×Int) =>
 some (r3.1,r3.2)
def qii (l1:List (List UInt8)):(List Row×Int)→Option (LS (List Row×Int) (List Row)):=fun (t2,t3) =>
 if t3 < 4 then
 (idx l1 t3).bind fun (x4:List UInt8) =>
 if qao (t2.length+1) 32=true then
 some (.next ((t2++[(Row.mk (vxs.wrap (t3+1)) [(Value.mk 2 0 x4)])]),(vxs.wrap (t3+1))))
 else none
 else
 some (.done t2)
def qgo:Option (Table×Linkage) :=
 (some ([[97,110,110],[97,110,110,101],[97,110,110,101,115],[98,111,98]]:List (List UInt8))).bind fun (l1:List (List UInt8)) =>
 (qae (qii l1) ([],0)).bind (fun t2 =>
 some ((Table.mk [112] [[110,97,109,101]] t2),(Linkage.mk [[(Similar.mk 0 2 1)]] [] [3])))
def qhe (a1:Drossref04_Wide):Option (Bool) :=
 if (a1.Hi == 0)=true then
 some (a1.Lo == 0)
 else
 some false
def qcv (a1:Drossref04_Wide) (b2:Drossref04_Wide):Option (Bool) :=
 if a1.Hi < b2.Hi then
 some true
 else
 if (a1.Hi == b2.Hi)=true then
 some (decide (a1.Lo < b2.Lo))
 else
 some false
def qc9 (a1:Drossref04_Wide) (b2:Drossref04_Wide):Option (Drossref04_Wide) :=
 (vmg a1.Lo b2.Lo 0).bind fun (r3:Int×Int) =>
 (vmg a1.Hi b2.Hi r3.2).bind fun (r4:Int×Int) =>
 some (Drossref04_Wide.mk r4.1 r3.1)
def qga (a1:Drossref04_Wide) (b2:Drossref04_Wide):Option (Drossref04_Wide) :=
 (subF a1.Lo b2.Lo 0).bind fun (r3:Int×Int) =>
 (subF a1.Hi b2.Hi r3.2).bind fun (r4:Int×Int) =>
 some (Drossref04_Wide.mk r4.1 r3.1)
def qbo (a1:Drossref04_Wide) (b2:Drossref04_Wide):(Drossref04_Wide×Drossref04_Wide×Int)→Option (LS (Drossref04_Wide×Drossref04_Wide×Int) (Drossref04_Wide×Drossref04_Wide)):=fun (q3,r4,i5) =>
 if i5≥0 then
 if i5≥64 then
 (qc9 r4 r4).bind fun (r6:Drossref04_Wide) =>
 if (vxq i5 64) < 0 then none else
 (qc9 q3 q3).bind fun (r7:Drossref04_Wide) =>
 (qcv (Drossref04_Wide.mk r6.Hi (vxu.wrap (r6.Lo+(vxq (vxl a1.Hi (2 ^ (min ((vxq i5 64)).toNat 64))) 2)))) b2).bind fun (r8:Bool) =>
 if r8=true then
 some (.next (r7,(Drossref04_Wide.mk r6.Hi (vxu.wrap (r6.Lo+(vxq (vxl a1.Hi (2 ^ (min ((vxq i5 64)).toNat 64))) 2)))),(vxs.wrap (i5 - 1))))
 else
 (qga (Drossref04_Wide.mk r6.Hi (vxu.wrap (r6.Lo+(vxq (vxl a1.Hi (2 ^ (min ((vxq i5 64)).toNat 64))) 2)))) b2).bind fun (r9:Drossref04_Wide) =>
 some (.next ((Drossref04_Wide.mk r7.Hi (vxu.wrap (r7.Lo+1))),r9,(vxs.wrap (i5 - 1))))
 else
 (qc9 r4 r4).bind fun (r10:Drossref04_Wide) =>
 if (vxq i5 64) < 0 then none else
 (qc9 q3 q3).bind fun (r11:Drossref04_Wide) =>
 (qcv (Drossref04_Wide.mk r10.Hi (vxu.wrap (r10.Lo+(vxq (vxl a1.Lo (2 ^ (min ((vxq i5 64)).toNat 64))) 2)))) b2).bind fun (r12:Bool) =>
 if r12=true then
 some (.next (r11,(Drossref04_Wide.mk r10.Hi (vxu.wrap (r10.Lo+(vxq (vxl a1.Lo (2 ^ (min ((vxq i5 64)).toNat 64))) 2)))),(vxs.wrap (i5 - 1))))
 else
 (qga (Drossref04_Wide.mk r10.Hi (vxu.wrap (r10.Lo+(vxq (vxl a1.Lo (2 ^ (min ((vxq i5 64)).toNat 64))) 2)))) b2).bind fun (r13:Drossref04_Wide) =>
 some (.next ((Drossref04_Wide.mk r11.Hi (vxu.wrap (r11.Lo+1))),r13,(vxs.wrap (i5 - 1))))
 else
 some (.done (q3,r4))
def qew (a1:Drossref04_Wide) (b2:Drossref04_Wide):Option (Drossref04_Wide×Drossref04_Wide) :=
 (qae (qbo a1 b2) ((Drossref04_Wide.mk 0 0),(Drossref04_Wide.mk 0 0),127)).bind (fun (q3,r4) =>
 some (q3,r4))
def qfw:(Drossref04_Wide×Drossref04_Wide)→Option (LS (Drossref04_Wide×Drossref04_Wide) (Drossref04_Wide)):=fun (x1,y2) =>
 (qhe y2).bind fun (r3:Bool) =>
 if r3=true then
 some (.done x1)
 else
 (qew x1 y2).bind fun (r4:Drossref04_Wide×Drossref04_Wide) =>
 some (.next (y2,r4.2))
def qjl (n1:Bool) (n2:Drossref04_Wide) (d3:Drossref04_Wide):Option (Ratio×Int) :=
 (qae qfw (n2,d3)).bind (fun x4 =>
 (qew n2 x4).bind fun (r5:Drossref04_Wide×Drossref04_Wide) =>
 (qew d3 x4).bind fun (r6:Drossref04_Wide×Drossref04_Wide) =>
 (qcv (Drossref04_Wide.mk 0 9223372036854775807) r5.1).bind fun (r7:Bool) =>
 if r7=true then
 some ((Ratio.mk 0 0),7)
 else
 (qcv (Drossref04_Wide.mk 0 9223372036854775807) r6.1).bind fun (r8:Bool) =>
 if r8=true then
 some ((Ratio.mk 0 0),7)
 else
 if n1=true then
 some ((Ratio.mk (vxs.wrap (0 - (vxs.wrap r5.1.Lo))) (vxs.wrap r6.1.Lo)),0)
 else
 some ((Ratio.mk (vxs.wrap r5.1.Lo) (vxs.wrap r6.1.Lo)),0))
def qhf (n1:Int):Option (Drossref04_Wide) :=
 if n1 < 0 then
 some (Drossref04_Wide.mk 0 (vxu.wrap (0 - (vxu.wrap n1))))
 else
 some (Drossref04_Wide.mk 0 (vxu.wrap n1))
def qij (n1:Int) (d2:Int):Option (Ratio×Int) :=
 if (d2 == 0)=true then
 some ((Ratio.mk 0 0),8)
 else
 (qhf n1).bind fun (r3:Drossref04_Wide) =>
 (qhf d2).bind fun (r4:Drossref04_Wide) =>
 (qjl (!((decide (n1 < 0)) == (decide (d2 < 0)))) r3 r4).bind fun (r5:Ratio×Int) =>
 some (r5.1,r5.2)
def qea (n1:Int) (d2:Int):Option (Ratio) :=
 (qij n1 d2).bind fun (r3:Ratio×Int) =>
 if (r3.2 != 0)=true then
 some (Ratio.mk 0 1)
 else
 some r3.1
def qgb:Option (Bool) :=
 (qgo ).bind fun (r1:Table×Linkage) =>
 (qig r1.1 r1.2).bind fun (r2:List Arr2_int64×Int) =>
 (qf9 r1.1 r1.2).bind fun (r3:List (List Int)×Int) =>
 (qc1 r3.1 [[1,2],[3],[4]]).bind fun (r4:Ratio×Int) =>
 (qjf r3.1 [[1,2],[3],[4]]).bind fun (r5:Ratio×Int) =>
 if (r2.2 == 0)=true then
 (qdf r2.1 [(Arr2_int64.mk 1 2),(Arr2_int64.mk 2 3)]).bind fun (r6:Bool) =>
 if r6=true then
 if (r3.2 == 0)=true then
 (qev r3.1 [[1,2,3],[4]]).bind fun (r7:Bool) =>
 if r7=true then
 if (r4.2 == 0)=true then
 (qea 1 3).bind fun (r8:Ratio) =>
 if ((r4.1.Num == r8.Num) && (r4.1.Den == r8.Den))=true then
 if (r5.2 == 0)=true then
 (qea 1 1).bind fun (r9:Ratio) =>
 some ((r5.1.Num == r9.Num) && (r5.1.Den == r9.Den))
 else
 some false
 else
 some false
 else
 some false
 else
 some false
 else
 some false
 else
 some false
 else
 some false
def qgc (v1:Value):Option (Bool) :=
 if (v1.Kind == 0)=true then
 if (v1.Num == 0)=true then
 some (v1.Str == [])
 else
 some false
 else
 if (v1.Kind == 1)=true then
 some (v1.Str == [])
 else
 if (v1.Kind == 2)=true then
 if (v1.Num == 0)=true then
 some (decide ((v1.Str.length:Int)≤200))
 else
 some false
 else
 if (v1.Kind == 3)=true then
 if v1.Num≥1 then
 some (v1.Str == [])
 else
 some false
 else
 some false
def qjm (c1:Similar):Option (Bool) :=
 if (c1.Measure == 1)=true then
 some (c1.Limit == 0)
 else
 if (c1.Measure == 2)=true then
 if c1.Limit≥0 then
 some (decide (c1.Limit≤200))
 else
 some false
 else
 if (c1.Measure == 4)=true then
 if c1.Limit≥0 then
 some (decide (c1.Limit≤200))
 else
 some false
 else
 if (c1.Measure == 3)=true then
 if c1.Limit≥0 then
 some (decide (c1.Limit≤100))
 else
 some false
 else
 some false
def qdm (x1:Row) (y2:Row) (c3:Similar):Option (Int) :=
 if c3.Attr < 0 then
 some 6
 else
 if c3.Attr≥(x1.Values.length:Int) then
 some 6
 else
 if c3.Attr≥(y2.Values.length:Int) then
 some 6
 else
 (idx x1.Values c3.Attr).bind fun (x4:Value) =>
 (qgc x4).bind fun (r5:Bool) =>
 if r5=true then
 (idx y2.Values c3.Attr).bind fun (x6:Value) =>
 (qgc x6).bind fun (r7:Bool) =>
 if r7=true then
 (qjm c3).bind fun (r8:Bool) =>
 if r8=true then
 some 0
 else
 some 1
 else
 some 1
 else
 some 1
def qgd (n1:Int) (d2:Drossref56_Draft) (i3:Int):(List Similar×Int)→Option (LS (List Similar×Int) (List Similar)):=fun (r4,k5) =>
 (idx d2.Rules i3).bind fun (x6:List Drossref56_Test) =>
 if k5 < (x6.length:Int) then
 (idx x6 k5).bind fun (x7:Drossref56_Test) =>
 if n1=0 then none else
 if ((vxs.wrap (1+(vxs.wrap (vxq x7.Measure 4)))) == 1)=true then
 if ((vxs.wrap (1+(vxs.wrap (vxq x7.Measure 4)))) == 3)=true then
 if qao (r4.length+1) 24=true then
 some (.next ((r4++[(Similar.mk (vxq (vxs.wrap x7.Attr) n1) (vxs.wrap (1+(vxs.wrap (vxq x7.Measure 4)))) (vxs.wrap (vxq x7.Limit 101)))]),(vxs.wrap (k5+1))))
 else none
 else
 if qao (r4.length+1) 24=true then
 some (.next ((r4++[(Similar.mk (vxq (vxs.wrap x7.Attr) n1) (vxs.wrap (1+(vxs.wrap (vxq x7.Measure 4)))) 0)]),(vxs.wrap (k5+1))))
 else none
 else
 if ((vxs.wrap (1+(vxs.wrap (vxq x7.Measure 4)))) == 3)=true then
 if qao (r4.length+1) 24=true then
 some (.next ((r4++[(Similar.mk (vxq (vxs.wrap x7.Attr) n1) (vxs.wrap (1+(vxs.wrap (vxq x7.Measure 4)))) (vxs.wrap (vxq x7.Limit 101)))]),(vxs.wrap (k5+1))))
 else none
 else
 if qao (r4.length+1) 24=true then
 some (.next ((r4++[(Similar.mk (vxq (vxs.wrap x7.Attr) n1) (vxs.wrap (1+(vxs.wrap (vxq x7.Measure 4)))) (vxs.wrap (vxq x7.Limit 4)))]),(vxs.wrap (k5+1))))
 else none
 else
 some (.done r4)
def qdn (n1:Int) (d2:Drossref56_Draft):(List (List Similar)×Int)→Option (LS (List (List Similar)×Int) ((List (List Similar)) ⊕ (Linkage×Bool))):=fun (l3,i4) =>
 if i4 < (d2.Rules.length:Int) then
 (idx d2.Rules i4).bind fun (x5:List Drossref56_Test) =>
 if (x5.length:Int) < 1 then
 some (.done (.inr ((Linkage.mk [] [] []),false)))
 else
 if (x5.length:Int) > 3 then
 some (.done (.inr ((Linkage.mk [] [] []),false)))
 else
 (qae (qgd n1 d2 i4) ([],0)).bind (fun r6 =>
 if qao (l3.length+1) 24=true then
 some (.next ((l3++[r6]),(vxs.wrap (i4+1))))
 else none)
 else
 some (.done (.inl l3))
def qbs (n1:Int) (d2:Drossref56_Draft):(List Int×List Int×Int)→Option (LS (List Int×List Int×Int) (List Int×List Int)):=fun (l3,l4,a5) =>
 if a5 < n1 then
 (show Option (Bool) from
 if a5 < 8 then
 if a5 < 0 then none else
 some ((vxq (vxl d2.Block (2 ^ (min (a5).toNat 8))) 2) == 1)
 else
 some false).bind (fun t6 =>
 if t6=true then
 if qao (l3.length+1) 8=true then
 if a5 < (d2.Survive.length:Int) then
 (idx d2.Survive a5).bind fun (x7:Int) =>
 if qao (l4.length+1) 8=true then
 some (.next ((l3++[a5]),(l4++[(vxs.wrap (1+(vxs.wrap (vxq x7 5))))]),(vxs.wrap (a5+1))))
 else none
 else
 if qao (l4.length+1) 8=true then
 some (.next ((l3++[a5]),(l4++[1]),(vxs.wrap (a5+1))))
 else none
 else none
 else
 if a5 < (d2.Survive.length:Int) then
 (idx d2.Survive a5).bind fun (x8:Int) =>
 if qao (l4.length+1) 8=true then
 some (.next (l3,(l4++[(vxs.wrap (1+(vxs.wrap (vxq x8 5))))]),(vxs.wrap (a5+1))))
 else none
 else
 if qao (l4.length+1) 8=true then
 some (.next (l3,(l4++[1]),(vxs.wrap (a5+1))))
 else none)
 else
 some (.done (l3,l4))
def qke (n1:Int) (d2:Drossref56_Draft):Option (Linkage×Bool) :=
 (qae (qdn n1 d2) ([],0)).bind (fun o=>match o with
 | .inl l3 =>
 (qae (qbs n1 d2) ([],[],0)).bind (fun (l4,l5) =>
 some ((Linkage.mk l3 l4 l5),(decide ((d2.Rules.length:Int)≤4))))
 | .inr r6 =>
 some r6)
def qeb (c1:Int):Option (Value) :=
 if ((vxq c1 12) == 0)=true then
 some (Value.mk 1 0 [])
 else
 if ((vxq c1 12) == 1)=true then
 some (Value.mk 1 1 [])
 else
 if ((vxq c1 12) == 2)=true then
 some (Value.mk 1 2 [])
 else
 if ((vxq c1 12) == 3)=true then
 some (Value.mk 0 0 [])
 else
 if ((vxq c1 12) == 4)=true then
 some (Value.mk 2 0 [97])
 else
 if ((vxq c1 12) == 5)=true then
 some (Value.mk 2 0 [98])
 else
 if ((vxq c1 12) == 6)=true then
 some (Value.mk 2 0 [])
 else
 if ((vxq c1 12) == 7)=true then
 some (Value.mk 3 1 [])
 else
 if ((vxq c1 12) == 8)=true then
 some (Value.mk 1 (-1) [])
 else
 if ((vxq c1 12) == 9)=true then
 some (Value.mk 2 0 [97,98])
 else
 if ((vxq c1 12) == 10)=true then
 some (Value.mk 3 2 [])
 else
 some (Value.mk 1 7 [])
def qgp (x1:Drossref03_Recipe) (n2:Int) (i3:Int):(List Value×Int)→Option (LS (List Value×Int) (List Value)):=fun (r4,k5) =>
 if k5 < n2 then
 (idx x1.Rows i3).bind fun (x6:List Int) =>
 if k5 < (x6.length:Int) then
 (idx x6 k5).bind fun (x7:Int) =>
 (qeb x7).bind fun (r8:Value) =>
 if qao (r4.length+1) 32=true then
 some (.next ((r4++[r8]),(vxs.wrap (k5+1))))
 else none
 else
 (qeb 0).bind fun (r9:Value) =>
 if qao (r4.length+1) 32=true then
 some (.next ((r4++[r9]),(vxs.wrap (k5+1))))
 else none
 else
 some (.done r4)
def qgq (x1:Drossref03_Recipe) (n2:Int):(List Row×Int)→Option (LS (List Row×Int) (List Row)):=fun (t3,i4) =>
 if i4 < (x1.Rows.length:Int) then
 (qae (qgp x1 n2 i4) ([],0)).bind (fun r5 =>
 if qao (t3.length+1) 32=true then
 some (.next ((t3++[(Row.mk (vxs.wrap (1+(vxs.wrap (i4 * (vxs.wrap (1+(vxs.wrap (vxq x1.Gap 3)))))))) r5)]),(vxs.wrap (i4+1))))
 else none)
 else
 some (.done t3)
def qik (x1:Drossref03_Recipe) (n2:Int):Option (Table) :=
 if (0:Int)≤n2 then
 if n2≤8 then
 (some ([[97],[98],[99],[100],[101],[102],[103],[104]]:List (List UInt8))).bind fun (l3:List (List UInt8)) =>
 if qao ((l3.take n2.toNat).length) 16=true then
 (qae (qgq x1 n2) ([],0)).bind (fun t4 =>
 some (Table.mk [114] (l3.take n2.toNat) t4))
 else none
 else none
 else none
def qex (x1:Drossref03_Recipe) (m2:Int):Option (Table×Bool) :=
 if (x1.Rows.length:Int) > m2 then
 some ((Table.mk [] [] []),false)
 else
 (qik x1 (vxs.wrap (vxq x1.Attrs 6))).bind fun (r3:Table) =>
 some (r3,true)
def qec (x1:Drossref03_Recipe) (d2:Drossref56_Draft):Option (Table×Linkage×Bool) :=
 (qex x1 6).bind fun (r3:Table×Bool) =>
 (show Option (Bool) from
 if r3.2=true then
 some ((r3.1.Attrs.length:Int) == 0)
 else
 some true).bind (fun t4 =>
 if t4=true then
 some ((Table.mk [] [] []),(Linkage.mk [] [] []),false)
 else
 (qke (r3.1.Attrs.length:Int) d2).bind fun (r5:Linkage×Bool) =>
 some (r3.1,r5.1,r5.2))
def qda (a1:Int) (b2:Int):Option (Int) :=
 if a1 < b2 then
 some (-1)
 else
 if a1 > b2 then
 some 1
 else
 some 0
def qbb (a1:List UInt8) (b2:List UInt8):Int→Option (LS (Int) ((Unit) ⊕ (Int))):=fun i3 =>
 if i3 < (a1.length:Int) then
 if i3 < (b2.length:Int) then
 (idx a1 i3).bind fun (c4:UInt8) =>
 (idx b2 i3).bind fun (c5:UInt8) =>
 if (((c4.toNat:Nat):Int) != ((c5.toNat:Nat):Int))=true then
 (qda (vxs.wrap ((c4.toNat:Nat):Int)) (vxs.wrap ((c5.toNat:Nat):Int))).bind fun (r6:Int) =>
 some (.done (.inr r6))
 else
 some (.next (vxs.wrap (i3+1)))
 else
 some (.done (.inl ()))
 else
 some (.done (.inl ()))
def qgr (a1:List UInt8) (b2:List UInt8):Option (Int) :=
 (qae (qbb a1 b2) 0).bind (fun o=>match o with
 | .inl () =>
 (qda (a1.length:Int) (b2.length:Int)).bind fun (r3:Int) =>
 some r3
 | .inr r4 =>
 some r4)
def qdb (a1:Value) (b2:Value):Option (Int) :=
 (qda a1.Kind b2.Kind).bind fun (r3:Int) =>
 if (r3 != 0)=true then
 some r3
 else
 (qda a1.Num b2.Num).bind fun (r4:Int) =>
 if (r4 != 0)=true then
 some r4
 else
 (qgr a1.Str b2.Str).bind fun (r5:Int) =>
 some r5
def qcr (b1:List UInt8):(List Int×Int)→Option (LS (List Int×Int) (List Int)):=fun (d2,k3) =>
 if k3≤(b1.length:Int) then
 if qao (d2.length+1) 8=true then
 some (.next ((d2++[k3]),(vxs.wrap (k3+1))))
 else none
 else
 some (.done d2)
def qcs (a1:List UInt8) (b2:List UInt8) (d3:List Int) (i4:Int):(List Int×Int)→Option (LS (List Int×Int) (List Int)):=fun (n5,k6) =>
 if k6 < (b2.length:Int) then
 (idx d3 k6).bind fun (x7:Int) =>
 (idx a1 i4).bind fun (c8:UInt8) =>
 (idx b2 k6).bind fun (c9:UInt8) =>
 if (((c8.toNat:Nat):Int) != ((c9.toNat:Nat):Int))=true then
 (idx d3 (vxs.wrap (k6+1))).bind fun (x10:Int) =>
 (idx n5 k6).bind fun (x11:Int) =>
 if qao (n5.length+1) 8=true then
 some (.next ((n5++[(if (vxs.wrap (x11+1)) < (if (vxs.wrap (x10+1)) < (vxs.wrap (x7+1)) then (vxs.wrap (x10+1)) else (vxs.wrap (x7+1))) then (vxs.wrap (x11+1)) else (if (vxs.wrap (x10+1)) < (vxs.wrap (x7+1)) then (vxs.wrap (x10+1)) else (vxs.wrap (x7+1))))]),(vxs.wrap (k6+1))))
 else none
 else
 (idx d3 (vxs.wrap (k6+1))).bind fun (x12:Int) =>
 (idx n5 k6).bind fun (x13:Int) =>
 if qao (n5.length+1) 8=true then
 some (.next ((n5++[(if (vxs.wrap (x13+1)) < (if (vxs.wrap (x12+1)) < x7 then (vxs.wrap (x12+1)) else x7) then (vxs.wrap (x13+1)) else (if (vxs.wrap (x12+1)) < x7 then (vxs.wrap (x12+1)) else x7))]),(vxs.wrap (k6+1))))
 else none
 else
 some (.done n5)
def qds (a1:List UInt8) (b2:List UInt8):(List Int×Int)→Option (LS (List Int×Int) (List Int)):=fun (d3,i4) =>
 if i4 < (a1.length:Int) then
 (qae (qcs a1 b2 d3 i4) ([(vxs.wrap (i4+1))],0)).bind (fun n5 =>
 some (.next (n5,(vxs.wrap (i4+1)))))
 else
 some (.done d3)
def qd0 (a1:List UInt8) (b2:List UInt8):Option (Int) :=
 (qae (qcr b2) ([],0)).bind (fun d3 =>
 (qae (qds a1 b2) (d3,0)).bind (fun d4 =>
 (idx d4 (b2.length:Int)).bind fun (x5:Int) =>
 some x5))
def qed (s1:List UInt8):Option (Bool) :=
 some (decide ((s1.length:Int) > 200))
def qb1 (q1:Int):(List UInt8×Int)→Option (LS (List UInt8×Int) (List UInt8)):=fun (w2,i3) =>
 if i3 < q1 then
 if 1+w2.length≤9223372036854775807 then
 if (w2.length+1)+1≤9223372036854775807 then
 some (.next ((([1]++w2)++[1]),(vxs.wrap (i3+1))))
 else none
 else none
 else
 some (.done w2)
def qd1:(List (List UInt8)×Int)→Option (LS (List (List UInt8)×Int) (List (List UInt8))):=fun (o1,k2) =>
 if k2 > 0 then
 (idx o1 k2).bind fun (x3:List UInt8) =>
 (idx o1 (vxs.wrap (k2 - 1))).bind fun (x4:List UInt8) =>
 if (Op.bytesLess x3 x4)=true then
 (idx (o1.set k2.toNat x4) (vxs.wrap (k2 - 1))).bind fun (x5:List UInt8) =>
 some (.next (((o1.set k2.toNat x4).set (vxs.wrap (k2 - 1)).toNat x3),(vxs.wrap (k2 - 1))))
 else
 some (.done o1)
 else
 some (.done o1)
def qfx (s1:List UInt8) (q2:Int) (w3:List UInt8):(List (List UInt8)×Int)→Option (LS (List (List UInt8)×Int) (List (List UInt8))):=fun (o4,i5) =>
 if (vxs.wrap (i5+q2))≤(w3.length:Int) then
 if i5 < (vxs.wrap ((vxs.wrap ((s1.length:Int)+q2)) - 1)) then
 if 0≤i5 then
 if i5≤(vxs.wrap (i5+q2)) then
 if (vxs.wrap (i5+q2))≤(w3.length:Int) then
 if qao (o4.length+1) 16=true then
 (qae qd1 ((o4++[((w3.drop i5.toNat).take ((vxs.wrap (i5+q2)).toNat - i5.toNat))]),(vxs.wrap ((((o4.length+1):Nat):Int) - 1)))).bind (fun o6 =>
 some (.next (o6,(vxs.wrap (i5+1)))))
 else none
 else none
 else none
 else none
 else
 some (.done o4)
 else
 some (.done o4)
def qdo (s1:List UInt8) (q2:Int):Option (List (List UInt8)×Int) :=
 (qed s1).bind fun (r3:Bool) =>
 if r3=true then
 some ([],3)
 else
 if q2 < 1 then
 some ([],7)
 else
 if q2 > 4 then
 some ([],7)
 else
 (qae (qb1 q2) (s1,1)).bind (fun w4 =>
 (qae (qfx s1 q2 w4) ([],0)).bind (fun o5 =>
 some (o5,0)))
def qdi (a1:List (List UInt8)) (b2:List (List UInt8)) (i3:Int):Int→Option (LS (Int) (Int)):=fun k4 =>
 if k4 < (b2.length:Int) then
 (idx b2 k4).bind fun (x5:List UInt8) =>
 (idx a1 i3).bind fun (x6:List UInt8) =>
 if (Op.bytesLess x5 x6)=true then
 some (.next (vxs.wrap (k4+1)))
 else
 some (.done k4)
 else
 some (.done k4)
def qci (a1:List (List UInt8)) (b2:List (List UInt8)):(Int×Int×Int)→Option (LS (Int×Int×Int) (Int)):=fun (n3,k4,i5) =>
 if i5 < (a1.length:Int) then
 (qae (qdi a1 b2 i5) k4).bind (fun k6 =>
 (show Option (Bool) from
 if k6 < (b2.length:Int) then
 (idx b2 k6).bind fun (x7:List UInt8) =>
 (idx a1 i5).bind fun (x8:List UInt8) =>
 some (x7 == x8)
 else
 some false).bind (fun t9 =>
 if t9=true then
 some (.next ((vxs.wrap (n3+1)),(vxs.wrap (k6+1)),(vxs.wrap (i5+1))))
 else
 some (.next (n3,k6,(vxs.wrap (i5+1))))))
 else
 some (.done n3)
def qhg (a1:List (List UInt8)) (b2:List (List UInt8)):Option (Int) :=
 (qae (qci a1 b2) (0,0,0)).bind (fun n3 =>
 some n3)
def qhh (a1:List UInt8) (b2:List UInt8) (q3:Int):Option (Ratio×Int) :=
 (qed a1).bind fun (r4:Bool) =>
 if r4=true then
 some ((Ratio.mk 0 0),3)
 else
 (qed b2).bind fun (r5:Bool) =>
 if r5=true then
 some ((Ratio.mk 0 0),3)
 else
 (qdo a1 q3).bind fun (r6:List (List UInt8)×Int) =>
 (qdo b2 q3).bind fun (r7:List (List UInt8)×Int) =>
 if (r6.2 != 0)=true then
 some ((Ratio.mk 0 0),r6.2)
 else
 if ((vxs.wrap ((r6.1.length:Int)+(r7.1.length:Int))) == 0)=true then
 (qea 1 1).bind fun (r8:Ratio) =>
 some (r8,0)
 else
 (qhg r6.1 r7.1).bind fun (r9:Int) =>
 (qea (vxs.wrap (2 * r9)) (vxs.wrap ((r6.1.length:Int)+(r7.1.length:Int)))).bind fun (r10:Ratio) =>
 some (r10,0)
def qil (s1:List UInt8) (n2:Int):Option (List UInt8) :=
 if (0:Int)≤(if (s1.length:Int) < n2 then (s1.length:Int) else n2) then
 if (if (s1.length:Int) < n2 then (s1.length:Int) else n2)≤(s1.length:Int) then
 some (s1.take ((if (s1.length:Int) < n2 then (s1.length:Int) else n2).toNat))
 else none
 else none
def qge (x1:Row) (y2:Row) (c3:Similar):Option (Bool×Int) :=
 (qdm x1 y2 c3).bind fun (r4:Int) =>
 if (r4 != 0)=true then
 some (false,r4)
 else
 (idx x1.Values c3.Attr).bind fun (x5:Value) =>
 (idx y2.Values c3.Attr).bind fun (x6:Value) =>
 (show Option (Bool) from
 if (x5.Kind != 2)=true then
 some true
 else
 if (x6.Kind != 2)=true then
 some true
 else
 some (c3.Measure == 1)).bind (fun t7 =>
 if t7=true then
 (qdb x5 x6).bind fun (r8:Int) =>
 some ((r8 == 0),0)
 else
 if (c3.Measure == 2)=true then
 (qd0 x5.Str x6.Str).bind fun (r9:Int) =>
 some ((decide (r9≤c3.Limit)),0)
 else
 if (c3.Measure == 3)=true then
 (qhh x5.Str x6.Str 2).bind fun (r10:Ratio×Int) =>
 some ((decide ((vxs.wrap (100 * r10.1.Num))≥(vxs.wrap (c3.Limit * r10.1.Den)))),0)
 else
 (qil x5.Str c3.Limit).bind fun (r11:List UInt8) =>
 (qil x6.Str c3.Limit).bind fun (r12:List UInt8) =>
 some ((r11 == r12),0))
def qd2 (x1:Row) (y2:Row) (l3:Linkage) (i4:Int):(Bool×Int)→Option (LS (Bool×Int) (Bool)):=fun (a5,k6) =>
 (idx l3.Rules i4).bind fun (x7:List Similar) =>
 if k6 < (x7.length:Int) then
 (idx x7 k6).bind fun (x8:Similar) =>
 (qge x1 y2 x8).bind fun (r9:Bool×Int) =>
 if a5=true then
 some (.next (r9.1,(vxs.wrap (k6+1))))
 else
 some (.next (false,(vxs.wrap (k6+1))))
 else
 some (.done a5)
def qd3 (x1:Row) (y2:Row) (l3:Linkage):Int→Option (LS (Int) ((Unit) ⊕ (Int))):=fun i4 =>
 if i4 < (l3.Rules.length:Int) then
 (qae (qd2 x1 y2 l3 i4) (true,0)).bind (fun a5 =>
 if a5=true then
 some (.done (.inr i4))
 else
 some (.next (vxs.wrap (i4+1))))
 else
 some (.done (.inl ()))
def qh1 (x1:Row) (y2:Row) (l3:Linkage):Option (Int) :=
 (qae (qd3 x1 y2 l3) 0).bind (fun o=>match o with
 | .inl () =>
 some (-1)
 | .inr r4 =>
 some r4)
def qbp (a1:List Value) (b2:List Value):Int→Option (LS (Int) ((Unit) ⊕ (Int))):=fun i3 =>
 if i3 < (a1.length:Int) then
 if i3 < (b2.length:Int) then
 (idx a1 i3).bind fun (x4:Value) =>
 (idx b2 i3).bind fun (x5:Value) =>
 (qdb x4 x5).bind fun (r6:Int) =>
 if (r6 != 0)=true then
 some (.done (.inr r6))
 else
 some (.next (vxs.wrap (i3+1)))
 else
 some (.done (.inl ()))
 else
 some (.done (.inl ()))
def qh2 (a1:List Value) (b2:List Value):Option (Int) :=
 (qae (qbp a1 b2) 0).bind (fun o=>match o with
 | .inl () =>
 (qda (a1.length:Int) (b2.length:Int)).bind fun (r3:Int) =>
 some r3
 | .inr r4 =>
 some r4)
def qim (a1:List Value) (b2:List Value):Option (Bool) :=
 (qh2 a1 b2).bind fun (r3:Int) =>
 some (r3 == 0)
def qjg (s1:Int) (i2:Int):Option (Bool) :=
 if i2≥0 then
 if i2 < 32 then
 if i2 < 0 then none else
 some ((vxt.wrap ((BitVec.ofInt 32 (vxl s1 (2 ^ (min (i2).toNat 32))) &&& (1#32)).toNat:Int)) == 1)
 else
 some false
 else
 some false
def qe5 (r1:Row) (s2:Int):(List Value×Int)→Option (LS (List Value×Int) (List Value)):=fun (o3,i4) =>
 if i4 < (r1.Values.length:Int) then
 (qjg s2 i4).bind fun (r5:Bool) =>
 if r5=true then
 (idx r1.Values i4).bind fun (x6:Value) =>
 if qao (o3.length+1) 32=true then
 some (.next ((o3++[x6]),(vxs.wrap (i4+1))))
 else none
 else
 some (.next (o3,(vxs.wrap (i4+1))))
 else
 some (.done o3)
def qfg (r1:Row) (s2:Int):Option (List Value) :=
 (qae (qe5 r1 s2) ([],0)).bind (fun o3 =>
 some o3)
def qey (a1:Row) (b2:Row) (s3:Int):Option (Bool) :=
 (qfg a1 s3).bind fun (r4:List Value) =>
 (qfg b2 s3).bind fun (r5:List Value) =>
 (qim r4 r5).bind fun (r6:Bool) =>
 some r6
def qct (x1:Row) (y2:Row) (l3:Linkage):Int→Option (LS (Int) ((Unit) ⊕ (Bool))):=fun i4 =>
 if i4 < (l3.Block.length:Int) then
 (idx l3.Block i4).bind fun (x5:Int) =>
 if x5 < 0 then none else
 (qey x1 y2 (vxt.wrap (1 * 2 ^ (min (x5).toNat 32)))).bind fun (r6:Bool) =>
 if r6=true then
 some (.done (.inr true))
 else
 some (.next (vxs.wrap (i4+1)))
 else
 some (.done (.inl ()))
def qd4 (x1:Row) (y2:Row) (l3:Linkage):Option (Bool) :=
 if ((l3.Block.length:Int) == 0)=true then
 some true
 else
 (qae (qct x1 y2 l3) 0).bind (fun o=>match o with
 | .inl () =>
 some false
 | .inr r4 =>
 some r4)
def qez (x1:Row) (y2:Row) (l3:Linkage):Option (Bool) :=
 if (x1.ID != y2.ID)=true then
 (qd4 x1 y2 l3).bind fun (r4:Bool) =>
 if r4=true then
 (qh1 x1 y2 l3).bind fun (r5:Int) =>
 some (decide (r5≥0))
 else
 some false
 else
 some false
def qbm (t1:Table) (l2:Linkage) (i3:Int):(List Arr2_int64×Int)→Option (LS (List Arr2_int64×Int) (List Arr2_int64)):=fun (o4,k5) =>
 if k5 < (t1.Rows.length:Int) then
 (idx t1.Rows i3).bind fun (x6:Row) =>
 (idx t1.Rows k5).bind fun (x7:Row) =>
 (qez x6 x7 l2).bind fun (r8:Bool) =>
 if r8=true then
 if qao (o4.length+1) 16=true then
 some (.next ((o4++[(Arr2_int64.mk x6.ID x7.ID)]),(vxs.wrap (k5+1))))
 else none
 else
 some (.next (o4,(vxs.wrap (k5+1))))
 else
 some (.done o4)
def qee (t1:Table) (l2:Linkage):(List Arr2_int64×Int)→Option (LS (List Arr2_int64×Int) (List Arr2_int64)):=fun (o3,i4) =>
 if i4 < (t1.Rows.length:Int) then
 (qae (qbm t1 l2 i4) (o3,(vxs.wrap (i4+1)))).bind (fun o5 =>
 some (.next (o5,(vxs.wrap (i4+1)))))
 else
 some (.done o3)
def qek (t1:Table) (l2:Linkage):Option (List Arr2_int64) :=
 (qae (qee t1 l2) ([],0)).bind (fun o3 =>
 some o3)
def qfh (l1:List Int) (i2:Int):Int→Option (LS (Int) ((Unit) ⊕ (Bool))):=fun i3 =>
 if i3 < (l1.length:Int) then
 (idx l1 i3).bind fun (x4:Int) =>
 if (x4 == i2)=true then
 some (.done (.inr true))
 else
 some (.next (vxs.wrap (i3+1)))
 else
 some (.done (.inl ()))
def qc4 (l1:List Int) (i2:Int):Option (Bool) :=
 (qae (qfh l1 i2) 0).bind (fun o=>match o with
 | .inl () =>
 some false
 | .inr r3 =>
 some r3)
def qk2 (l1:List Int):Int→Option (LS (Int) ((Unit) ⊕ (Bool))):=fun i2 =>
 if i2 < (l1.length:Int) then
 (idx l1 i2).bind fun (x3:Int) =>
 (idx l1 (vxs.wrap (i2 - 1))).bind fun (x4:Int) =>
 if x3≤x4 then
 some (.done (.inr false))
 else
 some (.next (vxs.wrap (i2+1)))
 else
 some (.done (.inl ()))
def qib (l1:List Int):Option (Bool) :=
 (qae (qk2 l1) 1).bind (fun o=>match o with
 | .inl () =>
 some (decide ((l1.length:Int) > 0))
 | .inr r2 =>
 some r2)
def qel (l1:List (List Int)) (a2:List Int) (i3:Int):Int→Option (LS (Int) ((Unit) ⊕ (Bool))):=fun k4 =>
 (idx l1 i3).bind fun (x5:List Int) =>
 if k4 < (x5.length:Int) then
 (idx x5 k4).bind fun (x6:Int) =>
 (qc4 a2 x6).bind fun (r7:Bool) =>
 if r7=true then
 some (.done (.inr false))
 else
 some (.next (vxs.wrap (k4+1)))
 else
 some (.done (.inl ()))
def qdc (l1:List (List Int)):(List Int×Int)→Option (LS (List Int×Int) ((Unit) ⊕ (Bool))):=fun (a2,i3) =>
 if i3 < (l1.length:Int) then
 (idx l1 i3).bind fun (x4:List Int) =>
 (qib x4).bind fun (r5:Bool) =>
 if r5=true then
 (qae (qel l1 a2 i3) 0).bind (fun o=>match o with
 | .inl () =>
 if qao (a2.length+x4.length) 8=true then
 some (.next ((a2++x4),(vxs.wrap (i3+1))))
 else none
 | .inr r6 =>
 some (.done (.inr r6)))
 else
 some (.done (.inr false))
 else
 some (.done (.inl ()))
def qin (l1:List (List Int)):Option (Bool) :=
 (qae (qdc l1) ([],0)).bind (fun o=>match o with
 | .inl () =>
 some true
 | .inr r2 =>
 some r2)
def qem (t1:Table) (i2:Int):Int→Option (LS (Int) ((Unit) ⊕ (Int×Bool))):=fun i3 =>
 if i3 < (t1.Rows.length:Int) then
 (idx t1.Rows i3).bind fun (x4:Row) =>
 if (x4.ID == i2)=true then
 some (.done (.inr (i3,true)))
 else
 some (.next (vxs.wrap (i3+1)))
 else
 some (.done (.inl ()))
def qio (t1:Table) (i2:Int):Option (Int×Bool) :=
 (qae (qem t1 i2) 0).bind (fun o=>match o with
 | .inl () =>
 some (0,false)
 | .inr r3 =>
 some r3)
def qgf (t1:Table) (l2:List (List Int)) (i3:Int):Int→Option (LS (Int) ((Unit) ⊕ (Bool))):=fun k4 =>
 (idx l2 i3).bind fun (x5:List Int) =>
 if k4 < (x5.length:Int) then
 (idx x5 k4).bind fun (x6:Int) =>
 (qio t1 x6).bind fun (r7:Int×Bool) =>
 if r7.2=true then
 some (.next (vxs.wrap (k4+1)))
 else
 some (.done (.inr false))
 else
 some (.done (.inl ()))
def qgg (t1:Table) (l2:List (List Int)):(Int×Int)→Option (LS (Int×Int) ((Int) ⊕ (Bool))):=fun (n3,i4) =>
 if i4 < (l2.length:Int) then
 (idx l2 i4).bind fun (x5:List Int) =>
 (qae (qgf t1 l2 i4) 0).bind (fun o=>match o with
 | .inl () =>
 some (.next ((vxs.wrap (n3+(x5.length:Int))),(vxs.wrap (i4+1))))
 | .inr r6 =>
 some (.done (.inr r6)))
 else
 some (.done (.inl n3))
def qiy (t1:Table) (l2:List (List Int)):Option (Bool) :=
 (qin l2).bind fun (r3:Bool) =>
 if r3=true then
 (qae (qgg t1 l2) (0,0)).bind (fun o=>match o with
 | .inl n4 =>
 some (n4 == (t1.Rows.length:Int))
 | .inr r5 =>
 some r5)
 else
 some false
def qkf (r1:Row):Option (Row) :=
 if qao r1.Values.length 32=true then
 some (Row.mk r1.ID r1.Values)
 else none
def qic (r1:List Row):(List Row×Int)→Option (LS (List Row×Int) (List Row)):=fun (o2,i3) =>
 if i3 < (r1.length:Int) then
 (idx r1 i3).bind fun (x4:Row) =>
 (qkf x4).bind fun (r5:Row) =>
 if qao (o2.length+1) 32=true then
 some (.next ((o2++[r5]),(vxs.wrap (i3+1))))
 else none
 else
 some (.done o2)
def qip (t1:Table) (r2:List Row):Option (Table) :=
 if qao t1.Attrs.length 16=true then
 (qae (qic r2) ([],0)).bind (fun o3 =>
 some (Table.mk t1.Name t1.Attrs o3))
 else none
def qid (t1:Table) (i2:List Int):(List Row×Int)→Option (LS (List Row×Int) (List Row)):=fun (r3,i4) =>
 if i4 < (t1.Rows.length:Int) then
 (idx t1.Rows i4).bind fun (x5:Row) =>
 (qc4 i2 x5.ID).bind fun (r6:Bool) =>
 if r6=true then
 if qao (r3.length+1) 32=true then
 some (.next ((r3++[x5]),(vxs.wrap (i4+1))))
 else none
 else
 some (.next (r3,(vxs.wrap (i4+1))))
 else
 some (.done r3)
def qiq (t1:Table) (i2:List Int):Option (Table) :=
 (qae (qid t1 i2) ([],0)).bind (fun r3 =>
 (qip t1 r3).bind fun (r4:Table) =>
 some r4)
def qd5 (l1:Linkage) (r2:Table) (i3:Int):(List Pair×Int)→Option (LS (List Pair×Int) (List Pair)):=fun (o4,k5) =>
 if k5 < (r2.Rows.length:Int) then
 (idx r2.Rows i3).bind fun (x6:Row) =>
 (idx r2.Rows k5).bind fun (x7:Row) =>
 (qez x6 x7 l1).bind fun (r8:Bool) =>
 if r8=true then
 if qao (o4.length+1) 24=true then
 some (.next ((o4++[(Pair.mk i3 k5 1)]),(vxs.wrap (k5+1))))
 else none
 else
 if qao (o4.length+1) 24=true then
 some (.next ((o4++[(Pair.mk i3 k5 (-1))]),(vxs.wrap (k5+1))))
 else none
 else
 some (.done o4)
def qd6 (l1:Linkage) (r2:Table):(List Pair×Int)→Option (LS (List Pair×Int) (List Pair)):=fun (o3,i4) =>
 if i4 < (r2.Rows.length:Int) then
 (qae (qd5 l1 r2 i4) (o3,(vxs.wrap (i4+1)))).bind (fun o5 =>
 some (.next (o5,(vxs.wrap (i4+1)))))
 else
 some (.done o3)
def qh3 (t1:Table) (l2:Linkage) (i3:List Int):Option (List Pair) :=
 (qiq t1 i3).bind fun (r4:Table) =>
 (qae (qd6 l2 r4) ([],0)).bind (fun o5 =>
 some o5)
def qcx (l1:List Pair) (i2:Int) (x3:Pair):Int→Option (LS (Int) ((Unit) ⊕ (Int))):=fun k4 =>
 if k4 < i2 then
 (idx l1 k4).bind fun (x5:Pair) =>
 if (x5.I == x3.I)=true then
 if (x5.K == x3.K)=true then
 some (.done (.inr 1))
 else
 some (.next (vxs.wrap (k4+1)))
 else
 some (.next (vxs.wrap (k4+1)))
 else
 some (.done (.inl ()))
def qfy (n1:Int) (l2:List Pair):Int→Option (LS (Int) ((Unit) ⊕ (Int))):=fun i3 =>
 if i3 < (l2.length:Int) then
 (idx l2 i3).bind fun (x4:Pair) =>
 if x4.I < 0 then
 some (.done (.inr 1))
 else
 if x4.I≥x4.K then
 some (.done (.inr 1))
 else
 if x4.K≥n1 then
 some (.done (.inr 1))
 else
 if x4.Weight < (-1000) then
 some (.done (.inr 1))
 else
 if x4.Weight > 1000 then
 some (.done (.inr 1))
 else
 (qae (qcx l2 i3 x4) 0).bind (fun o=>match o with
 | .inl () =>
 some (.next (vxs.wrap (i3+1)))
 | .inr r5 =>
 some (.done (.inr r5)))
 else
 some (.done (.inl ()))
def qgh (n1:Int) (l2:List Pair):Option (Int) :=
 if n1 < 0 then
 some 7
 else
 if n1 > 200 then
 some 7
 else
 if (l2.length:Int) > 20000 then
 some 3
 else
 (qae (qfy n1 l2) 0).bind (fun o=>match o with
 | .inl () =>
 some 0
 | .inr r3 =>
 some r3)
def qen (l1:List Pair) (l2:List Int):(Int×Int)→Option (LS (Int×Int) (Int)):=fun (s3,i4) =>
 if i4 < (l1.length:Int) then
 (idx l1 i4).bind fun (x5:Pair) =>
 (idx l2 x5.I).bind fun (x6:Int) =>
 (idx l2 x5.K).bind fun (x7:Int) =>
 (show Option (Bool) from
 if x5.Weight > 0 then
 some (!(x6 == x7))
 else
 some false).bind (fun t8 =>
 if t8=true then
 (show Option (Bool) from
 if x5.Weight < 0 then
 some (x6 == x7)
 else
 some false).bind (fun t9 =>
 if t9=true then
 some (.next ((vxs.wrap ((vxs.wrap (s3+x5.Weight)) - x5.Weight)),(vxs.wrap (i4+1))))
 else
 some (.next ((vxs.wrap (s3+x5.Weight)),(vxs.wrap (i4+1)))))
 else
 (show Option (Bool) from
 if x5.Weight < 0 then
 some (x6 == x7)
 else
 some false).bind (fun t10 =>
 if t10=true then
 some (.next ((vxs.wrap (s3 - x5.Weight)),(vxs.wrap (i4+1))))
 else
 some (.next (s3,(vxs.wrap (i4+1))))))
 else
 some (.done s3)
def qfz (l1:List Pair) (l2:List Int):Option (Int) :=
 (qae (qen l1 l2) (0,0)).bind (fun s3 =>
 some s3)
def qeo (o1:List (List Int)) (k2:Int):(Int×Int)→Option (LS (Int×Int) (Int)):=fun (m3,j4) =>
 (idx o1 k2).bind fun (x5:List Int) =>
 if j4 < (x5.length:Int) then
 (idx x5 j4).bind fun (x6:Int) =>
 some (.next ((if x6 > m3 then x6 else m3),(vxs.wrap (j4+1))))
 else
 some (.done m3)
def qep (o1:List (List Int)) (k2:Int) (m3:Int):(List (List Int)×Int)→Option (LS (List (List Int)×Int) (List (List Int))):=fun (m4,l5) =>
 if l5≤(vxs.wrap (m3+1)) then
 (idx o1 k2).bind fun (x6:List Int) =>
 if qao x6.length 8=true then
 if qao (x6.length+1) 8=true then
 if qao (m4.length+1) 24=true then
 some (.next ((m4++[(x6++[l5])]),(vxs.wrap (l5+1))))
 else none
 else none
 else none
 else
 some (.done m4)
def qeq (o1:List (List Int)):(List (List Int)×Int)→Option (LS (List (List Int)×Int) (List (List Int))):=fun (m2,k3) =>
 if k3 < (o1.length:Int) then
 (qae (qeo o1 k3) ((-1),0)).bind (fun m4 =>
 (qae (qep o1 k3 m4) (m2,0)).bind (fun m5 =>
 some (.next (m5,(vxs.wrap (k3+1))))))
 else
 some (.done m2)
def qer (n1:Int):(List (List Int)×Int)→Option (LS (List (List Int)×Int) (List (List Int))):=fun (o2,i3) =>
 if i3 < n1 then
 (qae (qeq o2) ([],0)).bind (fun m4 =>
 some (.next (m4,(vxs.wrap (i3+1)))))
 else
 some (.done o2)
def qjh (n1:Int):Option (List (List Int)) :=
 (some ([[]]:List (List Int))).bind fun (l2:List (List Int)) =>
 (qae (qer n1) (l2,0)).bind (fun o3 =>
 some o3)
def qb2 (l1:List Pair) (r2:List (List Int)):(List Int×Int)→Option (LS (List Int×Int) (List Int)):=fun (b3,i4) =>
 if i4 < (r2.length:Int) then
 (idx r2 i4).bind fun (x5:List Int) =>
 (qfz l1 x5).bind fun (r6:Int) =>
 (qfz l1 b3).bind fun (r7:Int) =>
 if r6 < r7 then
 some (.next (x5,(vxs.wrap (i4+1))))
 else
 some (.next (b3,(vxs.wrap (i4+1))))
 else
 some (.done b3)
def qes (n1:Int) (l2:List Pair):Option (List Int×Int×Int) :=
 (qgh n1 l2).bind fun (r3:Int) =>
 if (r3 != 0)=true then
 some ([],0,r3)
 else
 if n1 > 10 then
 some ([],0,3)
 else
 (qjh n1).bind fun (r4:List (List Int)) =>
 (r4[0]?).bind fun (x5:List Int) =>
 (qae (qb2 l2 r4) (x5,1)).bind (fun b6 =>
 (qfz l2 b6).bind fun (r7:Int) =>
 some (b6,r7,0))
def qa6 (r1:List Arr2_int64):(List Int×Bool×Int)→Option (LS (List Int×Bool×Int) (List Int×Bool)):=fun (g2,g3,k4) =>
 if k4 < (r1.length:Int) then
 (idx r1 k4).bind fun (x5:Arr2_int64) =>
 (qc4 g2 x5.x0).bind fun (r6:Bool) =>
 (qc4 g2 x5.x1).bind fun (r7:Bool) =>
 (show Option (Bool) from
 if r6=true then
 some (!r7)
 else
 some false).bind (fun t8 =>
 if t8=true then
 if qao (g2.length+1) 8=true then
 (show Option (Bool) from
 if r7=true then
 some (!r6)
 else
 some false).bind (fun t9 =>
 if t9=true then
 if qao ((g2.length+1)+1) 8=true then
 some (.next (((g2++[x5.x1])++[x5.x0]),true,(vxs.wrap (k4+1))))
 else none
 else
 some (.next ((g2++[x5.x1]),true,(vxs.wrap (k4+1)))))
 else none
 else
 (show Option (Bool) from
 if r7=true then
 some (!r6)
 else
 some false).bind (fun t10 =>
 if t10=true then
 if qao (g2.length+1) 8=true then
 some (.next ((g2++[x5.x0]),true,(vxs.wrap (k4+1))))
 else none
 else
 some (.next (g2,g3,(vxs.wrap (k4+1))))))
 else
 some (.done (g2,g3))
def qbv (r1:List Arr2_int64):(List Int×Bool)→Option (LS (List Int×Bool) (List Int)):=fun (g2,g3) =>
 if g3=true then
 (qae (qa6 r1) (g2,false,0)).bind (fun (g4,g5) =>
 some (.next (g4,g5)))
 else
 some (.done g2)
def qbw (t1:Table) (g2:List Int):(List Int×Int)→Option (LS (List Int×Int) (List Int)):=fun (i3,k4) =>
 if k4 < (t1.Rows.length:Int) then
 (idx t1.Rows k4).bind fun (x5:Row) =>
 (qc4 g2 x5.ID).bind fun (r6:Bool) =>
 if r6=true then
 if qao (i3.length+1) 8=true then
 some (.next ((i3++[x5.ID]),(vxs.wrap (k4+1))))
 else none
 else
 some (.next (i3,(vxs.wrap (k4+1))))
 else
 some (.done i3)
def qbx (t1:Table) (r2:List Arr2_int64):(List (List Int)×List Int×Int)→Option (LS (List (List Int)×List Int×Int) (List (List Int))):=fun (o3,d4,i5) =>
 if i5 < (t1.Rows.length:Int) then
 (idx t1.Rows i5).bind fun (x6:Row) =>
 (qc4 d4 x6.ID).bind fun (r7:Bool) =>
 if r7=true then
 some (.next (o3,d4,(vxs.wrap (i5+1))))
 else
 (qae (qbv r2) ([x6.ID],true)).bind (fun g8 =>
 if qao (d4.length+g8.length) 8=true then
 (qae (qbw t1 g8) ([],0)).bind (fun i9 =>
 if qao (o3.length+1) 24=true then
 some (.next ((o3++[i9]),(d4++g8),(vxs.wrap (i5+1))))
 else none)
 else none)
 else
 some (.done o3)
def qef (t1:Table) (l2:Linkage):Option (List (List Int)) :=
 (qek t1 l2).bind fun (r3:List Arr2_int64) =>
 (qae (qbx t1 r3) ([],[],0)).bind (fun o4 =>
 some o4)
def qcj (l1:List Pair) (i2:Int) (k3:Int):Int→Option (LS (Int) ((Unit) ⊕ (Int×Bool))):=fun m4 =>
 if m4 < (l1.length:Int) then
 (show Option (Bool) from
 (idx l1 m4).bind fun (x5:Pair) =>
 if (x5.I == i2)=true then
 some (x5.K == k3)
 else
 some false).bind (fun t6 =>
 if t6=true then
 (idx l1 m4).bind fun (x7:Pair) =>
 some (.done (.inr (x7.Weight,true)))
 else
 some (.next (vxs.wrap (m4+1))))
 else
 some (.done (.inl ()))
def qfi (l1:List Pair) (i2:Int) (k3:Int):Option (Int×Bool) :=
 (qae (qcj l1 i2 k3) 0).bind (fun o=>match o with
 | .inl () =>
 some (0,false)
 | .inr r4 =>
 some r4)
def qf0 (n1:Int):(List Int×Int)→Option (LS (List Int×Int) (List Int)):=fun (l2,i3) =>
 if i3 < n1 then
 (idx l2 i3).bind fun (x4:Int) =>
 some (.next ((l2.set i3.toNat (-1)),(vxs.wrap (i3+1))))
 else
 some (.done l2)
def qcy (n1:Int) (l2:List Pair) (n3:Int) (i4:Int):(List Int×Int)→Option (LS (List Int×Int) (List Int)):=fun (l5,k6) =>
 if k6 < n1 then
 (qfi l2 i4 k6).bind fun (r7:Int×Bool) =>
 (show Option (Bool) from
 if r7.1 > 0 then
 (idx l5 k6).bind fun (x8:Int) =>
 some (decide (x8 < 0))
 else
 some false).bind (fun t9 =>
 if t9=true then
 (idx l5 k6).bind fun (x10:Int) =>
 some (.next ((l5.set k6.toNat n3),(vxs.wrap (k6+1))))
 else
 some (.next (l5,(vxs.wrap (k6+1)))))
 else
 some (.done l5)
def qd7 (n1:Int) (l2:List Pair):(List Int×Int×Int)→Option (LS (List Int×Int×Int) (List Int)):=fun (l3,n4,i5) =>
 if i5 < n1 then
 (idx l3 i5).bind fun (x6:Int) =>
 if x6≥0 then
 some (.next (l3,n4,(vxs.wrap (i5+1))))
 else
 (qae (qcy n1 l2 n4 i5) ((l3.set i5.toNat n4),(vxs.wrap (i5+1)))).bind (fun l7 =>
 some (.next (l7,(vxs.wrap (n4+1)),(vxs.wrap (i5+1)))))
 else
 some (.done l3)
def qgi (n1:Int) (l2:List Pair):Option (List Int×Int) :=
 (qgh n1 l2).bind fun (r3:Int) =>
 if (r3 != 0)=true then
 some ([],r3)
 else
 if 0≤n1 then
 if qao (n1).toNat 8=true then
 (qae (qf0 n1) ((vux (n1).toNat 0),0)).bind (fun l4 =>
 (qae (qd7 n1 l2) (l4,0,0)).bind (fun l5 =>
 some (l5,0)))
 else none
 else none
def qck (l1:List Int) (o2:List Int) (i3:Int):(Int×Int)→Option (LS (Int×Int) (Int)):=fun (l4,k5) =>
 if k5 < i3 then
 (idx l1 k5).bind fun (x6:Int) =>
 (idx l1 i3).bind fun (x7:Int) =>
 if (x6 == x7)=true then
 (idx o2 k5).bind fun (x8:Int) =>
 some (.next (x8,(vxs.wrap (k5+1))))
 else
 some (.next (l4,(vxs.wrap (k5+1))))
 else
 some (.done l4)
def qcl (l1:List Int):(List Int×Int×Int)→Option (LS (List Int×Int×Int) (List Int)):=fun (o2,n3,i4) =>
 if i4 < (l1.length:Int) then
 (qae (qck l1 o2 i4) ((-1),0)).bind (fun l5 =>
 if l5 < 0 then
 if qao (o2.length+1) 8=true then
 some (.next ((o2++[n3]),(vxs.wrap (n3+1)),(vxs.wrap (i4+1))))
 else none
 else
 if qao (o2.length+1) 8=true then
 some (.next ((o2++[l5]),n3,(vxs.wrap (i4+1))))
 else none)
 else
 some (.done o2)
def qhi (l1:List Int):Option (List Int) :=
 (qae (qcl l1) ([],0,0)).bind (fun o2 =>
 some o2)
def qcm (r1:List Int):(List (List Int)×Int)→Option (LS (List (List Int)×Int) (List (List Int))):=fun (o2,i3) =>
 if i3 < (r1.length:Int) then
 (idx r1 i3).bind fun (x4:Int) =>
 if (x4 == ((o2.length:Nat):Int))=true then
 if qao (o2.length+1) 24=true then
 (idx (o2++[[]]) x4).bind fun (x5:List Int) =>
 if qao (x5.length+1) 8=true then
 some (.next (((o2++[[]]).set x4.toNat (x5++[i3])),(vxs.wrap (i3+1))))
 else none
 else none
 else
 (idx o2 x4).bind fun (x6:List Int) =>
 if qao (x6.length+1) 8=true then
 some (.next ((o2.set x4.toNat (x6++[i3])),(vxs.wrap (i3+1))))
 else none
 else
 some (.done o2)
def qfj (l1:List Int):Option (List (List Int)) :=
 (qhi l1).bind fun (r2:List Int) =>
 (qae (qcm r2) ([],0)).bind (fun o3 =>
 some o3)
def qca (x1:List Int) (r2:List (List Int)) (k3:Int):(List Int×Int)→Option (LS (List Int×Int) (List Int)):=fun (c4,j5) =>
 (idx r2 k3).bind fun (x6:List Int) =>
 if j5 < (x6.length:Int) then
 (idx x6 j5).bind fun (x7:Int) =>
 (idx x1 x7).bind fun (x8:Int) =>
 if qao (c4.length+1) 8=true then
 some (.next ((c4++[x8]),(vxs.wrap (j5+1))))
 else none
 else
 some (.done c4)
def qbq:(List (List Int)×Int)→Option (LS (List (List Int)×Int) (List (List Int))):=fun (o1,j2) =>
 if j2 > 0 then
 (idx o1 j2).bind fun (x3:List Int) =>
 (x3[0]?).bind fun (x4:Int) =>
 (idx o1 (vxs.wrap (j2 - 1))).bind fun (x5:List Int) =>
 (x5[0]?).bind fun (x6:Int) =>
 if x4 < x6 then
 (idx (o1.set j2.toNat x5) (vxs.wrap (j2 - 1))).bind fun (x7:List Int) =>
 some (.next (((o1.set j2.toNat x5).set (vxs.wrap (j2 - 1)).toNat x3),(vxs.wrap (j2 - 1))))
 else
 some (.done o1)
 else
 some (.done o1)
def qcb (x1:List Int) (r2:List (List Int)):(List (List Int)×Int)→Option (LS (List (List Int)×Int) (List (List Int))):=fun (o3,k4) =>
 if k4 < (r2.length:Int) then
 (qae (qca x1 r2 k4) ([],0)).bind (fun c5 =>
 if qao (o3.length+1) 24=true then
 (qae qbq ((o3++[c5]),(vxs.wrap ((((o3.length+1):Nat):Int) - 1)))).bind (fun o6 =>
 some (.next (o6,(vxs.wrap (k4+1)))))
 else none)
 else
 some (.done o3)
def qkg (x1:List Int) (r2:List (List Int)) (k3:Int):(List Int×Int)→Option (LS (List Int×Int) (List Int)):=fun (c4,j5) =>
 (idx r2 k3).bind fun (x6:List Int) =>
 if j5 < (x6.length:Int) then
 (idx x6 j5).bind fun (x7:Int) =>
 (idx x1 x7).bind fun (x8:Int) =>
 if qao (c4.length+1) 8=true then
 some (.next ((c4++[x8]),(vxs.wrap (j5+1))))
 else none
 else
 some (.done c4)
def qkh:(List (List Int)×Int)→Option (LS (List (List Int)×Int) (List (List Int))):=fun (o1,j2) =>
 if j2 > 0 then
 (idx o1 j2).bind fun (x3:List Int) =>
 (x3[0]?).bind fun (x4:Int) =>
 (idx o1 (vxs.wrap (j2 - 1))).bind fun (x5:List Int) =>
 (x5[0]?).bind fun (x6:Int) =>
 if x4 < x6 then
 (idx (o1.set j2.toNat x5) (vxs.wrap (j2 - 1))).bind fun (x7:List Int) =>
 some (.next (((o1.set j2.toNat x5).set (vxs.wrap (j2 - 1)).toNat x3),(vxs.wrap (j2 - 1))))
 else
 some (.done o1)
 else
 some (.done o1)
def qki (x1:List Int) (r2:List (List Int)):(List (List Int)×Int)→Option (LS (List (List Int)×Int) (List (List Int))):=fun (o3,k4) =>
 if k4 < (r2.length:Int) then
 (qae (qkg x1 r2 k4) ([],0)).bind (fun c5 =>
 if qao (o3.length+1) 24=true then
 (qae qkh ((o3++[c5]),(vxs.wrap ((((o3.length+1):Nat):Int) - 1)))).bind (fun o6 =>
 some (.next (o6,(vxs.wrap (k4+1)))))
 else none)
 else
 some (.done o3)
def qdd (t1:Table) (l2:Linkage) (r3:List (List Int)):(List (List Int)×Int)→Option (LS (List (List Int)×Int) (List (List Int))):=fun (o4,i5) =>
 if i5 < (r3.length:Int) then
 (idx r3 i5).bind fun (x6:List Int) =>
 (qh3 t1 l2 x6).bind fun (r7:List Pair) =>
 (qgi (x6.length:Int) r7).bind fun (r8:List Int×Int) =>
 if (x6.length:Int)≤10 then
 (qes (x6.length:Int) r7).bind fun (r9:List Int×Int×Int) =>
 (qfj r9.1).bind fun (r10:List (List Int)) =>
 (qae (qcb x6 r10) (o4,0)).bind (fun o11 =>
 some (.next (o11,(vxs.wrap (i5+1)))))
 else
 (qfj r8.1).bind fun (r12:List (List Int)) =>
 (qae (qki x6 r12) (o4,0)).bind (fun o13 =>
 some (.next (o13,(vxs.wrap (i5+1)))))
 else
 some (.done o4)
def qf1 (t1:Table) (l2:Linkage):Option (List (List Int)) :=
 (qef t1 l2).bind fun (r3:List (List Int)) =>
 (qae (qdd t1 l2 r3) ([],0)).bind (fun o4 =>
 some o4)
def qcf (x1:Drossref03_Recipe) (d2:Drossref56_Draft):Option (Bool) :=
 (qec x1 d2).bind fun (r3:Table×Linkage×Bool) =>
 (show Option (Bool) from
 (qgb ).bind fun (r4:Bool) =>
 if r4=true then
 some (!r3.2.2)
 else
 some true).bind (fun t5 =>
 if t5=true then
 (qgb ).bind fun (r6:Bool) =>
 some r6
 else
 (qf9 r3.1 r3.2.1).bind fun (r7:List (List Int)×Int) =>
 if (r7.2 == 0)=true then
 (qiy r3.1 r7.1).bind fun (r8:Bool) =>
 if r8=true then
 (qf1 r3.1 r3.2.1).bind fun (r9:List (List Int)) =>
 (qev r7.1 r9).bind fun (r10:Bool) =>
 some r10
 else
 some false
 else
 some false)
def qc2 (l1:List Int):Int→Option (LS (Int) ((Unit) ⊕ (Bool))):=fun i2 =>
 if i2 < (l1.length:Int) then
 (idx l1 i2).bind fun (x3:Int) =>
 (idx l1 (vxs.wrap (i2 - 1))).bind fun (x4:Int) =>
 if x3≤x4 then
 some (.done (.inr false))
 else
 some (.next (vxs.wrap (i2+1)))
 else
 some (.done (.inl ()))
def qm8 (l1:List Int):Option (Bool) :=
 (qae (qc2 l1) 1).bind (fun o=>match o with
 | .inl () =>
 some (decide ((l1.length:Int) > 0))
 | .inr r2 =>
 some r2)
def qjp (l:List (List UInt8)):Option (List (List UInt8)):=if qao l.length 16=true then some l else none
def qeg (s1:List Int) (v2:Int):Int→Option (LS (Int) ((Unit) ⊕ (Int))):=fun t3 =>
 if t3 < (s1.length:Int) then
 (idx s1 t3).bind fun (x4:Int) =>
 if (v2 == x4)=true then
 some (.done (.inr t3))
 else
 some (.next (vxs.wrap (t3+1)))
 else
 some (.done (.inl ()))
def qkj (s1:List Int) (v2:Int):Option (Int) :=
 (qae (qeg s1 v2) 0).bind (fun o=>match o with
 | .inl () =>
 some (-1)
 | .inr r3 =>
 some r3)
def qir (s1:List Int) (v2:Int):Option (Bool) :=
 (qkj s1 v2).bind fun (r3:Int) =>
 some (decide (r3≥0))
def qm9 (l:List Value):Option (List Value):=if qao l.length 32=true then some l else none
def qp0 (r1:Row):Option (Row) :=
 (qm9 r1.Values).bind fun (r2:List Value) =>
 some (Row.mk r1.ID r2)
def qox (r1:List Row):(List Row×Int)→Option (LS (List Row×Int) (List Row)):=fun (o2,t3) =>
 if t3 < (r1.length:Int) then
 (idx r1 t3).bind fun (x4:Row) =>
 (qp0 x4).bind fun (r5:Row) =>
 if qao (o2.length+1) 32=true then
 some (.next ((o2++[r5]),(vxs.wrap (t3+1))))
 else none
 else
 some (.done o2)
def quq (t1:Table) (r2:List Row):Option (Table) :=
 (qjp t1.Attrs).bind fun (r3:List (List UInt8)) =>
 (qae (qox r2) ([],0)).bind (fun o4 =>
 some (Table.mk t1.Name r3 o4))
def qoy (t1:Table) (i2:List Int):(List Row×Int)→Option (LS (List Row×Int) (List Row)):=fun (r3,t4) =>
 if t4 < (t1.Rows.length:Int) then
 (idx t1.Rows t4).bind fun (x5:Row) =>
 (qir i2 x5.ID).bind fun (r6:Bool) =>
 if r6=true then
 if qao (r3.length+1) 32=true then
 some (.next ((r3++[x5]),(vxs.wrap (t4+1))))
 else none
 else
 some (.next (r3,(vxs.wrap (t4+1))))
 else
 some (.done r3)
def qzy (t1:Table) (i2:List Int):Option (Table) :=
 (qae (qoy t1 i2) ([],0)).bind (fun r3 =>
 (quq t1 r3).bind fun (r4:Table) =>
 some r4)
def qsb:(List (List Int)×Int)→Option (LS (List (List Int)×Int) (List (List Int))):=fun (l1,k2) =>
 if k2 > 0 then
 (idx l1 k2).bind fun (x3:List Int) =>
 (x3[0]?).bind fun (x4:Int) =>
 (idx l1 (vxs.wrap (k2 - 1))).bind fun (x5:List Int) =>
 (x5[0]?).bind fun (x6:Int) =>
 if x4 < x6 then
 (idx (l1.set k2.toNat x5) (vxs.wrap (k2 - 1))).bind fun (x7:List Int) =>
 some (.next (((l1.set k2.toNat x5).set (vxs.wrap (k2 - 1)).toNat x3),(vxs.wrap (k2 - 1))))
 else
 some (.done l1)
 else
 some (.done l1)
def qsc:(List (List Int)×Int)→Option (LS (List (List Int)×Int) (List (List Int))):=fun (l1,i2) =>
 if i2 < ((l1.length:Nat):Int) then
 (qae qsb (l1,i2)).bind (fun l3 =>
 some (.next (l3,(vxs.wrap (i2+1)))))
 else
 some (.done l1)
end Go.Proofs.YtmlegeeinnkhkaaGreat
namespace Go.Ab
open Go
def qvr {α β τ:Type} (f:β→α→β ⊕ τ) (fin:β→τ):List α→β→τ
 | [],b=>fin b
 | x :: r,b=>match f b x with
  | .inl b'=>qvr f fin r b'
  | .inr t=>t
theorem q7g {α β σ τ:Type} (l:List α) (S:β→Int→σ) (B:σ→Option (LS σ τ)) (f:β→α→β ⊕ τ) (fin:β→τ) (I:Nat→β→Prop)
  (hs:∀(k:Nat) b x,l[k]?=some x→I k b→(∀b',f b x=.inl b'→B (S b k)=some (.next (S b' (k+1:Nat)))∧I (k+1) b')∧(∀t,f b x=.inr t→B (S b k)=some (.done t)))
  (he:∀b,I l.length b→B (S b l.length)=some (.done (fin b))) :
  ∀(r:List α) (k:Nat) (b:β),l.drop k=r→k≤l.length→I k b→qae B (S b k)=some (qvr f fin r b):=by
 intro r
 induction r with
 | nil =>
  intro k b hd hk hI;have:k=l.length:=by
   have:=congrArg vx3 hd;simp at this;omega
  subst this;exact qad (he b hI)
 | cons x r ih =>
  intro k b hd hk hI;have hx:l[k]?=some x:=by
   have:=congrArg (·[0]?) hd;simpa [vt4] using this
  have hlt:k < l.length:=(vt7.1 hx).1;have hd':l.drop (k+1)=r:=by
   rw [←vxy,hd];rfl
  obtain ⟨h1,h2⟩:=hs k b x hx hI;cases hf:f b x with
  | inl b' =>
   obtain ⟨h3,h4⟩:=h1 b' hf;rw [qac h3,ih (k+1) b' hd' hlt h4];simp [qvr,hf]
  | inr t =>
   rw [qad (h2 t hf)];simp [qvr,hf]
theorem qqv {α β σ τ:Type} (l:List α) (S:β→Int→σ) (B:σ→Option (LS σ τ)) (f:β→α→β ⊕ τ) (fin:β→τ) (I:Nat→β→Prop) {b0:β} {s0:σ} (h0:s0=S b0 0) (hI:I 0 b0)
  (hs:∀(k:Nat) b x,l[k]?=some x→k < l.length→I k b→(∀b',f b x=.inl b'→B (S b k)=some (.next (S b' (k+1:Nat)))∧I (k+1) b')∧(∀t,f b x=.inr t→B (S b k)=some (.done t)))
  (he:∀b,I l.length b→B (S b l.length)=some (.done (fin b))):qae B s0=some (qvr f fin l b0):=by
 subst h0;exact q7g l S B f fin I (fun k b x hx=>hs k b x hx (qam hx)) he l 0 b0 rfl (vxc _) hI
theorem qbk {k n:Nat} (h:k < n) (hn:n≤4611686018427387904):vxs.wrap ((k:Int)+1)=((k+1:Nat):Int):=by
 rw [qav (by omega) (by omega)];omega
theorem qkk {k:Nat} (h:k < 4611686018427387904):vxs.wrap ((k:Int)+1)=((k+1:Nat):Int):=by
 rw [qav (by omega) (by omega)];omega
theorem wqn (k:Nat) (h:k < 4611686018427387904:=by omega):vxs.wrap ((k:Int)+1)=((k+1:Nat):Int):=qkk h
theorem vm3 (c:UInt8):vxs.wrap ((c.toNat:Nat):Int)=((c.toNat:Nat):Int):=by
 have:=c.toNat_lt;exact qav (by omega) (by omega)
theorem qlf {n b:Nat} (h:n≤1073741824) (hb:b≤65536):qao n b=true:=by
 unfold qao;have:n * b≤1073741824 * 65536:=Nat.mul_le_mul h hb;simp only [decide_eq_true_eq];omega
theorem qaa {α:Type} {l:List α} {k:Nat} {x:α} (h:l[k]?=some x):idx l (k:Int)=some x:=by rw [q6x,h]
theorem qaj {α:Type} {l:List α} {k:Nat} {x:α} (h:l[k]?=some x):((k:Int) < (l.length:Int)):=by have:=qam h;omega
theorem q1w {α β:Type} (g:β→α→β):∀(l:List α) (b:β),qvr (fun b x=>(Sum.inl (g b x):β ⊕ β)) id l b=l.foldl g b
 | [],_=>rfl
 | x :: r,b=>by simp only [qvr,vx1];exact q1w g r _
theorem q4q {α β τ:Type} (g:β→α→β) (fin:β→τ):∀(l:List α) (b:β),qvr (fun b x=>(Sum.inl (g b x):β ⊕ τ)) fin l b=fin (l.foldl g b)
 | [],_=>rfl
 | x :: r,b=>by simp only [qvr,vx1];exact q4q g fin r _
theorem qme {α ρ:Type} (l:List α) (B:Int→Option (LS Int (Unit ⊕ ρ))) (p:α→Bool) (bad:ρ)
  (h1:∀(k:Nat) x,l[k]?=some x→k < l.length→p x=true→B k=some (.next (k+1:Nat))) (h2:∀(k:Nat) x,l[k]?=some x→p x=false→B k=some (.done (.inr bad))) (h3:B l.length=some (.done (.inl ()))) :
  qae B 0=some (if l.all p then .inl () else .inr bad):=by
 have h:=qqv l (fun (_:Unit) i=>i) B (fun (_:Unit) x=>if p x then Sum.inl () else Sum.inr (Sum.inr bad)) (fun _=>Sum.inl ()) (fun _ _=>True) (b0:=()) (s0:=0) rfl trivial
  (fun k b x hx hk _=>by
   constructor
   ·intro b' hf;refine ⟨?_,trivial⟩;rcases vxi (p x) with hp | hp
    ·exact h1 k x hx hk hp
    ·simp [hp] at hf
   ·intro t hf;rcases vxi (p x) with hp | hp
    ·simp [hp] at hf
    ·simp [hp] at hf;subst hf;exact h2 k x hx hp)
  (fun b _=>h3)
 rw [h];congr 1;clear h h1 h2 h3
 induction l with
 | nil=>rfl
 | cons x r ih=>rcases vxi (p x) with hp | hp <;> simp [qvr,hp,ih]
theorem qj2 {α:Type} (l:List α) (B:Int→Option (LS Int (Unit ⊕ Int))) (p:α→Bool)
  (h1:∀(k:Nat) x,l[k]?=some x→k < l.length→p x=false→B k=some (.next (k+1:Nat))) (h2:∀(k:Nat) x,l[k]?=some x→p x=true→B k=some (.done (.inr k))) (h3:B l.length=some (.done (.inl ()))) :
  qae B 0=some (match l.findIdx? p with | some i=>.inr (i:Int) | none=>.inl ()):=by
 have key:∀(r:List α) (k:Nat),l.drop k=r→k≤l.length→qae B (k:Int)=some (match r.findIdx? p with | some i=>.inr ((k+i:Nat):Int) | none=>.inl ()):=by
  intro r
  induction r with
  | nil =>
   intro k hd hk;have:k=l.length:=by
    have:=congrArg vx3 hd;simp at this;omega
   subst this;exact qad h3
  | cons x r ih =>
   intro k hd hk;have hx:l[k]?=some x:=by
    have:=congrArg (·[0]?) hd;simpa [vt4] using this
   have hd':l.drop (k+1)=r:=by rw [←vxy,hd];rfl
   rcases vxi (p x) with hp | hp
   ·rw [qad (h2 k x hx hp)];simp [vx0,hp]
   ·rw [qac (h1 k x hx (qam hx) hp),ih (k+1) hd' (qam hx)];simp only [vx0,hp];cases r.findIdx? p with
    | none=>rfl
    | some i=>simp;omega
 have:=key l 0 (by simp) (vxc _);simpa using this
theorem qhq {α β σ τ:Type} (l:List α) (S:β→Int→σ) (B:σ→Option (LS σ τ)) (g:β→α→β) (fin:β→τ) (I:Nat→β→Prop) {b0:β} {s0:σ} (h0:s0=S b0 0) (hI:I 0 b0)
  (hs:∀(k:Nat) b x,l[k]?=some x→k < l.length→I k b→B (S b k)=some (.next (S (g b x) (k+1:Nat)))∧I (k+1) (g b x))
  (he:∀b,I l.length b→B (S b l.length)=some (.done (fin b))):qae B s0=some (fin (l.foldl g b0)):=by
 rw [qqv l S B (fun b x=>Sum.inl (g b x)) fin I h0 hI (fun k b x hx hk hi=>⟨fun b' hb=>by cases hb;exact hs k b x hx hk hi,fun t ht=>by cases ht⟩) he,q4q]
def okI (k:IntKind) (n:Int):Prop:=(Lit.int k n).wf=true
def okS (s:List UInt8):Prop:=s.length≤1048576
def okL {α:Type} (ok:α→Prop) (l:List α):Prop:=l.length≤1048576∧∀x∈l,ok x
def qe7 {α:Type} (p:Nat→α→Bool):Nat→List α→Bool
 | _,[]=>true
 | k,x :: r=>p k x && qe7 p (k+1) r
theorem qur {α ρ:Type} (l:List α) (B:Int→Option (LS Int (Unit ⊕ ρ))) (p:Nat→α→Bool) (bad:ρ)
  (h1:∀(k:Nat) x,l[k]?=some x→k < l.length→p k x=true→B k=some (.next (k+1:Nat))) (h2:∀(k:Nat) x,l[k]?=some x→p k x=false→B k=some (.done (.inr bad))) (h3:B l.length=some (.done (.inl ()))) :
  ∀(r:List α) (k:Nat),l.drop k=r→k≤l.length→qae B (k:Int)=some (if qe7 p k r then .inl () else .inr bad):=by
 intro r
 induction r with
 | nil =>
  intro k hd hk;have:k=l.length:=by
   have:=congrArg vx3 hd;simp at this;omega
  subst this;exact qad h3
 | cons x r ih =>
  intro k hd hk;have hx:l[k]?=some x:=by
   have:=congrArg (·[0]?) hd;simpa [vt4] using this
  have hd':l.drop (k+1)=r:=by rw [←vxy,hd];rfl
  rcases vxi (p k x) with hp | hp
  ·rw [qac (h1 k x hx (qam hx) hp),ih (k+1) hd' (qam hx)];simp [qe7,hp]
  ·rw [qad (h2 k x hx hp)];simp [qe7,hp]
theorem qw7 {α:Type} (q:α→Bool):∀(l:List α) (k:Nat),qe7 (fun _ x=>q x) k l=l.all q
 | [],_=>rfl
 | x :: r,k=>by simp [qe7,qw7 q r]
theorem qtk {α:Type} {p q:Nat→α→Bool}:∀(l:List α) (k:Nat),(∀j x,k≤j→x∈l→p j x=q j x)→qe7 p k l=qe7 q k l
 | [],_,_=>rfl
 | x :: r,k,h=>by
  simp only [qe7];rw [h k x (vvb _) (by simp),qtk r (k+1) (fun j y hj hy=>h j y (by omega) (by simp [hy]))]
theorem qn9 {n:Nat} (h:n≤17592186044416):qao n 8=true:=by
 unfold qao;simp only [decide_eq_true_eq];omega
end Go.Ab
namespace Go.Proofs.YtmlegeeinnkhkaaGreat
open Go Go.Ab
def qw8 (x:Value):Prop:=(okI .i64) x.Kind∧(okI .i64) x.Num∧okS x.Str
def qp1 (x:Similar):Prop:=(okI .i64) x.Attr∧(okI .i64) x.Measure∧(okI .i64) x.Limit
def vic (x:Row):Prop:=(okI .i64) x.ID∧(okL qw8) x.Values
def q4r (x:Linkage):Prop:=(okL (okL qp1)) x.Rules∧(okL (okI .i64)) x.Block∧(okL (okI .i64)) x.Survive
def qoz (x:Table):Prop:=okS x.Name∧(okL okS) x.Attrs∧(okL vic) x.Rows
def qvg (x:Arr2_int64):Prop:=(okI .i64) x.x0∧(okI .i64) x.x1
def qc3 (x:Drossref56_Test):Prop:=(okI .u8) x.Attr∧(okI .u8) x.Measure∧(okI .u8) x.Limit
def qbz (x:Drossref56_Draft):Prop:=(okL (okL qc3)) x.Rules∧(okI .u8) x.Block∧(okL (okI .u8)) x.Survive
def qf2 (x:Drossref03_Recipe):Prop:=(okI .u8) x.Attrs∧(okI .u8) x.Gap∧(okL (okL (okI .u8))) x.Rows
end Go.Proofs.YtmlegeeinnkhkaaGreat
namespace Go.Ab
def qcp:Nat→List Int→Nat→List (List Int)
 | 0,p,u=>[p]
 | k+1,p,u=>(vuv (u+1)).flatMap fun (c:Nat)=>qcp k (p++[(c:Int)]) (max u (c+1))
def qb0 (l:List Int):Nat:=l.foldl (fun m x=>max m (x.toNat+1)) 0
theorem qzz (l:List Int) (c:Nat):qb0 (l++[(c:Int)])=max (qb0 l) (c+1):=by simp [qb0]
theorem qp2:∀(k:Nat) (p:List Int) (u:Nat) (x:List Int),x∈qcp k p u→x.length=p.length+k∧x.take p.length=p
 | 0,p,u,x,h=>by
  simp only [qcp,List.mem_singleton] at h;subst h;simp
 | k+1,p,u,x,h=>by
  simp only [qcp,List.mem_flatMap] at h;obtain ⟨c,_,hx⟩:=h;obtain ⟨h1,h2⟩:=qp2 k _ _ x hx;simp only [vud,vwq] at h1 h2;refine ⟨by omega,?_⟩;have:=congrArg (List.take p.length) h2;rw [List.take_take,vw8 (by omega),List.take_left] at this;exact this
theorem q8u (k:Nat) (p:List Int) (u:Nat):qcp k p u≠[]:=by
 induction k generalizing p u with
 | zero=>simp [qcp]
 | succ k ih =>
  simp only [qcp,ne_eq,List.flatMap_eq_nil_iff,vw1];intro h;exact ih _ _ (h 0 (by omega))
theorem qz0:∀(k:Nat) (p:List Int) (u:Nat),u=qb0 p→qcp (k+1) p u=(qcp k p u).flatMap fun l=>(vuv (qb0 l+1)).map fun c=>l++[((c:Nat):Int)]
 | 0,p,u,hu=>by
  subst hu;simp only [qcp,List.flatMap_singleton];simp only [List.map_eq_flatMap]
 | k+1,p,u,hu=>by
  rw [qcp]
  conv=>rhs;rw [qcp]
  rw [List.flatMap_assoc];congr 1;funext c;exact qz0 k (p++[((c:Nat):Int)]) (max u (c+1)) (by rw [qzz,hu])
def qlh (cost:List Int→Int) (b:Option (List Int×Int)) (x:List Int):Option (List Int×Int) :=
 match b with
 | none=>some (x,cost x)
 | some (l,c)=>if cost x < c then some (x,cost x) else some (l,c)
theorem qw9 (cost:List Int→Int) (l:List Int) (c:Int):∀xs:List (List Int),(∀x∈xs,c≤cost x)→xs.foldl (qlh cost) (some (l,c))=some (l,c)
 | [],_=>rfl
 | x :: xs,h=>by
  have h0:=h x (by simp);simp only [vx1,qlh];rw [if_neg (by omega)];exact qw9 cost l c xs fun y hy=>h y (by simp [hy])
def qgs (w:Int) (t:Bool):Int:=if t then max (-w) 0 else max w 0
theorem vei (w:Int) (t:Bool):0≤qgs w t:=by unfold qgs;split <;> omega
def qqw (W:Nat→Nat→Int) (l:List Int) (c:Int) (k:Nat):Int:=((vuv k).map fun i=>qgs (W i k) (l.getD i 0 == c)).sum
def qfk (W:Nat→Nat→Int) (l:List Int) (v:Nat):Int:=((vuv v).map fun k=>qqw W l (l.getD k 0) k).sum
theorem vkb:∀l:List Int,(∀x∈l,0≤x)→0≤l.sum
 | [],_=>by simp
 | x :: l,h=>by
  have h1:=h x (by simp);have h2:=vkb l fun y hy=>h y (by simp [hy])
  simp only [List.sum_cons];omega
theorem qtl (l:List Int) (x:Int):(l++[x]).sum=l.sum+x:=by simp
theorem qxa (W:Nat→Nat→Int) (l:List Int) (c:Int) (k:Nat):0≤qqw W l c k:=by
 refine vkb _ fun x hx=>?_
 obtain ⟨i,_,rfl⟩:=vwz.1 hx;exact vei _ _
theorem qxb (W:Nat→Nat→Int) {l p:List Int} (c:Int) {k:Nat} (h:∀i,i < k→l.getD i 0=p.getD i 0):qqw W l c k=qqw W p c k:=by
 unfold qqw;congr 1;refine vws fun i hi=>?_
 rw [h i (vw1.1 hi)]
theorem ql2 (W:Nat→Nat→Int) (l:List Int) (v:Nat):qfk W l (v+1)=qfk W l v+qqw W l (l.getD v 0) v:=by
 unfold qfk;rw [vya,vuk,vx4,qtl]
theorem qus (W:Nat→Nat→Int) {l p:List Int}:∀{v:Nat},(∀i,i < v→l.getD i 0=p.getD i 0)→qfk W l v=qfk W p v
 | 0,_=>rfl
 | v+1,h=>by
  rw [ql2,ql2,qus W (v:=v) (fun i hi=>h i (by omega)),h v (by omega),qxb W _ (fun i hi=>h i (by omega))]
theorem qz1 (W:Nat→Nat→Int) (l:List Int):∀(k v:Nat),qfk W l v≤qfk W l (v+k)
 | 0,v=>by simp
 | k+1,v=>by
  have h1:=qz1 W l k v;have h2:=qxa W l (l.getD (v+k) 0) (v+k);rw [←Nat.add_assoc,ql2];omega
theorem q4s (W:Nat→Nat→Int) {x p:List Int} (h:x.take p.length=p) (n:Nat) (hn:p.length≤n):qfk W p p.length≤qfk W x n:=by
 have h1:qfk W x p.length=qfk W p p.length:=by
  refine qus W fun i hi=>?_
  have:p[i]?=x[i]?:=by rw [←h];rw [List.getElem?_take];rw [if_pos];rw [←h] at hi;simp at hi;omega
  simp only [vwd,this]
 have h2:=qz1 W x (n - p.length) p.length;rw [show p.length+(n - p.length)=n by omega] at h2;omega
theorem va4 (W:Nat→Nat→Int) (p:List Int) (c:Int):qfk W (p++[c]) (p.length+1)=qfk W p p.length+qqw W p c p.length:=by
 rw [ql2];have h1:∀i,i < p.length→(p++[c]).getD i 0=p.getD i 0:=by
  intro i hi;simp only [vwd,List.getElem?_append_left hi]
 rw [qus W h1,qxb W _ h1];congr 2;simp [vwd]
theorem q4t {l:List Int} {i:Nat} {x:Int} (h:l[i]?=some x):x.toNat < qb0 l:=by
 have key:∀(l:List Int) (m:Nat),(m≤l.foldl (fun m x=>max m (x.toNat+1)) m)∧∀x∈l,x.toNat < l.foldl (fun m x=>max m (x.toNat+1)) m:=by
  intro l
  induction l with
  | nil=>intro m;simp
  | cons y l ih =>
   intro m;simp only [vx1,vwv];obtain ⟨h1,h2⟩:=ih (max m (y.toNat+1));refine ⟨by omega,?_⟩;rintro x (rfl | hx)
   ·omega
   ·exact h2 x hx
 exact (key l 0).2 x (vup h)
def qkt (f:Nat→Nat→Int):List Nat→Int
 | []=>0
 | x :: r=>(r.map (f x)).sum+qkt f r
def qqx (f:Nat→Nat→Int) (a b:List Nat):Int:=(a.map fun x=>(b.map (f x)).sum).sum
theorem q1x (f:Nat→Nat→Int) (x:Nat) (a b:List Nat):qqx f (x :: a) b=(b.map (f x)).sum+qqx f a b:=by simp [qqx]
theorem qxc (a b:List Int):(a++b).sum=a.sum+b.sum:=by simp
theorem qrt (f:Nat→Nat→Int) (b:List Nat):∀a,qkt f (a++b)=qkt f a+qkt f b+qqx f a b
 | []=>by simp [qkt,qqx]
 | x :: a=>by
  simp only [vwa,qkt,qrt f b a,q1x,vuk,qxc];omega
theorem q4u (f:Nat→Nat→Int) (l:List Nat) (x:Nat):qkt f (l++[x])=qkt f l+(l.map fun i=>f i x).sum:=by
 rw [qrt];simp only [qkt,List.map_nil,List.sum_nil,qqx,List.map_cons,List.sum_cons,Int.add_zero,Int.zero_add]
theorem qxd (W:Nat→Nat→Int) (l:List Int):∀n:Nat,qfk W l n=qkt (fun i k=>qgs (W i k) (l.getD i 0 == l.getD k 0)) (vuv n)
 | 0=>rfl
 | n+1=>by
  rw [ql2,vya,q4u,qxd W l n];rfl
inductive Rch (R:Nat→Nat→Prop) (v:Nat):Nat→Prop
 | refl:Rch R v v
 | step {x y:Nat}:Rch R v x→R x y→Rch R v y
theorem Rch.trans {R:Nat→Nat→Prop} {a b c:Nat} (h:Rch R a b) (h2:Rch R b c):Rch R a c:=by
 induction h2 with
 | refl=>exact h
 | step _ hr ih=>exact ih.step hr
theorem Rch.symm {R:Nat→Nat→Prop} (hs:∀x y,R x y→R y x) {a b:Nat} (h:Rch R a b):Rch R b a:=by
 induction h with
 | refl=>exact .refl
 | step _ hr ih=>exact (Rch.step .refl (hs _ _ hr)).trans ih
theorem Rch.closed {R:Nat→Nat→Prop} {S:Nat→Prop} {v x:Nat} (h:Rch R v x) (h0:S v) (hs:∀x y,S x→R x y→S y):S x:=by
 induction h with
 | refl=>exact h0
 | step _ hr ih=>exact hs _ _ ih hr
open Classical in
def qjq (R:Nat→Nat→Prop) (n v:Nat):List Nat:=(vuv n).filter fun x=>decide (Rch R v x)
open Classical in
def qmf (R:Nat→Nat→Prop) (n:Nat):List Nat:=(vuv n).filter fun v=>decide (∀u,u < v→¬Rch R u v)
def qcw (R:Nat→Nat→Prop) (n:Nat):List (List Nat):=(qmf R n).map (qjq R n)
theorem qis {R:Nat→Nat→Prop} {n v x:Nat}:x∈qjq R n v↔x < n∧Rch R v x:=by simp [qjq]
theorem qxe (R:Nat→Nat→Prop) (n v:Nat):(qjq R n v).Pairwise (· < ·):=vx8.filter _
theorem qqy {R:Nat→Nat→Prop} {n v:Nat}:v∈qmf R n↔v < n∧∀u,u < v→¬Rch R u v:=by simp [qmf]
theorem vm4 {R:Nat→Nat→Prop} (n:Nat):∀x,x < n→∃v∈qmf R n,Rch R v x:=by
 intro x
 induction x using vw9 with
 | _ x ih =>
  intro hx;by_cases h:∀u,u < x→¬Rch R u x
  ·exact ⟨x,qqy.2 ⟨hx,h⟩,.refl⟩
  ·simp only [Classical.not_forall,Classical.not_not] at h;obtain ⟨u,hu,hr⟩:=h;obtain ⟨v,hv,hvr⟩:=ih u hu (by omega);exact ⟨v,hv,hvr.trans hr⟩
theorem vid {R:Nat→Nat→Prop} (hs:∀x y,R x y→R y x) {n v w x:Nat} (hv:v∈qmf R n) (hw:w∈qmf R n) (h1:Rch R v x) (h2:Rch R w x):v=w:=by
 have h:=h1.trans (h2.symm hs);have h':=h.symm hs;rcases Nat.lt_trichotomy v w with hlt | rfl | hlt
 ·exact absurd h ((qqy.1 hw).2 v hlt)
 ·rfl
 ·exact absurd h' ((qqy.1 hv).2 w hlt)
theorem qut {a b:List Nat} (ha:a.Nodup) (hb:b.Nodup) (h:∀x,x∈a↔x∈b):a.Perm b:=(List.perm_ext_iff_of_nodup ha hb).2 h
theorem q7h {R:Nat→Nat→Prop} (hs:∀x y,R x y→R y x) (n:Nat):(qcw R n).flatten.Perm (vuv n):=by
 refine qut ?_ List.nodup_range ?_
 ·unfold List.Nodup;rw [List.pairwise_flatten];refine ⟨?_,?_⟩
  ·intro l hl;obtain ⟨v,_,rfl⟩:=vwz.1 hl;exact (qxe R n v).imp fun h=>Nat.ne_of_lt h
  ·unfold qcw;rw [List.pairwise_map];have hh:(qmf R n).Pairwise (·≠·):=(vx8.filter _).imp fun h=>Nat.ne_of_lt h
   refine (vx7.2 ?_);intro a b hab x hxa y hxb hxy;subst hxy;have hne:=(vx7.1 hh) hab;have ha:a∈qmf R n:=hab.subset (by simp);have hb:b∈qmf R n:=hab.subset (by simp);exact hne (vid hs ha hb (qis.1 hxa).2 (qis.1 hxb).2)
 ·intro x;rw [vw1,List.mem_flatten];constructor
  ·rintro ⟨l,hl,hx⟩;obtain ⟨v,_,rfl⟩:=vwz.1 hl;exact (qis.1 hx).1
  ·intro hx;obtain ⟨v,hv,hr⟩:=vm4 (R:=R) n x hx;exact ⟨_,vwz.2 ⟨v,hv,rfl⟩,qis.2 ⟨hx,hr⟩⟩
theorem qz2 (cost:List Int→Int):∀(xs:List (List Int)) (b:Option (List Int×Int)) (l:List Int) (c:Int),xs.foldl (qlh cost) b=some (l,c) →
  ((l∈xs∧c=cost l)∨b=some (l,c))∧(∀x∈xs,c≤cost x)∧(∀l' c',b=some (l',c')→c≤c')
 | [],b,l,c,e=>by
  simp only [List.foldl_nil] at e;exact ⟨.inr e,by simp,fun l' c' h=>by rw [e] at h;cases h;exact Int.le_refl _⟩
 | x :: xs,b,l,c,e=>by
  simp only [vx1] at e;obtain ⟨h1,h2,h3⟩:=qz2 cost xs _ l c e;cases b with
  | none =>
   have hx:=h3 x (cost x) rfl;refine ⟨.inl ?_,?_,by simp⟩
   ·rcases h1 with ⟨h,h'⟩ | h
    ·exact ⟨vww _ h,h'⟩
    ·simp only [qlh,vvt,Prod.mk.injEq] at h;exact ⟨by rw [←h.1];exact vwx,by rw [←h.1,h.2]⟩
   ·intro y hy;rcases vwv.1 hy with rfl | hy
    ·exact hx
    ·exact h2 y hy
  | some q =>
   obtain ⟨l0,c0⟩:=q;simp only [qlh] at h1 h3;by_cases hc:cost x < c0
   ·simp only [if_pos hc] at h1 h3;have hx:=h3 x (cost x) rfl;refine ⟨.inl ?_,?_,?_⟩
    ·rcases h1 with ⟨h,h'⟩ | h
     ·exact ⟨vww _ h,h'⟩
     ·simp only [vvt,Prod.mk.injEq] at h;exact ⟨by rw [←h.1];exact vwx,by rw [←h.1,h.2]⟩
    ·intro y hy;rcases vwv.1 hy with rfl | hy
     ·exact hx
     ·exact h2 y hy
    ·intro l' c' h;cases h;omega
   ·simp only [if_neg hc] at h1 h3;have hx:=h3 l0 c0 rfl;refine ⟨?_,?_,?_⟩
    ·rcases h1 with ⟨h,h'⟩ | h
     ·exact .inl ⟨vww _ h,h'⟩
     ·exact .inr h
    ·intro y hy;rcases vwv.1 hy with rfl | hy
     ·omega
     ·exact h2 y hy
    ·intro l' c' h;cases h;exact hx
def vgm (W:Nat→Nat→Int) (n:Nat):Option (List Int×Int):=(qcp n [] 0).foldl (qlh fun x=>qfk W x n) none
theorem qsd (cost:List Int→Int):∀(xs:List (List Int)) (q:List Int×Int),∃r,xs.foldl (qlh cost) (some q)=some r
 | [],q=>⟨q,rfl⟩
 | x :: xs,q=>by
  simp only [vx1,qlh];split
  ·exact qsd cost xs _
  ·exact qsd cost xs _
theorem qxf (W:Nat→Nat→Int) (n:Nat):∃l c,vgm W n=some (l,c)∧l∈qcp n [] 0∧c=qfk W l n∧∀x∈qcp n [] 0,c≤qfk W x n:=by
 have hne:=q8u n [] 0;unfold vgm;cases hx:qcp n [] 0 with
 | nil=>exact absurd hx hne
 | cons x xs =>
  obtain ⟨⟨l,c⟩,hr⟩:=qsd (fun x=>qfk W x n) xs (x,qfk W x n);have hr':(x :: xs).foldl (qlh fun x=>qfk W x n) none=some (l,c):=hr;obtain ⟨h1,h2,h3⟩:=qz2 _ _ _ l c hr';rcases h1 with ⟨h,h'⟩ | h
  ·exact ⟨l,c,hr',h,h',h2⟩
  ·cases h
theorem q1y (C:List Nat):C=(vuv C.length).map fun i=>C.getD i 0:=by
 refine vtz fun i=>?_
 simp only [vt8,vwd];by_cases h:i < C.length
 ·simp [vx2 h,h]
 ·simp [h]
def qk3 (W:Nat→Nat→Int) (C:List Nat) (i k:Nat):Int:=W (C.getD i 0) (C.getD k 0)
end Go.Ab
namespace Go.Proofs.YtmlegeeinnkhkaaGreat
open Go Go.Ab
def qie (v:Value):Bool:=decide ((v.Kind=0∧v.Num=0∧v.Str=[])∨(v.Kind=1∧v.Str=[])∨(v.Kind=2∧v.Num=0∧v.Str.length≤200)∨(v.Kind=3∧1≤v.Num∧v.Str=[]))
theorem qnl (v:Value):qjo v=some (qie v):=by
 simp only [qjo,qie]
 repeat' split
 all_goals simp_all
 all_goals (try omega)
 all_goals (try (rw [vxj];simp <;> omega))
theorem q4v (v:Value):qgc v=some (qie v):=by
 simp only [qgc,qie]
 repeat' split
 all_goals simp_all
 all_goals (try omega)
 all_goals (try (rw [vxj];simp <;> omega))
def sgn (a b:Int):Int:=if a < b then -1 else if b < a then 1 else 0
theorem qo0 (a b:Int):qda a b=some (sgn a b):=by
 simp only [qda,sgn];split <;> (try split) <;> simp_all
theorem qvh (a b:Int):qhd a b=some (sgn a b):=by
 simp only [qhd,qih,sgn];simp;split <;> (try split) <;> simp_all
def qse:List UInt8→List UInt8→Int
 | [],[]=>0
 | [],_ :: _=>-1
 | _ :: _,[]=>1
 | a :: x,b :: y=>if a=b then qse x y else sgn a.toNat b.toNat
theorem qp3:∀a b:List UInt8,vxv a b=qse a b
 | [],[]=>rfl
 | [],_ :: _=>rfl
 | _ :: _,[]=>rfl
 | x :: a,y :: b=>by
  simp only [vxv,qse,sgn,qp3 a b,UInt8.lt_iff_toNat_lt,←UInt8.toNat_inj];split <;> split <;> (try split) <;> (try split) <;> omega
theorem qtm (a b:List UInt8):qif a b=some (qse a b):=by
 simp [qif,qgj,qp3]
theorem vkc {a b:Int} (h:a≠b):sgn a b≠0:=by
 unfold sgn;split <;> (try split) <;> omega
theorem vie (a:Int):sgn a a=0:=by unfold sgn;simp
theorem q4w (a b:List UInt8) (ha:a.length≤1073741824):∀(r:List UInt8) (k:Nat),a.drop k=r→k≤a.length→k≤b.length→
  (∃o,qae (qbb a b) (k:Int)=some o∧(match o with | .inl ()=>sgn (r.length) ((b.drop k).length)=qse r (b.drop k) | .inr z=>z=qse r (b.drop k))):=by
 intro r
 induction r with
 | nil =>
  intro k hd hk hkb;have hk':k=a.length:=by
   have:=congrArg vx3 hd;simp at this;omega
  subst hk';refine ⟨.inl (),qad (by simp [qbb]),?_⟩;cases hb:b.drop a.length with
  | nil=>rfl
  | cons y s=>simp [qse,sgn]
 | cons x r ih =>
  intro k hd hk hkb;have hx:a[k]?=some x:=by
   have:=congrArg (·[0]?) hd;simpa [vt4] using this
  have hd':a.drop (k+1)=r:=by rw [←vxy,hd];rfl
  have hlt:=qam hx;cases hb:b.drop k with
  | nil =>
   have hkb':k=b.length:=by
    have:=congrArg vx3 hb;simp at this;omega
   subst hkb';refine ⟨.inl (),qad (by simp [qbb]),?_⟩;simp [qse,sgn];omega
  | cons y s =>
   have hy:b[k]?=some y:=by
    have:=congrArg (·[0]?) hb;simpa [vt4] using this
   have hb':b.drop (k+1)=s:=by rw [←vxy,hb];rfl
   by_cases hxy:x=y
   ·subst hxy;have h1:qbb a b (k:Int)=some (.next ((k+1:Nat):Int)):=by
     simp [qbb,qaj hx,qaj hy,qaa hx,qaa hy,qbk hlt (by omega)]
    obtain ⟨o,h2,h3⟩:=ih (k+1) hd' hlt (qam hy);refine ⟨o,by rw [qac h1];exact h2,?_⟩;rw [hb'] at h3;cases o with
    | inl u =>
     simp only at h3 ⊢;rw [qse,if_pos rfl,←h3];simp only [vwl,sgn];split <;> split <;> (try split) <;> (try split) <;> omega
    | inr z =>
     simp only at h3 ⊢;rw [qse,if_pos rfl,←h3]
   ·have hne:(((x.toNat:Nat):Int) != ((y.toNat:Nat):Int))=true:=by
     simp only [bne_iff_ne,ne_eq,vxm,UInt8.toNat_inj];exact hxy
    refine ⟨.inr (sgn x.toNat y.toNat),qad ?_,?_⟩
    ·simp only [qbb,if_pos (qaj hx),if_pos (qaj hy),qaa hx,qaa hy,vvn,if_pos hne,vm3,qo0]
    ·simp only [qse,if_neg hxy]
theorem qyu (a b:List UInt8) (ha:a.length≤1073741824):qgr a b=some (qse a b):=by
 obtain ⟨o,h1,h2⟩:=q4w a b ha a 0 (by simp) (vxc _) (vxc _);simp only [qgr];have h1':qae (qbb a b) 0=some o:=h1;rw [h1'];cases o with
 | inl u =>
  simp only [vxz] at h2;simp [qo0,h2]
 | inr z =>
  simp only [vxz] at h2;simp [h2]
def qz3 (a b:Value):Int:=if sgn a.Kind b.Kind≠0 then sgn a.Kind b.Kind else if sgn a.Num b.Num≠0 then sgn a.Num b.Num else qse a.Str b.Str
theorem qnm (a b:Value) (ha:a.Str.length≤1073741824):qdb a b=some (qz3 a b):=by
 simp only [qdb,qo0,qyu _ _ ha,qz3,vvn];split <;> (try split) <;> (try split) <;> simp_all
theorem vej:∀a b:List UInt8,qse a b=0↔a=b
 | [],[]=>by simp [qse]
 | [],_ :: _=>by simp [qse]
 | _ :: _,[]=>by simp [qse]
 | x :: a,y :: b=>by
  simp only [qse];by_cases h:x=y
  ·subst h;simp [vej a b]
  ·have:sgn x.toNat y.toNat≠0:=vkc (by simpa [vxm,UInt8.toNat_inj] using h);simp [h,this]
theorem qqz (a b:Int):sgn a b=0↔a=b:=by
 unfold sgn;split <;> (try split) <;> omega
theorem qsf (a b:Value):qz3 a b=0↔a=b:=by
 unfold qz3;cases a;cases b;simp only [Value.mk.injEq];split
 ·rename_i h;simp only [ne_eq,qqz] at h;simp [qqz,h]
 ·rename_i h;simp only [ne_eq,qqz,Decidable.not_not] at h;split
  ·rename_i h2;simp only [ne_eq,qqz] at h2;simp [qqz,h2]
  ·rename_i h2;simp only [ne_eq,qqz,Decidable.not_not] at h2;simp [vej,h,h2]
def veq (a b:Value):Bool:=(a.Kind == b.Kind) && ((a.Num == b.Num) && (a.Str == b.Str))
def vek:List Row→Int
 | []=>12
 | r :: l=>if (r :: l).all (fun x=>x.Values.length == r.Values.length) then 0 else 6
theorem qtn (l:List Value) (f:Value→Option Bool) (p:Value→Bool) (hf:∀x∈l,f x=some (p x)) (hl:l.length≤1073741824):qdr l f=some (match l.findIdx? p with | some i=>(i:Int) | none=>-1):=by
 have h:=qj2 l (qbu l f) p
  (fun k x hx hk hp=>by simp [qbu,qaj hx,qaa hx,hf x (vup hx),hp,qbk hk (by omega)])
  (fun k x hx hp=>by simp [qbu,qaj hx,qaa hx,hf x (vup hx),hp])
  (by simp [qbu])
 simp only [qdr,h,vvn];cases l.findIdx? p <;> rfl
theorem qxg {α:Type} (p:α→Bool) (l:List α):decide ((match l.findIdx? p with | some i=>((i:Nat):Int) | none=>-1)≥0)=l.any p:=by
 cases h:l.findIdx? p with
 | none =>
  rw [List.findIdx?_eq_none_iff] at h;have:l.any p=false:=by rw [List.any_eq_false];intro x hx;simp [h x hx]
  rw [this];rfl
 | some i =>
  have:l.any p=true:=by
   rw [List.findIdx?_eq_some_iff_getElem] at h;obtain ⟨hi,hp,_⟩:=h;rw [List.any_eq_true];exact ⟨_,List.getElem_mem hi,hp⟩
  rw [this];simp
theorem qp4 (l:List Value) (f:Value→Option Bool) (p:Value→Bool) (hf:∀x∈l,f x=some (p x)) (hl:l.length≤1073741824):qcu l f=some (l.any p):=by
 simp only [qcu,qtn l f p hf hl,vvn,qxg]
def vkd:Int→List Row→Bool
 | _,[]=>true
 | a,r :: l=>decide (a < r.ID) && r.Values.all qie && vkd r.ID l
theorem vr9 (a b:Int):sgn a b < 0↔a < b:=by unfold sgn;split <;> (try split) <;> omega
theorem vm5 (a b:Int):sgn b a=- sgn a b:=by unfold sgn;split <;> (try split) <;> (try split) <;> omega
theorem q8v:∀a b:List UInt8,qse b a=- qse a b
 | [],[]=>rfl
 | [],_ :: _=>rfl
 | _ :: _,[]=>rfl
 | x :: a,y :: b=>by
  simp only [qse];by_cases h:x=y
  ·subst h;simp [q8v a b]
  ·have h':¬y=x:=fun e=>h e.symm
   simp only [if_neg h,if_neg h'];exact vm5 _ _
theorem vel (a:Value):qz3 a a=0:=(qsf a a).2 rfl
def vm6 (cnt:Value→Int) (rule:Int) (v b:Value):Bool :=
 if rule=2 then decide (cnt v > cnt b) else if rule=3 then decide (v.Kind=2) && (decide (b.Kind≠2) || decide ((v.Str.length:Int) > b.Str.length))
 else if rule=4 then decide (qz3 v b < 0) else if rule=5 then decide (qz3 v b > 0) else false
def qf3 (r:Row) (a:Nat):Value:=r.Values.getD a ⟨0,0,[]⟩
def vsa (rows:List Row):Prop:=∀r∈rows,∀v∈r.Values,v.Str.length≤1073741824
def pickF {β:Type} (B:Value→Value→Bool) (o:Value×β) (x:Value×β):Value×β:=if B x.1 o.1 then x else o
def nn (rows:List Row) (a:Nat):List Row:=rows.filter fun r=>(qf3 r a).Kind != 0
def vke (rows:List Row) (a:Nat) (rule:Int):Value×Int :=
 match nn rows a with
 | []=>(⟨0,0,[]⟩,(rows[0]?.map (·.ID)).getD 0)
 | r :: l=>(l.map fun x=>(qf3 x a,x.ID)).foldl (pickF (vm6 (fun x=>(((rows.map (qf3 · a)).countP (veq · x):Nat):Int)) rule)) (qf3 r a,r.ID)
def choice (rows:List Row) (attr rule:Int):Value×Int×Int :=
 if vek rows≠0 then (⟨0,0,[]⟩,0,vek rows)
 else if attr < 0∨((rows[0]?.map (·.Values.length)).getD 0:Nat)≤attr then (⟨0,0,[]⟩,0,6)
 else if vkd 0 rows=false∨rule < 1∨5 < rule then (⟨0,0,[]⟩,0,1)
 else ((vke rows attr.toNat rule).1,(vke rows attr.toNat rule).2,0)
theorem vsb (a b:List Int) (ha:a.length≤1073741824):qje a b=some (decide (a=b)):=by
 simp only [qje];by_cases hl:a.length=b.length
 ·have hn:¬(((a.length:Int) != (b.length:Int))=true):=by simp;omega
  rw [if_neg hn];have key:∀(r:List Int) (k:Nat),a.drop k=r→k≤a.length→qae (qff a b) (k:Int)=some (if r=b.drop k then .inl () else .inr false):=by
   intro r
   induction r with
   | nil =>
    intro k hd hk;have:k=a.length:=by
     have:=congrArg vx3 hd;simp at this;omega
    subst this;have:b.drop a.length=[]:=by rw [hl];simp
    rw [this];exact qad (by simp [qff])
   | cons x r ih =>
    intro k hd hk;have hx:a[k]?=some x:=by
     have:=congrArg (·[0]?) hd;simpa [vt4] using this
    have hd':a.drop (k+1)=r:=by rw [←vxy,hd];rfl
    have hlt:=qam hx;obtain ⟨y,hy⟩:∃y,b[k]?=some y:=⟨_,vt5 (by omega)⟩;have hb:b.drop k=y :: b.drop (k+1):=by
     rw [vtv (by omega)];congr 1;exact (vt7.1 hy).2
    rw [hb];by_cases hxy:x=y
    ·subst hxy;rw [qac (s':=((k+1:Nat):Int)) (by simp [qff,qaj hx,qaa hx,qaa hy,qbk hlt (by omega)]),ih (k+1) hd' hlt];simp
    ·rw [qad (t:=.inr false) (by simp [qff,qaj hx,qaa hx,qaa hy,hxy])];simp [hxy]
  have h0:=key a 0 (by simp) (vxc _);simp only [vxz,vxn] at h0;rw [h0];by_cases hab:a=b <;> simp [hab]
 ·have hn:(((a.length:Int) != (b.length:Int))=true):=by simp;omega
  rw [if_pos hn];have:a≠b:=fun e=>hl (by rw [e])
  simp [this]
def q7i:List Value→List Value→Int
 | [],[]=>0
 | [],_ :: _=>-1
 | _ :: _,[]=>1
 | a :: x,b :: y=>if qz3 a b≠0 then qz3 a b else q7i x y
theorem vem:∀a b:List Value,q7i a b=0↔a=b
 | [],[]=>by simp [q7i]
 | [],_ :: _=>by simp [q7i]
 | _ :: _,[]=>by simp [q7i]
 | x :: a,y :: b=>by
  simp only [q7i];by_cases h:x=y
  ·subst h;simp [vel,vem a b]
  ·have:qz3 x y≠0:=fun e=>h ((qsf _ _).1 e)
   simp [h,this]
theorem va5 (a b:List Value) (ha:a.length≤1073741824) (hs:∀v∈a,v.Str.length≤1073741824):∀(r:List Value) (k:Nat),a.drop k=r→k≤a.length→k≤b.length →
  (∃o,qae (qbp a b) (k:Int)=some o∧(match o with | .inl ()=>sgn (r.length) ((b.drop k).length)=q7i r (b.drop k) | .inr z=>z=q7i r (b.drop k))):=by
 intro r
 induction r with
 | nil =>
  intro k hd hk hkb;have hk':k=a.length:=by
   have:=congrArg vx3 hd;simp at this;omega
  subst hk';refine ⟨.inl (),qad (by simp [qbp]),?_⟩;cases hb:b.drop a.length with
  | nil=>rfl
  | cons y s=>simp [q7i,sgn]
 | cons x r ih =>
  intro k hd hk hkb;have hx:a[k]?=some x:=by
   have:=congrArg (·[0]?) hd;simpa [vt4] using this
  have hd':a.drop (k+1)=r:=by rw [←vxy,hd];rfl
  have hlt:=qam hx;have hsx:=hs x (vup hx);cases hb:b.drop k with
  | nil =>
   have hkb':k=b.length:=by
    have:=congrArg vx3 hb;simp at this;omega
   subst hkb';refine ⟨.inl (),qad (by simp [qbp]),?_⟩;simp [q7i,sgn];omega
  | cons y s =>
   have hy:b[k]?=some y:=by
    have:=congrArg (·[0]?) hb;simpa [vt4] using this
   have hb':b.drop (k+1)=s:=by rw [←vxy,hb];rfl
   by_cases hxy:qz3 x y=0
   ·have h1:qbp a b (k:Int)=some (.next ((k+1:Nat):Int)):=by
     simp [qbp,qaj hx,qaj hy,qaa hx,qaa hy,qbk hlt (by omega),qnm _ _ hsx,hxy]
    obtain ⟨o,h2,h3⟩:=ih (k+1) hd' hlt (qam hy);refine ⟨o,by rw [qac h1];exact h2,?_⟩;rw [hb'] at h3;have hl:q7i (x :: r) (y :: s)=q7i r s:=by simp [q7i,hxy]
    rw [hl];cases o with
    | inl u =>
     simp only at h3 ⊢;rw [←h3];simp only [vwl,sgn];split <;> split <;> (try split) <;> (try split) <;> omega
    | inr z=>exact h3
   ·refine ⟨.inr (qz3 x y),qad ?_,?_⟩
    ·simp [qbp,qaj hx,qaj hy,qaa hx,qaa hy,qnm _ _ hsx,hxy]
    ·simp [q7i,hxy]
theorem vif (a b:List Value) (ha:a.length≤1073741824) (hs:∀v∈a,v.Str.length≤1073741824):qh2 a b=some (q7i a b):=by
 obtain ⟨o,h1,h2⟩:=va5 a b ha hs a 0 (by simp) (vxc _) (vxc _);simp only [qh2];have h1':qae (qbp a b) 0=some o:=h1;rw [h1'];cases o with
 | inl u =>
  simp only [vxz] at h2;simp [qo0,h2]
 | inr z =>
  simp only [vxz] at h2;simp [h2]
theorem vm7 (a b:List Value) (ha:a.length≤1073741824) (hs:∀v∈a,v.Str.length≤1073741824):qim a b=some (decide (a=b)):=by
 simp only [qim,vif a b ha hs,vvn];congr 1;rw [vxj];simp [vem]
theorem q7j {α:Type} (p:α→Bool) (l:List α):(l.any fun x=>!p x)=!l.all p:=by simp [List.all_eq_not_any_not]
def qru (c:Int):Bool:=(decide (97≤c) && decide (c≤122)) || ((decide (65≤c) && decide (c≤90)) || c == 95)
theorem q4x (c : Int) : (show Option Bool from
            if c ≥ 97 then
              if c ≤ 122 then some true
              else if c ≥ 65 then if c ≤ 90 then some true else some (c == 95) else some (c == 95)
            else if c ≥ 65 then if c ≤ 90 then some true else some (c == 95) else some (c == 95)) = some (qru c) := by
  simp only [qru]
  by_cases h1 : 97 ≤ c <;> by_cases h2 : c ≤ 122 <;> by_cases h3 : 65 ≤ c <;> by_cases h4 : c ≤ 90 <;> simp [h1, h2, h3, h4]
def lod (c:UInt8):Bool:=qru c.toNat || (decide (48≤(c.toNat:Int)) && decide ((c.toNat:Int)≤57))
def qvs:List UInt8→Bool
 | []=>false
 | c :: r=>decide (r.length < 24) && qru c.toNat && !((c :: r) == [110,117,108,108]) && r.all lod
theorem qxh (s:List UInt8):qj1 s=some (qvs s):=by
 cases s with
 | nil=>rfl
 | cons c r =>
  have hn:¬(((c :: r) == [])=true):=by simp
  simp only [qj1,if_neg hn];by_cases h24:((c :: r).length:Int) > 24
  ·have:¬r.length < 24:=by simp at h24;omega
   rw [if_pos h24];simp [qvs,this]
  ·have h24':r.length < 24:=by simp at h24;omega
   rw [if_neg h24];by_cases hnull:((c :: r) == [110,117,108,108])=true
   ·simp only [hnull,if_true,qvs];simp
   ·simp only [vxk] at hnull;have hlet:∀x:UInt8,(show Option Bool from
      if ((x.toNat:Nat):Int)≥97 then
       if ((x.toNat:Nat):Int)≤122 then some true
       else if ((x.toNat:Nat):Int)≥65 then if ((x.toNat:Nat):Int)≤90 then some true else some (((x.toNat:Nat):Int) == 95) else some (((x.toNat:Nat):Int) == 95)
      else if ((x.toNat:Nat):Int)≥65 then if ((x.toNat:Nat):Int)≤90 then some true else some (((x.toNat:Nat):Int) == 95) else some (((x.toNat:Nat):Int) == 95))=some (qru x.toNat):=fun x=>q4x x.toNat
    have h:=qur (c :: r) (qg6 (c :: r)) (fun k x=>qru x.toNat || (decide (k≠0) && (decide (48≤(x.toNat:Int)) && decide ((x.toNat:Int)≤57)))) false
     (fun k x hx hk hp=>by
      simp only [qg6,if_pos (qaj hx),qaa hx,vvn,hlet,qbk hk (by simp;omega)];by_cases hx1:qru x.toNat=true
      ·simp [hx1]
      ·simp only [vxk] at hx1;simp only [hx1,Bool.false_or,vti,decide_eq_true_eq] at hp;have e0:¬(((k:Int) == 0)=true):=by simp;omega
       have e1:¬(x.toNat:Int) < 48:=by omega
       have e2:¬(x.toNat:Int) > 57:=by omega
       simp [hx1,e0,e1,e2])
     (fun k x hx hp=>by
      simp only [qg6,if_pos (qaj hx),qaa hx,vvn,hlet];simp only [Bool.or_eq_false_iff,Bool.and_eq_false_iff,decide_eq_false_iff_not] at hp;simp only [hp.1,vtk,if_false];by_cases e0:k=0
      ·simp [e0]
      ·have e0':¬(((k:Int) == 0)=true):=by simp;omega
       by_cases e1:(x.toNat:Int) < 48
       ·simp [e1]
       ·have e2:(x.toNat:Int) > 57:=by
         rcases hp.2 with h | h | h
         ·exact absurd e0 h
         ·omega
         ·omega
        simp [e1,e2])
     (by simp [qg6]) (c :: r) 0 rfl (vxc _)
    simp only [vxn] at h;simp only [hnull,vtk,if_false,h,vvn];have e:qe7 (fun k x=>qru x.toNat || (decide (k≠0) && (decide (48≤(x.toNat:Int)) && decide ((x.toNat:Int)≤57)))) 0 (c :: r)=(qru c.toNat && r.all lod):=by
     simp only [qe7];rw [qtk (q:=fun _ x=>lod x) r 1 (fun j x hj _=>by
      have hj0:j≠0:=by omega
      simp [lod,hj0]),qw7]
     simp
    rw [e];simp only [qvs,h24',decide_true,Bool.true_and,hnull,Bool.not_false,Bool.and_true];cases qru c.toNat <;> cases r.all lod <;> rfl
def q7k:Option Nat→Int
 | some i=>i
 | none=>-1
theorem qv1 {α:Type} (p:α→Bool) (l:List α):decide (q7k (l.findIdx? p)≥0)=l.any p:=by
 rw [←qxg];cases l.findIdx? p <;> rfl
theorem qxi (l:List (List UInt8)) (s:List UInt8) (hl:l.length≤1073741824):qfo l s=some (q7k (l.findIdx? (fun x=>s == x))):=by
 have h:=qj2 l (qcq l s) (fun x=>s == x)
  (fun k x hx hk hp=>by simp only [qcq,if_pos (qaj hx),qaa hx,vvn,hp,vtk,if_false,if_true,qbk hk (show l.length≤4611686018427387904 by omega)])
  (fun k x hx hp=>by simp only [qcq,if_pos (qaj hx),qaa hx,vvn,hp,if_true])
  (by simp [qcq])
 simp only [qfo,h,vvn];cases l.findIdx? (fun x=>s == x) <;> rfl
theorem qna (l:List (List UInt8)) (s:List UInt8) (hl:l.length≤1073741824):qdq l s=some (l.any fun x=>s == x):=by
 simp only [qdq,qxi l s hl,vvn];exact congrArg some (qv1 _ l)
def qz4 (l:List (List UInt8)):Bool:=qe7 (fun k x=>qvs x && !(l.take k).any fun y=>x == y) 0 l
def qet (n:Nat):Int→List Row→Int
 | _,[]=>0
 | a,r :: l=>if r.ID≤a then 1 else if r.Values.length≠n then 6 else if r.Values.all qie then qet n r.ID l else 1
def qbe (t:Table):Int :=
 if qvs t.Name=false then 1 else if t.Attrs.length > 16 then 3 else if t.Rows.length > 1000 then 3 else if qz4 t.Attrs=false then 1 else qet t.Attrs.length 0 t.Rows
theorem qyv (l:List Value) (hl:l.length≤1073741824):qg7 l=some (l.all qie):=by
 simp only [qg7,qp4 l (fun y=>qdv y) (fun v=>!qie v) (fun y _=>by simp [qdv,qnl]) hl,vvn,q7j,Bool.not_not]
theorem ven {B:Int×Int→Option (LS (Int×Int) (Unit ⊕ Int))} (rows:List Row) (n:Nat)
  (hB:∀(k:Nat) (a:Int) x,rows[k]?=some x→k < rows.length→B (a,(k:Int))=if x.ID≤a then some (.done (.inr 1)) else if x.Values.length≠n then some (.done (.inr 6)) else if x.Values.all qie then some (.next (x.ID,((k+1:Nat):Int))) else some (.done (.inr 1)))
  (hE:∀a,B (a,(rows.length:Int))=some (.done (.inl ()))):∀(r:List Row) (k:Nat) (a:Int),rows.drop k=r→k≤rows.length→∃o,qae B (a,(k:Int))=some o∧(match o with | .inl ()=>qet n a r=0 | .inr z=>qet n a r=z∧z≠0):=by
 intro r
 induction r with
 | nil =>
  intro k a hd hk;have:k=rows.length:=by
   have:=congrArg vx3 hd;simp at this;omega
  subst this;exact ⟨.inl (),qad (hE a),rfl⟩
 | cons x r ih =>
  intro k a hd hk;have hx:rows[k]?=some x:=by
   have:=congrArg (·[0]?) hd;simpa [vt4] using this
  have hd':rows.drop (k+1)=r:=by rw [←vxy,hd];rfl
  have hlt:=qam hx;have hb:=hB k a x hx hlt;by_cases h1:x.ID≤a
  ·rw [if_pos h1] at hb;exact ⟨_,qad hb,by simp [qet,h1]⟩
  ·rw [if_neg h1] at hb;by_cases h2:x.Values.length≠n
   ·rw [if_pos h2] at hb;exact ⟨_,qad hb,by simp [qet,h1,h2]⟩
   ·rw [if_neg h2] at hb;by_cases h3:x.Values.all qie=true
    ·rw [if_pos h3] at hb;obtain ⟨o,h4,h5⟩:=ih (k+1) x.ID hd' hlt;refine ⟨o,by rw [qac hb];exact h4,?_⟩;have e:qet n a (x :: r)=qet n x.ID r:=by
      simp only [qet,if_neg h1,if_neg h2,if_pos h3]
     rw [e];exact h5
    ·rw [if_neg h3] at hb;exact ⟨_,qad hb,by simp only [qet,if_neg h1,if_neg h2,if_neg h3];exact ⟨trivial,by omega⟩⟩
structure TableOk (t:Table):Prop where
 attrs:t.Attrs.length≤1073741824
 rows:t.Rows.length≤1073741824
 vals:∀r∈t.Rows,r.Values.length≤1073741824
 short:vsa t.Rows
theorem vig {t:Table} (h:qoz t):TableOk t:=by
 obtain ⟨_,h2,h3⟩:=h;refine ⟨by have:=h2.1;omega,by have:=h3.1;omega,fun r hr=>?_,fun r hr v hv=>?_⟩
 ·have:=(h3.2 r hr).2.1;omega
 ·have:okS v.Str:=((h3.2 r hr).2.2 v hv).2.2;unfold okS at this;omega
theorem quu (t : Table) (H : TableOk t) : qmb t = some (qbe t) := by
  simp only [qmb, qxh, vvn, qbe]
  by_cases h1 : qvs t.Name = true
  · by_cases h2 : t.Attrs.length > 16
    · have : (t.Attrs.length : Int) > 16 := by omega
      simp [h1, h2, this]
    · have h2' : ¬ (t.Attrs.length : Int) > 16 := by omega
      by_cases h3 : t.Rows.length > 1000
      · have : (t.Rows.length : Int) > 1000 := by omega
        simp [h1, h2, h2', h3, this]
      · have h3' : ¬ (t.Rows.length : Int) > 1000 := by omega
        have hN := qur t.Attrs (qh5 t) (fun k x => qvs x && !(t.Attrs.take k).any fun y => x == y) 1
          (fun k x hx hk hp => by
            simp only [vti, Bool.not_eq_true'] at hp
            have h0 : ((0 : Int) ≤ (k : Int)) := by omega
            have h1 : ((k : Int) ≤ (t.Attrs.length : Int)) := by omega
            have hA := H.attrs
            simp only [qh5, if_pos (qaj hx), qaa hx, vvn, qxh, hp.1, if_true, if_pos h0, if_pos h1, vxr, qna _ x (show (t.Attrs.take k).length ≤ 1073741824 by simp; omega), hp.2, vtk, if_false,
              qbk hk (show t.Attrs.length ≤ 4611686018427387904 by omega)])
          (fun k x hx hp => by
            have hk := qam hx
            have h0 : ((0 : Int) ≤ (k : Int)) := by omega
            have h1 : ((k : Int) ≤ (t.Attrs.length : Int)) := by omega
            have hA := H.attrs
            simp only [qh5, if_pos (qaj hx), qaa hx, vvn, qxh, if_pos h0, if_pos h1, vxr, qna _ x (show (t.Attrs.take k).length ≤ 1073741824 by simp; omega)]
            rcases vxi (qvs x) with hn | hn
            · simp only [hn, Bool.true_and, Bool.not_eq_false'] at hp
              simp only [hn, if_true, hp]
            · simp [hn])
          (by simp [qh5]) t.Attrs 0 rfl (vxc _)
        simp only [vxn] at hN
        simp only [h1, if_true, if_neg h2', if_neg h3', hN, vvn, vto, if_false, if_neg h2, if_neg h3]
        have hNe : qz4 t.Attrs = qe7 (fun k x => qvs x && !(t.Attrs.take k).any fun y => x == y) 0 t.Attrs := rfl
        rw [← hNe]
        by_cases h4 : qz4 t.Attrs = true
        · obtain ⟨o, h5, h6⟩ := ven (B := qi9 t) t.Rows t.Attrs.length (fun k a x hx hk => by
              simp only [qi9, if_pos (qaj hx), qaa hx, vvn, qyv _ (H.vals x (vup hx)), qbk hk (show t.Rows.length ≤ 4611686018427387904 by have := H.rows; omega)]
              by_cases e1 : x.ID ≤ a
              · simp [e1]
              · by_cases e2 : x.Values.length = t.Attrs.length
                · simp [e1, e2]
                · have : ¬ ((x.Values.length : Int) = t.Attrs.length) := by omega
                  simp [e1, e2, this]) (fun a => by simp [qi9]) t.Rows 0 0 rfl (vxc _)
          simp only [vxn] at h5
          simp only [h4, if_true, h5, vvn, vto, if_false]
          cases o with
          | inl u => simp only at h6 ⊢; rw [h6]
          | inr z => simp only at h6 ⊢; rw [h6.1]
        · simp only [vxk] at h4
          simp [h4]
  · simp only [vxk] at h1
    simp [h1]
def vih (t:Table) (id:Int):Int×Bool:=match t.Rows.findIdx? (fun r=>r.ID == id) with | some i=>((i:Int),true) | none=>(0,false)
theorem qxj (t:Table) (id:Int) (H:t.Rows.length≤1073741824):qio t id=some (vih t id):=by
 have key:∀(r:List Row) (k:Nat),t.Rows.drop k=r→k≤t.Rows.length→qae (qem t id) (k:Int)=some (match r.findIdx? (fun r=>r.ID == id) with | some i=>.inr (((k+i:Nat):Int),true) | none=>.inl ()):=by
  intro r
  induction r with
  | nil =>
   intro k hd hk;have:k=t.Rows.length:=by
    have:=congrArg vx3 hd;simp at this;omega
   subst this;exact qad (by simp [qem])
  | cons x r ih =>
   intro k hd hk;have hx:t.Rows[k]?=some x:=by
    have:=congrArg (·[0]?) hd;simpa [vt4] using this
   have hd':t.Rows.drop (k+1)=r:=by rw [←vxy,hd];rfl
   have hlt:=qam hx;by_cases hp:(x.ID == id)=true
   ·rw [qad (t:=.inr ((k:Int),true)) (by simp only [qem,if_pos (qaj hx),qaa hx,vvn,if_pos hp])];simp [vx0,hp]
   ·rw [qac (s':=((k+1:Nat):Int)) (by simp only [qem,if_pos (qaj hx),qaa hx,vvn,if_neg hp,qbk hlt (show t.Rows.length≤4611686018427387904 by omega)]),ih (k+1) hd' hlt];simp only [vxk] at hp;simp only [vx0,hp];cases r.findIdx? (fun r=>r.ID == id) with
    | none=>rfl
    | some i=>simp;omega
 have h:=key t.Rows 0 rfl (vxc _);simp only [vxn] at h;simp only [qio,h,vvn,vih];cases t.Rows.findIdx? (fun r=>r.ID == id) <;> simp
end Go.Proofs.YtmlegeeinnkhkaaGreat
namespace Go.Ab
open Go
theorem vkf {n:Nat} (h:n≤8000000000):qao n 16=true:=by
 unfold qao;simp only [decide_eq_true_eq];omega
theorem q4y {n k x:Nat} (h:(vuv n)[k]?=some x):x=k∧k < n:=by
 have hl:=qam h;rw [vwp] at hl;rw [vx2 hl] at h;exact ⟨(vxf h).symm,hl⟩
end Go.Ab
namespace Go.Proofs.YtmlegeeinnkhkaaGreat
open Go Go.Ab
end Go.Proofs.YtmlegeeinnkhkaaGreat
namespace Go.Ab
open Go
def qxk {α:Type} (lt:α→α→Bool) (x:α):List α→List α
 | []=>[x]
 | y :: r=>if lt x y then y :: qxk lt x r else x :: y :: r
def qyw {α:Type} (lt:α→α→Bool) (x:α) (s:List α):List α:=(qxk lt x s.reverse).reverse
theorem qo1 {α:Type} (lt:α→α→Bool) (x y:α) (s:List α):qyw lt x (s++[y])=if lt x y then qyw lt x s++[y] else s++[y,x]:=by
 unfold qyw;rw [List.reverse_append];simp only [List.reverse_singleton,vyg,qxk];split <;> simp
theorem qsg {α:Type} (lt:α→α→Bool) (x:α):∀s:List α,(qxk lt x s).Perm (x :: s)
 | []=>vxw.refl _
 | y :: r=>by
  simp only [qxk];split
  ·exact ((qsg lt x r).cons y).trans (vxw.swap x y r)
  ·exact vxw.refl _
theorem qxl {α:Type} (lt:α→α→Bool) (x:α) (s:List α):(qyw lt x s).Perm (x :: s):=by
 unfold qyw;exact (vye _).trans ((qsg lt x _).trans ((vye s).cons x))
theorem q8w {α:Type} (lt:α→α→Bool) (x:α) (s:List α):(qyw lt x s).length=s.length+1:=by rw [(qxl lt x s).length_eq];rfl
theorem qto {α:Type} (lt:α→α→Bool) (asym:∀x y,lt x y=true→lt y x=false) (ntr:∀x y z,lt y x=false→lt z y=false→lt z x=false) (x:α) :
  ∀s:List α,s.Pairwise (fun a b=>lt a b=false)→(qxk lt x s).Pairwise (fun a b=>lt a b=false)
 | [],_=>List.pairwise_singleton _ _
 | y :: r,h=>by
  simp only [qxk];obtain ⟨h1,h2⟩:=vx6.1 h;by_cases hxy:lt x y=true
  ·rw [if_pos hxy];refine vx6.2 ⟨fun z hz=>?_,qto lt asym ntr x r h2⟩;rcases vwv.1 ((qsg lt x r).mem_iff.1 hz) with rfl | hz
   ·exact asym _ _ hxy
   ·exact h1 z hz
  ·rw [if_neg hxy];have hxy:lt x y=false:=by simpa using hxy
   refine vx6.2 ⟨fun z hz=>?_,h⟩;rcases vwv.1 hz with rfl | hz
   ·exact hxy
   ·exact ntr _ _ _ (h1 z hz) hxy
theorem q7l {α:Type} (lt:α→α→Bool) (asym:∀x y,lt x y=true→lt y x=false) (ntr:∀x y z,lt y x=false→lt z y=false→lt z x=false) (x:α)
  (s:List α) (h:s.Pairwise (fun a b=>lt b a=false)):(qyw lt x s).Pairwise (fun a b=>lt b a=false):=by
 unfold qyw;rw [vx9];exact qto lt asym ntr x _ (by rw [vx9];exact h)
theorem veo {α:Type} (lt:α→α→Bool) (B:(List α×Int)→Option (LS (List α×Int) (List α))) (N:Nat)
  (h0:∀l,B (l,0)=some (.done l))
  (h1:∀(l:List α) (k:Nat) x y,k+1 < N→l[k+1]?=some x→l[k]?=some y→lt x y=true→B (l,((k+1:Nat):Int))=some (.next ((l.set (k+1) y).set k x,(k:Int))))
  (h2:∀(l:List α) (k:Nat) x y,k+1 < N→l[k+1]?=some x→l[k]?=some y→lt x y=false→B (l,((k+1:Nat):Int))=some (.done l)) (x:α) :
  ∀(n:Nat) (s t:List α),s.length=n→n < N→qae B (s++x :: t,(n:Int))=some (qyw lt x s++t):=by
 intro n
 induction n with
 | zero =>
  intro s t hs hN;have:s=[]:=vty hs;subst this;rw [vxn,qad (h0 _)];rfl
 | succ n ih =>
  intro s t hs hN;obtain ⟨s',y,rfl⟩:∃s' y,s=s'++[y]:=by
   rcases List.eq_nil_or_concat s with rfl | ⟨s',y,rfl⟩
   ·simp at hs
   ·exact ⟨s',y,by simp⟩
  have hs':s'.length=n:=by simpa using hs
  have e:s'++[y]++x :: t=s'++y :: x :: t:=by simp
  have g1:(s'++y :: x :: t)[n+1]?=some x:=by rw [vt3 (by omega),hs'];simp
  have g2:(s'++y :: x :: t)[n]?=some y:=by rw [vt3 (by omega),hs'];simp
  rw [e];by_cases hl:lt x y=true
  ·rw [qac (h1 _ n x y hN g1 g2 hl)];have e2:((s'++y :: x :: t).set (n+1) y).set n x=s'++x :: y :: t:=by
    subst hs';rw [vyf _ _ (by omega),show s'.length+1 - s'.length=1 by omega];simp
   rw [e2,ih s' (y :: t) hs' (by omega),qo1,if_pos hl];simp
  ·have hl:lt x y=false:=by simpa using hl
   rw [qad (h2 _ n x y hN g1 g2 hl),qo1,hl];simp
def qtp {α:Type} (lt:α→α→Bool) (l:List α):List α:=l.foldl (fun s x=>qyw lt x s) []
theorem qmg {α:Type} (lt:α→α→Bool) (asym:∀x y,lt x y=true→lt y x=false) (ntr:∀x y z,lt y x=false→lt z y=false→lt z x=false) :
  ∀(l s:List α),s.Pairwise (fun a b=>lt b a=false)→(l.foldl (fun s x=>qyw lt x s) s).Perm (s++l)∧(l.foldl (fun s x=>qyw lt x s) s).Pairwise (fun a b=>lt b a=false)
 | [],s,h=>⟨by simp,h⟩
 | x :: l,s,h=>by
  obtain ⟨p,q⟩:=qmg lt asym ntr l (qyw lt x s) (q7l lt asym ntr x s h);refine ⟨p.trans ?_,q⟩;exact ((qxl lt x s).append_right l).trans (by rw [vwa];exact List.perm_middle.symm)
def qp5 {α:Type} (lt:α→α→Bool):List α→List α→Nat
 | [],_=>0
 | _ :: _,[]=>0
 | a :: u,b :: v=>if lt a b then qp5 lt u (b :: v) else if lt b a then qp5 lt (a :: u) v else qp5 lt u v+1
termination_by l r=>l.length+r.length
theorem q8x {α:Type} (lt:α→α→Bool) (l:List α):qp5 lt l []=0:=by cases l <;> simp [qp5]
theorem vm8 {α:Type} (lt:α→α→Bool):∀n (l r:List α),l.length+r.length≤n→qp5 lt l r≤l.length:=by
 intro n
 induction n with
 | zero=>intro l r h;have:l=[]:=vty (by omega);subst this;simp [qp5]
 | succ n ih =>
  intro l r h;cases l with
  | nil=>simp [qp5]
  | cons a l =>
   cases r with
   | nil=>simp [qp5]
   | cons b r =>
    simp only [vwl] at h;simp only [qp5];split
    ·have:=ih l (b :: r) (by simp;omega);simp;omega
    ·split
     ·have:=ih (a :: l) r (by simp;omega);simpa using this
     ·have:=ih l r (by omega);simp;omega
end Go.Ab
namespace Go.Proofs.YtmlegeeinnkhkaaGreat
open Go Go.Ab
abbrev Str:=List UInt8
def ltS (a b:Str):Bool:=decide (a < b)
theorem vii:∀(x y:Str),Op.bytesLess x y=ltS x y:=fun x y=>by
 show Op.bytesLess x y=decide (x < y)
 induction x generalizing y with
 | nil=>cases y <;> simp [Op.bytesLess]
 | cons a x ih =>
  cases y with
  | nil=>simp [Op.bytesLess]
  | cons b y =>
   simp only [Op.bytesLess,ih];by_cases h1:a < b
   ·simp [h1,vxx]
   ·by_cases h2:a=b
    ·subst h2;simp [vxx]
    ·simp [h1,h2,vxx]
theorem vm9 (x:Str):ltS x x=false:=by simp [ltS,List.lt_irrefl]
theorem q1z (x y:Str) (h:ltS x y=true):ltS y x=false:=by
 simp only [ltS,decide_eq_true_eq,decide_eq_false_iff_not] at *;exact List.lt_asymm h
theorem vep (x y z:Str) (h1:ltS y x=false) (h2:ltS z y=false):ltS z x=false:=by
 simp only [ltS,decide_eq_false_iff_not,vx5] at *;exact List.le_trans h1 h2
theorem vkg {x y:Str} (h1:ltS x y=false) (h2:ltS y x=false):x=y:=by
 simp only [ltS,decide_eq_false_iff_not,vx5] at *;exact List.le_antisymm h2 h1
theorem ver:∀n:Nat,Lib.repeatL [1] n=vux n (1:UInt8)
 | 0=>rfl
 | n+1=>by simp only [Lib.repeatL,ver n];rfl
def q11 (s:Str) (q:Nat):Str:=vux (q - 1) 1++s++vux (q - 1) 1
theorem q4z (s:Str) (q:Nat):(q11 s q).length=s.length+2 * (q - 1):=by simp [q11];omega
def qp6 (s:Str) (q i:Nat):Str:=((q11 s q).drop i).take q
def qlw (s:Str) (q:Nat):List Str:=(vuv (s.length+q - 1)).map (qp6 s q)
def qbd (s:Str) (q:Nat):List Str:=qtp ltS (qlw s q)
theorem q7m (s:Str) (q:Nat):(qbd s q).Perm (qlw s q):=by
 have:=(qmg ltS q1z vep (qlw s q) [] List.Pairwise.nil).1;simpa [qbd,qtp] using this
theorem va6 (s:Str) (q:Nat):(qbd s q).length=s.length+q - 1:=by rw [(q7m s q).length_eq];simp [qlw]
theorem vij (l:List Str):vhq l=qtp ltS l:=by
 obtain ⟨p,h⟩:=qmg ltS q1z vep l [] List.Pairwise.nil;have p:(qtp ltS l).Perm l:=by simpa [qtp] using p
 refine vxw.eq_of_pairwise (le:=fun x y=>ltS y x=false) (fun a b _ _ h1 h2=>vkg h2 h1) ?_ h ((q4b l).trans p.symm);have:=List.pairwise_mergeSort (le:=fun x y:Str=>decide (x≤y)) (fun a b c h1 h2=>by simp only [decide_eq_true_eq] at *;exact List.le_trans h1 h2) (fun a b=>by simp only [Bool.or_eq_true,decide_eq_true_eq];exact List.le_total a b) l;exact this.imp fun h=>by simpa [ltS,vx5] using h
theorem qxm {x:Int} (h1:-4611686018427387904≤x) (h2:x≤4611686018427387904):vxs.wrap x=x:=qav (by omega) (by omega)
theorem q8y (s:Str) (q:Nat) (hs:s.length≤200) (h1:1≤q) (h4:q≤4):qdk s (q:Int)=some (qbd s q,0):=by
 have hlong:qc6 [s]=some false:=by
  have:¬((s.length:Int) > 200):=by omega
  simp only [qc6,qcd,qb5];have e1:qau [s] (fun y=>qcz y) 0=some (.next 1):=by
   have:idx [s] 0=some s:=rfl;simp only [qau,this,vvn,qcz,vwq];have h0:(0:Int) < ((1:Nat):Int):=by omega
   have h2:(0:Int)+1=1:=rfl;rw [if_pos h0];simp only [show ¬((s.length:Int) > 200) by omega,decide_false,vtk,if_false];rw [qxm (by omega) (by omega)];rfl
  have e2:qau [s] (fun y=>qcz y) 1=some (.done (.inl ())):=by simp [qau]
  rw [qac e1,qad e2];rfl
 have hq1:¬((q:Int) < 1):=by omega
 have hq2:¬((q:Int) > 4):=by omega
 have hw1:vxs.wrap ((q:Int) - 1)=((q - 1:Nat):Int):=by rw [qxm (by omega) (by omega)];omega
 have hr:strings_Repeat [1] ((q - 1:Nat):Int)=some (vux (q - 1) 1):=by
  simp only [strings_Repeat,repF];rw [if_pos ⟨by omega,by omega,by simp⟩,vxr,ver]
 have hl1:(vux (q - 1) (1:UInt8)).length+s.length≤9223372036854775807:=by simp;omega
 have hl2:(vux (q - 1) (1:UInt8)++s).length+(vux (q - 1) (1:UInt8)).length≤9223372036854775807:=by simp;omega
 have hN:vxs.wrap (vxs.wrap ((s.length:Int)+(q:Int)) - 1)=((s.length+q - 1:Nat):Int):=by
  rw [qxm (x:=(s.length:Int)+(q:Int)) (by omega) (by omega),qxm (by omega) (by omega)];omega
 have hL:=qqv (vuv (s.length+q - 1)) (fun (out:List Str) (k:Int)=>(out,k)) (qfn s q (q11 s q)) (fun out i=>(Sum.inl (out++[qp6 s q i]):List Str ⊕ List Str)) id (fun k out=>out.length=k) (b0:=[]) (s0:=([],0)) rfl rfl
  (fun k b x hx hk hI=>by
   obtain ⟨rfl,hk⟩:=q4y hx;refine ⟨fun b' hb=>?_,fun t ht=>by cases ht⟩;cases hb;have e1:((x:Nat):Int) < ((s.length+q - 1:Nat):Int):=by omega
   have e2:vxs.wrap ((x:Int)+(q:Int))=((x+q:Nat):Int):=by rw [qxm (by omega) (by omega)];omega
   have e3:(x:Int)≤((x+q:Nat):Int):=by omega
   have e4:((x+q:Nat):Int)≤((q11 s q).length:Int):=by rw [q4z];omega
   refine ⟨?_,by simp [hI]⟩;simp only [qfn,hN,if_pos e1,e2,if_pos e3,if_pos e4,show (0:Int)≤(x:Int) by omega,if_true,vkf (show b.length+1≤8000000000 by omega),vxr,wqn x];rw [show x+q - x=q by omega];rfl)
  (fun b hI=>by simp only [vwp,qfn,hN];simp)
 have hf:qvr (fun out i=>(Sum.inl (out++[qp6 s q i]):List Str ⊕ List Str)) id (vuv (s.length+q - 1)) []=qlw s q:=by
  rw [q1w (fun out i=>out++[qp6 s q i])];unfold qlw;have:∀(l:List Nat) (out:List Str),l.foldl (fun out i=>out++[qp6 s q i]) out=out++l.map (qp6 s q):=by
   intro l
   induction l with
   | nil=>simp
   | cons x l ih=>intro out;simp [ih]
  rw [this];rfl
 rw [hf] at hL;have hsz:(qlw s q).length < 4611686018427387904:=by simp [qlw];omega
 have hwide:vux (q - 1) (1:UInt8)++s++vux (q - 1) 1=q11 s q:=rfl;simp only [qdk,hlong,vvn,vtk,if_false,hq1,hq2,hw1,hr,if_pos hl1,if_pos hl2,hwide,hL,q61,if_pos hsz,vij];rfl
theorem vik (s : Str) (q : Nat) (hs : s.length ≤ 200) (h1 : 1 ≤ q) (h4 : q ≤ 4) : qae (qb1 (q : Int)) (s, 1) = some (q11 s q) := by
  have step : ∀ (w : Str) (i : Nat), i < q → w.length ≤ 1000 → qb1 (q : Int) (w, (i : Int)) = some (.next ([1] ++ w ++ [1], ((i + 1 : Nat) : Int))) := fun w i hi hw => by
    have e1 : (i : Int) < (q : Int) := by omega
    have e2 : 1 + w.length ≤ 9223372036854775807 := by omega
    have e3 : w.length + 1 + 1 ≤ 9223372036854775807 := by omega
    simp only [qb1, if_pos e1, if_pos e2, if_pos e3, wqn i]
  have fin : ∀ (w : Str), qb1 (q : Int) (w, (q : Int)) = some (.done w) := fun w => by simp [qb1]
  have key : ∀ (n i : Nat) (w : Str), i + n = q → w.length + 2 * n ≤ 1000 → qae (qb1 (q : Int)) (w, (i : Int)) = some (vux n 1 ++ w ++ vux n 1) := by
    intro n
    induction n with
    | zero => intro i w h _; obtain rfl : i = q := by omega
              rw [qad (fin w)]; simp
    | succ n ih =>
      intro i w h hw
      rw [qac (step w i (by omega) (by omega)), ih (i + 1) _ (by omega) (by simp; omega)]
      congr 1
      have : ∀ n : Nat, vux n (1 : UInt8) ++ [1] = vux (n + 1) 1 := fun n => vyc.symm
      rw [← vts, ← vts, this, vts _ [1], vyg, ← vyb]
  have := key (q - 1) 1 s (by omega) (by omega)
  exact this
theorem qvi (s:Str) (q:Nat) (hs:s.length≤200) (h1:1≤q) (h4:q≤4):qdo s (q:Int)=some (qbd s q,0):=by
 have hlong:qed s=some false:=by
  have:¬((s.length:Int) > 200):=by omega
  simp [qed,this]
 have hq1:¬((q:Int) < 1):=by omega
 have hq2:¬((q:Int) > 4):=by omega
 have hN:vxs.wrap (vxs.wrap ((s.length:Int)+(q:Int)) - 1)=((s.length+q - 1:Nat):Int):=by
  rw [qxm (x:=(s.length:Int)+(q:Int)) (by omega) (by omega),qxm (by omega) (by omega)];omega
 have hsift:=fun (x:Str) (out:List Str) (h:out.length < 1000)=>veo ltS qd1 1000 (fun l=>by simp [qd1])
  (fun l k x y hk hx hy hl=>by
   have e1:((k+1:Nat):Int) > 0:=by omega
   have e2:vxs.wrap (((k+1:Nat):Int) - 1)=(k:Int):=by rw [qxm (by omega) (by omega)];omega
   have e3:(l.set (k+1) y)[k]?=some y:=by rw [List.getElem?_set_ne (by omega)];exact hy
   simp only [qd1,if_pos e1,qaa hx,e2,qaa hy,vvn,vii,hl,if_true,vxr,qaa e3])
  (fun l k x y hk hx hy hl=>by
   have e1:((k+1:Nat):Int) > 0:=by omega
   have e2:vxs.wrap (((k+1:Nat):Int) - 1)=(k:Int):=by rw [qxm (by omega) (by omega)];omega
   simp only [qd1,if_pos e1,qaa hx,e2,qaa hy,vvn,vii,hl,vtk,if_false]) x out.length out [] rfl h
 have hL:=qqv (vuv (s.length+q - 1)) (fun (out:List Str) (k:Int)=>(out,k)) (qfx s q (q11 s q)) (fun out i=>(Sum.inl (qyw ltS (qp6 s q i) out):List Str ⊕ List Str)) id (fun k out=>out.length=k) (b0:=[]) (s0:=([],0)) rfl rfl
  (fun k b x hx hk hI=>by
   obtain ⟨rfl,hk⟩:=q4y hx;refine ⟨fun b' hb=>?_,fun t ht=>by cases ht⟩;cases hb;have e1:((x:Nat):Int) < ((s.length+q - 1:Nat):Int):=by omega
   have e2:vxs.wrap ((x:Int)+(q:Int))=((x+q:Nat):Int):=by rw [qxm (by omega) (by omega)];omega
   have e3:(x:Int)≤((x+q:Nat):Int):=by omega
   have e4:((x+q:Nat):Int)≤((q11 s q).length:Int):=by rw [q4z];omega
   have e5:vxs.wrap (((b.length+1:Nat):Int) - 1)=(b.length:Int):=by rw [qxm (by omega) (by omega)];omega
   refine ⟨?_,by rw [q8w,hI]⟩;simp only [qfx,hN,if_pos e1,e2,if_pos e3,if_pos e4,show (0:Int)≤(x:Int) by omega,if_true,vkf (show b.length+1≤8000000000 by omega),vxr,wqn x,e5];rw [show x+q - x=q by omega];have:=hsift (qp6 s q x) b (by omega);rw [vtt] at this;unfold qp6 at this;rw [this];rfl)
  (fun b hI=>by
   simp only [vwp,qfx,hN];simp)
 have hf:qvr (fun out i=>(Sum.inl (qyw ltS (qp6 s q i) out):List Str ⊕ List Str)) id (vuv (s.length+q - 1)) []=qbd s q:=by
  rw [q1w (fun out i=>qyw ltS (qp6 s q i) out)];unfold qbd qtp qlw;rw [List.foldl_map]
 rw [hf] at hL;simp only [qdo,hlong,vvn,vtk,if_false,hq1,hq2,vik s q hs h1 h4,hL]
theorem qji {α:Type} {l:List α} {k:Nat} {x:α} (h:l[k]?=some x):l.drop k=x :: l.drop (k+1):=by
 obtain ⟨h1,h2⟩:=vt7.1 h;rw [vtv h1,h2]
def qyx (x:Str):List Str→Nat
 | []=>0
 | y :: l=>if ltS y x then qyx x l+1 else 0
theorem q40 (x:Str) (u:List Str):∀v:List Str,qp5 ltS (x :: u) v=qp5 ltS (x :: u) (v.drop (qyx x v))
 | []=>rfl
 | y :: v=>by
  simp only [qyx];by_cases h:ltS y x=true
  ·have h':ltS x y=false:=q1z _ _ h;rw [if_pos h,List.drop_succ_cons,←q40 x u v];simp [qp5,h,h']
  ·rw [if_neg h];rfl
theorem q8z (x:Str):∀v:List Str,qyx x v≤v.length
 | []=>vvb _
 | y :: v=>by simp only [qyx];split <;> simp [q8z x v]
theorem ves (a b:List Str) (ha:a.length≤1000000) (hb:b.length≤1000000):qhg a b=some ((qp5 ltS a b:Nat):Int):=by
 have qr9:∀(i:Nat) (x:Str),a[i]?=some x→∀(m k:Nat),b.length - k=m→k≤b.length→qae (qdi a b (i:Int)) (k:Int)=some ((k+qyx x (b.drop k):Nat):Int):=by
  intro i x hx m
  induction m with
  | zero =>
   intro k hm hk;have e2:¬(k:Int) < (b.length:Int):=by omega
   rw [qad (t:=(k:Int)) (by simp only [qdi,if_neg e2]),vtw (l:=b) (by omega)];rfl
  | succ m ih =>
   intro k hm hk;have h2:k < b.length:=by omega
   have g2:b[k]?=some b[k]:=vt5 h2;have e2:(k:Int) < (b.length:Int):=by omega
   rw [qji g2];simp only [qyx];by_cases l:ltS b[k] x=true
   ·rw [qac (s':=((k+1:Nat):Int)) (by simp only [qdi,if_pos e2,qaa g2,qaa hx,vvn,vii,l,if_true,wqn k]),ih (k+1) (by omega) (by omega),if_pos l];congr 2;omega
   ·rw [qad (t:=(k:Int)) (by simp only [qdi,if_pos e2,qaa g2,qaa hx,vvn,vii,l,if_false,vtk]),if_neg l];rfl
 have key:∀(m i k n:Nat),a.length - i=m→i≤a.length→k≤b.length→n≤i→qae (qci a b) ((n:Int),(k:Int),(i:Int))=some ((n+qp5 ltS (a.drop i) (b.drop k):Nat):Int):=by
  intro m
  induction m with
  | zero =>
   intro i k n hm hi hk hn;have e1:¬(i:Int) < (a.length:Int):=by omega
   rw [qad (t:=(n:Int)) (by simp only [qci,if_neg e1]),vtw (l:=a) (by omega)];simp [qp5]
  | succ m ih =>
   intro i k n hm hi hk hn;have h1:i < a.length:=by omega
   have g1:a[i]?=some a[i]:=vt5 h1;have e1:(i:Int) < (a.length:Int):=by omega
   have hin:=qr9 i _ g1 _ k rfl hk;rw [qji g1,q40,vxy];have hk2:=q8z a[i] (b.drop k);rw [vue] at hk2;generalize hk':k+qyx a[i] (b.drop k)=k' at hin;have hle:k'≤b.length:=by omega
   by_cases h2:k' < b.length
   ·have g2:b[k']?=some b[k']:=vt5 h2;have e2:(k':Int) < (b.length:Int):=by omega
    rw [qji g2];by_cases he:b[k']=a[i]
    ·rw [qac (s':=(((n+1:Nat):Int),((k'+1:Nat):Int),((i+1:Nat):Int))) (by
      simp only [qci,if_pos e1,hin,vvn,if_pos e2,qaa g1,qaa g2,he,beq_self_eq_true,if_true,wqn i,qkk (show k' < 4611686018427387904 by omega),wqn n]),
      ih (i+1) (k'+1) (n+1) (by omega) (by omega) (by omega) (by omega)]
     rw [he];simp only [qp5,vm9,if_false,vtk];congr 2;omega
    · -- the next one is greater
     have hng:ltS b[k'] a[i]=false:=by
      have aux:∀(v:List Str) (y:Str),v[qyx a[i] v]?=some y→ltS y a[i]=false:=by
       intro v
       induction v with
       | nil=>intro y h;simp at h
       | cons z v ihv =>
        intro y h;simp only [qyx] at h;by_cases hz:ltS z a[i]=true
        ·rw [if_pos hz] at h;exact ihv y (by simpa using h)
        ·rw [if_neg hz] at h;simp only [List.getElem?_cons_zero,vvt] at h;subst h;simpa using hz
      refine aux (b.drop k) _ ?_;rw [vt4,hk'];exact g2
     have hgt:ltS a[i] b[k']=true:=by
      rcases vxi (ltS a[i] b[k']) with h | h
      ·exact h
      ·exact absurd (vkg hng h) he
     have hbe:(b[k'] == a[i])=false:=by simpa using he
     rw [qac (s':=((n:Int),(k':Int),((i+1:Nat):Int))) (by
      simp only [qci,if_pos e1,hin,vvn,if_pos e2,qaa g1,qaa g2,hbe,if_false,vtk,wqn i]),
      ih (i+1) k' n (by omega) (by omega) (by omega) (by omega)]
     simp only [qp5,hgt,if_true];rw [qji g2]
   ·have e2:¬(k':Int) < (b.length:Int):=by omega
    rw [qac (s':=((n:Int),(k':Int),((i+1:Nat):Int))) (by
     simp only [qci,if_pos e1,hin,vvn,if_neg e2,if_false,vtk,wqn i]),
     ih (i+1) k' n (by omega) (by omega) (by omega) (by omega)]
    rw [vtw (l:=b) (by omega),q8x,q8x]
 have:=key _ 0 0 0 rfl (vxc _) (vxc _) (vvb _);simp only [vxn,vxz,Nat.zero_add] at this;simp only [qhg,this,vvn]
end Go.Proofs.YtmlegeeinnkhkaaGreat
namespace Go.Ab
inductive EdN {α:Type}:Nat→List α→List α→Prop
 | nil:EdN 0 [] []
 | keep {n:Nat} {a b:List α} {x:α}:EdN n a b→EdN n (a++[x]) (b++[x])
 | sub {n:Nat} {a b:List α} {x y:α}:EdN n a b→EdN (n+1) (a++[x]) (b++[y])
 | del {n:Nat} {a b:List α} {x:α}:EdN n a b→EdN (n+1) (a++[x]) b
 | ins {n:Nat} {a b:List α} {y:α}:EdN n a b→EdN (n+1) a (b++[y])
theorem EdN.len {α:Type} {n:Nat} {a b:List α} (h:EdN n a b):a.length≤b.length+n∧b.length≤a.length+n:=by
 induction h <;> simp only [vud,vwq,vug] at * <;> omega
def vsc {α:Type} (q:Nat) (w:List α):List (List α):=(vuv (w.length+1 - q)).map fun i=>(w.drop i).take q
theorem qoa {α:Type} (q:Nat) (w:List α) (x:α) (h:q≤w.length+1):vsc q (w++[x])=vsc q w++[(w++[x]).drop (w.length+1 - q)]:=by
 unfold vsc;rw [vud,vwq,show w.length+1+1 - q=(w.length+1 - q)+1 by omega,vya,vuk,vx4];congr 1
 ·apply vws;intro i hi;rw [vw1] at hi;rw [List.drop_append_of_le_length (by omega),List.take_append_of_le_length (by rw [vue];omega)]
 ·congr 1;apply List.take_of_length_le;rw [vue,vud,vwq];omega
def EdI {α:Type} (q n:Nat) (a b:List α):Prop :=
 q≤a.length+1∧q≤b.length+1∧∃(u v t:List α) (C X Y:List (List α)),a=u++t∧b=v++t∧t.length≤q - 1 ∧
  (vsc q a).Perm (C++X)∧(vsc q b).Perm (C++Y)∧X.length+(q - 1)≤n * q+t.length∧Y.length+(q - 1)≤n * q+t.length
theorem qob {α:Type} {l C X:List α} (g:α) (h:l.Perm (C++X)):(l++[g]).Perm (C++(X++[g])):=by
 rw [←vts];exact h.append_right _
theorem qz5 {α:Type} {l C X:List α} (g:α) (h:l.Perm (C++X)):(l++[g]).Perm ((C++[g])++X):=by
 refine (h.append_right _).trans ?_;rw [vts,vts];exact (List.perm_append_comm).append_left C
theorem EdI.keep {α:Type} {q n:Nat} {a b:List α} (hq:1≤q) (x:α) (h:EdI q n a b):EdI q n (a++[x]) (b++[x]):=by
 obtain ⟨ha,hb,u,v,t,C,X,Y,ea,eb,ht,hX,hY,lX,lY⟩:=h;refine ⟨by rw [vud];omega,by rw [vud];omega,?_⟩;rw [qoa q a x ha,qoa q b x hb];by_cases hs:t.length=q - 1
 ·have e1:(a++[x]).drop (a.length+1 - q)=t++[x]:=by
   rw [ea,vts];rw [show (u++t).length+1 - q=u.length by rw [vud];omega,List.drop_left]
  have e2:(b++[x]).drop (b.length+1 - q)=t++[x]:=by
   rw [eb,vts];rw [show (v++t).length+1 - q=v.length by rw [vud];omega,List.drop_left]
  rw [e1,e2];refine ⟨u++(t++[x]).take 1,v++(t++[x]).take 1,(t++[x]).drop 1,C++[t++[x]],X,Y,?_,?_,?_,qz5 _ hX,qz5 _ hY,?_,?_⟩
  ·rw [vts,vw5,ea,vts]
  ·rw [vts,vw5,eb,vts]
  all_goals (rw [vue,vud,vwq];omega)
 ·refine ⟨u,v,t++[x],C,X++[_],Y++[_],by rw [ea,vts],by rw [eb,vts],?_,qob _ hX,qob _ hY,?_,?_⟩
  all_goals (simp only [vud,vwq];omega)
theorem EdI.keeps {α:Type} {q n:Nat} (hq:1≤q):∀(p:List α) {a b:List α},EdI q n a b→EdI q n (a++p) (b++p)
 | [],a,b,h=>by simpa using h
 | x :: p,a,b,h=>by
  have:=EdI.keeps hq p (h.keep hq x);simpa [vts] using this
theorem EdI.sub {α:Type} {q n:Nat} {a b:List α} (hq:1≤q) (x y:α) (h:EdI q n a b):EdI q (n+1) (a++[x]) (b++[y]):=by
 obtain ⟨ha,hb,u,v,t,C,X,Y,ea,eb,ht,hX,hY,lX,lY⟩:=h;refine ⟨by rw [vud];omega,by rw [vud];omega,?_⟩;rw [qoa q a x ha,qoa q b y hb];refine ⟨a++[x],b++[y],[],C,X++[_],Y++[_],by simp,by simp,by simp,qob _ hX,qob _ hY,?_,?_⟩
 all_goals (simp only [vud,vwq,vug,vu5,vvj];omega)
theorem EdI.del {α:Type} {q n:Nat} {a b:List α} (hq:1≤q) (x:α) (h:EdI q n a b):EdI q (n+1) (a++[x]) b:=by
 obtain ⟨ha,hb,u,v,t,C,X,Y,ea,eb,ht,hX,hY,lX,lY⟩:=h;refine ⟨by rw [vud];omega,hb,?_⟩;rw [qoa q a x ha];refine ⟨a++[x],b,[],C,X++[_],Y,by simp,by simp,by simp,qob _ hX,hY,?_,?_⟩
 all_goals (simp only [vud,vwq,vug,vu5,vvj];omega)
theorem EdI.ins {α:Type} {q n:Nat} {a b:List α} (hq:1≤q) (y:α) (h:EdI q n a b):EdI q (n+1) a (b++[y]):=by
 obtain ⟨ha,hb,u,v,t,C,X,Y,ea,eb,ht,hX,hY,lX,lY⟩:=h;refine ⟨ha,by rw [vud];omega,?_⟩;rw [qoa q b y hb];refine ⟨a,b++[y],[],C,X,Y++[_],by simp,by simp,by simp,hX,qob _ hY,?_,?_⟩
 all_goals (simp only [vud,vwq,vug,vu5,vvj];omega)
end Go.Ab
namespace Go.Proofs.YtmlegeeinnkhkaaGreat
open Go Go.Ab
end Go.Proofs.YtmlegeeinnkhkaaGreat
namespace Go.Ab
open Go
def dpN {α:Type} [DecidableEq α] (a b:List α):Nat→Nat→Nat
 | 0,k=>k
 | i+1,0=>i+1
 | i+1,k+1=>min (min (dpN a b i k+if a[i]?=b[k]? then 0 else 1) (dpN a b i (k+1)+1)) (dpN a b (i+1) k+1)
theorem vil {α:Type} [DecidableEq α] (a b:List α) (k:Nat):dpN a b 0 k=k:=by simp [dpN]
theorem q80 {α:Type} [DecidableEq α] (a b:List α):∀i k,dpN a b i k≤i+k
 | 0,k=>by simp [dpN]
 | i+1,0=>by simp [dpN]
 | i+1,k+1=>by
  have:=q80 a b i (k+1);simp only [dpN];omega
theorem qz6 {α:Type} [DecidableEq α] (a b:List α):∀i k,i≤a.length→k≤b.length→EdN (dpN a b i k) (a.take i) (b.take k)
 | 0,0,_,_=>by simp only [dpN,vu2];exact .nil
 | 0,k+1,hi,hk=>by
  have h:=qz6 a b 0 k hi (by omega);have hx:b[k]?=some b[k]:=vt5 (by omega);simp only [dpN,vu2] at *;rw [vyh,hx];exact h.ins
 | i+1,0,hi,hk=>by
  have h:=qz6 a b i 0 (by omega) hk;have hx:a[i]?=some a[i]:=vt5 (by omega);have e:dpN a b i 0=i:=by cases i <;> simp [dpN]
  rw [e] at h;simp only [dpN,vu2] at *;rw [vyh,hx];exact h.del
 | i+1,k+1,hi,hk=>by
  have h1:=qz6 a b i k (by omega) (by omega);have h2:=qz6 a b i (k+1) (by omega) hk;have h3:=qz6 a b (i+1) k hi (by omega);have hx:a[i]?=some a[i]:=vt5 (by omega);have hy:b[k]?=some b[k]:=vt5 (by omega);have e1:a.take (i+1)=a.take i++[a[i]]:=by rw [vyh,hx];rfl
  have e2:b.take (k+1)=b.take k++[b[k]]:=by rw [vyh,hy];rfl
  have k1:EdN (dpN a b i k+if a[i]?=b[k]? then 0 else 1) (a.take (i+1)) (b.take (k+1)):=by
   rw [e1,e2];split
   ·rename_i h;rw [hx,hy] at h;rw [vxf h];exact h1.keep
   ·exact h1.sub
  have k2:EdN (dpN a b i (k+1)+1) (a.take (i+1)) (b.take (k+1)):=by rw [e1];exact h2.del
  have k3:EdN (dpN a b (i+1) k+1) (a.take (i+1)) (b.take (k+1)):=by
   rw [e2];exact h3.ins
  simp only [dpN];rcases vyo (dpN a b i k+if a[i]?=b[k]? then 0 else 1) (dpN a b i (k+1)+1) with c | c
  ·rw [vw8 c];rcases vyo (dpN a b i k+if a[i]?=b[k]? then 0 else 1) (dpN a b (i+1) k+1) with d | d
   ·rw [vw8 d];exact k1
   ·rw [vyp d];exact k3
  ·rw [vyp c];rcases vyo (dpN a b i (k+1)+1) (dpN a b (i+1) k+1) with d | d
   ·rw [vw8 d];exact k2
   ·rw [vyp d];exact k3
def qku {α:Type} [DecidableEq α] (a b:List α) (i n:Nat):List Int:=(vuv n).map fun k=>((dpN a b i k:Nat):Int)
theorem q41 {α:Type} [DecidableEq α] (a b:List α) (i n:Nat):(qku a b i n).length=n:=by simp [qku]
theorem qtq {α:Type} [DecidableEq α] {a b:List α} {i n k:Nat} (h:k < n):(qku a b i n)[k]?=some ((dpN a b i k:Nat):Int):=by
 unfold qku;rw [vt8,vx2 h];rfl
theorem qz7 {α:Type} [DecidableEq α] (a b:List α) (i n:Nat):qku a b i (n+1)=qku a b i n++[((dpN a b i n:Nat):Int)]:=by
 unfold qku;rw [vya,vuk];rfl
end Go.Ab
namespace Go.Proofs.YtmlegeeinnkhkaaGreat
open Go Go.Ab
theorem vet {n:Nat} (h:n≤8000000000):qao n 8=true:=by
 unfold qao;simp only [decide_eq_true_eq];omega
theorem va7 (b:List UInt8) (a:List UInt8) (hb:b.length≤1048576):qae (qcr b) ([],0)=some (qku a b 0 (b.length+1)):=by
 have key:∀(d k:Nat),k+d=b.length+1→qae (qcr b) (qku a b 0 k,(k:Int))=some (qku a b 0 (b.length+1)):=by
  intro d
  induction d with
  | zero =>
   intro k hk;have e:k=b.length+1:=by omega
   subst e;have c:¬(((b.length+1:Nat):Int)≤(b.length:Int)):=by omega
   exact qad (by simp only [qcr,if_neg c])
  | succ d ih =>
   intro k hk;have c:((k:Int)≤(b.length:Int)):=by omega
   have hr:qao ((qku a b 0 k).length+1) 8=true:=vet (by rw [q41];omega);rw [qac (s':=(qku a b 0 (k+1),((k+1:Nat):Int))) (by
    simp only [qcr,if_pos c,hr,if_true,wqn k,qz7,vil])]
   exact ih (k+1) (by omega)
 exact key (b.length+1) 0 (by omega)
theorem vsd (x y:UInt8):((((x.toNat:Nat):Int) != ((y.toNat:Nat):Int))=true)↔¬x=y:=by
 rw [bne_iff_ne];constructor
 ·intro h e;exact h (by rw [e])
 ·intro h e;exact h (UInt8.toNat_inj.1 (by omega))
theorem min3 (x y z:Nat):(if ((z:Nat):Int) < (if ((y:Nat):Int) < ((x:Nat):Int) then ((y:Nat):Int) else ((x:Nat):Int)) then ((z:Nat):Int) else (if ((y:Nat):Int) < ((x:Nat):Int) then ((y:Nat):Int) else ((x:Nat):Int)))=((min (min x y) z:Nat):Int):=by
 split <;> split <;> omega
theorem vim (a b:List UInt8) (i:Nat) (hi:i < a.length) (ha:a.length≤1048576) (hb:b.length≤1048576) :
  qae (qcs a b (qku a b i (b.length+1)) (i:Int)) ([((i+1:Nat):Int)],0)=some (qku a b (i+1) (b.length+1)):=by
 have key:∀(d k:Nat),k+d=b.length→qae (qcs a b (qku a b i (b.length+1)) (i:Int)) (qku a b (i+1) (k+1),(k:Int))=some (qku a b (i+1) (b.length+1)):=by
  intro d
  induction d with
  | zero =>
   intro k hk;have e:k=b.length:=by omega
   subst e;exact qad (by simp [qcs])
  | succ d ih =>
   intro k hk;have hkb:k < b.length:=by omega
   have c:((k:Int) < (b.length:Int)):=by omega
   have hx:a[i]?=some a[i]:=vt5 hi;have hy:b[k]?=some b[k]:=vt5 hkb;have hr:qao ((qku a b (i+1) (k+1)).length+1) 8=true:=vet (by rw [q41];omega);have g1:idx (qku a b i (b.length+1)) (k:Int)=some ((dpN a b i k:Nat):Int):=qaa (qtq (by omega));have g2:idx (qku a b i (b.length+1)) ((k+1:Nat):Int)=some ((dpN a b i (k+1):Nat):Int):=qaa (qtq (by omega));have g3:idx (qku a b (i+1) (k+1)) (k:Int)=some ((dpN a b (i+1) k:Nat):Int):=qaa (qtq (by omega));have b1:=q80 a b i k;have b2:=q80 a b i (k+1);have b3:=q80 a b (i+1) k;have w:=wqn k;have w1:=qkk (show dpN a b i k < 4611686018427387904 by omega);have w2:=qkk (show dpN a b i (k+1) < 4611686018427387904 by omega);have w3:=qkk (show dpN a b (i+1) k < 4611686018427387904 by omega);rw [qac (s':=(qku a b (i+1) (k+2),((k+1:Nat):Int))) (by
    simp only [qcs,if_pos c,g1,qaa hx,qaa hy,vvn,w,g2,g3,hr,if_true,w1,w2,w3,min3];rw [qz7 a b (i+1) (k+1)];by_cases h:a[i]=b[k]
    ·rw [if_neg (fun q=>(vsd _ _).1 q h)];have e:dpN a b (i+1) (k+1)=min (min (dpN a b i k) (dpN a b i (k+1)+1)) (dpN a b (i+1) k+1):=by
      simp only [dpN,hx,hy,h,if_true,Nat.add_zero]
     rw [e]
    ·rw [if_pos ((vsd _ _).2 h)];have e:dpN a b (i+1) (k+1)=min (min (dpN a b i k+1) (dpN a b i (k+1)+1)) (dpN a b (i+1) k+1):=by
      have:¬(some a[i]=some b[k]):=fun q=>h (vxf q)
      simp only [dpN,hx,hy,this,if_false]
     rw [e])]
   exact ih (k+1) (by omega)
 have:=key b.length 0 (by omega);have e:qku a b (i+1) 1=[((i+1:Nat):Int)]:=by simp [qku,dpN]
 rw [e] at this;exact this
theorem q7n (a b:List UInt8) (ha:a.length≤1048576) (hb:b.length≤1048576):qd0 a b=some ((dpN a b a.length b.length:Nat):Int):=by
 have key:∀(d i:Nat),i+d=a.length→qae (qds a b) (qku a b i (b.length+1),(i:Int))=some (qku a b a.length (b.length+1)):=by
  intro d
  induction d with
  | zero =>
   intro i hi;have e:i=a.length:=by omega
   subst e;exact qad (by simp [qds])
  | succ d ih =>
   intro i hi;have c:((i:Int) < (a.length:Int)):=by omega
   rw [qac (s':=(qku a b (i+1) (b.length+1),((i+1:Nat):Int))) (by
    simp only [qds,if_pos c,wqn i,vim a b i (by omega) ha hb,vvn])]
   exact ih (i+1) (by omega)
 have h:=key a.length 0 (by omega);simp only [vxn] at h;simp only [qd0,va7 b a hb,vvn,h,qaa (qtq (a:=a) (b:=b) (i:=a.length) (show b.length < b.length+1 by omega))]
end Go.Proofs.YtmlegeeinnkhkaaGreat
namespace Go.Ab
def sed {α:Type} [DecidableEq α]:List α→List α→Nat
 | [],b=>b.length
 | _ :: a,[]=>a.length+1
 | x :: a,y :: b=>if x=y then sed a b else 1+min (min (sed a b) (sed a (y :: b))) (sed (x :: a) b)
termination_by a b=>a.length+b.length
theorem qit {α:Type} [DecidableEq α] (b:List α):sed [] b=b.length:=by rw [sed]
theorem qgy {α:Type} [DecidableEq α] (a:List α):sed a []=a.length:=by cases a <;> rw [sed] <;> rfl
theorem qkl {α:Type} [DecidableEq α] (x:α) (a b:List α):sed (x :: a) (x :: b)=sed a b:=by rw [sed,if_pos rfl]
theorem qko {α:Type} [DecidableEq α] {x y:α} (h:x≠y) (a b:List α):sed (x :: a) (y :: b)=1+min (min (sed a b) (sed a (y :: b))) (sed (x :: a) b):=by rw [sed,if_neg h]
theorem EdN.front {α:Type} {n:Nat} {a b:List α} (x:α) (h:EdN n a b):EdN n (x :: a) (x :: b):=by
 induction h with
 | nil=>exact (EdN.nil).keep (x:=x)
 | keep _ ih=>exact ih.keep
 | sub _ ih=>exact ih.sub
 | del _ ih=>exact ih.del
 | ins _ ih=>exact ih.ins
theorem EdN.subF {α:Type} {n:Nat} {a b:List α} (x y:α) (h:EdN n a b):EdN (n+1) (x :: a) (y :: b):=by
 induction h with
 | nil=>exact (EdN.nil).sub (x:=x) (y:=y)
 | keep _ ih=>exact ih.keep
 | sub _ ih=>exact ih.sub
 | del _ ih=>exact ih.del
 | ins _ ih=>exact ih.ins
theorem EdN.delF {α:Type} {n:Nat} {a b:List α} (x:α) (h:EdN n a b):EdN (n+1) (x :: a) b:=by
 induction h with
 | nil=>exact (EdN.nil).del (x:=x)
 | keep _ ih=>exact ih.keep
 | sub _ ih=>exact ih.sub
 | del _ ih=>exact ih.del
 | ins _ ih=>exact ih.ins
theorem EdN.insF {α:Type} {n:Nat} {a b:List α} (y:α) (h:EdN n a b):EdN (n+1) a (y :: b):=by
 induction h with
 | nil=>exact (EdN.nil).ins (y:=y)
 | keep _ ih=>exact ih.keep
 | sub _ ih=>exact ih.sub
 | del _ ih=>exact ih.del
 | ins _ ih=>exact ih.ins
theorem EdN.nil_any {α:Type}:∀b:List α,EdN b.length [] b
 | []=>.nil
 | y :: b=>(EdN.nil_any b).insF y
theorem EdN.any_nil {α:Type}:∀a:List α,EdN a.length a []
 | []=>.nil
 | y :: b=>(EdN.any_nil b).delF y
theorem va8 (a b c:Nat):min (min a b) c=a∨min (min a b) c=b∨min (min a b) c=c:=by omega
theorem q81 {α:Type} [DecidableEq α]:∀a b:List α,EdN (sed a b) a b
 | [],b=>by rw [qit];exact EdN.nil_any b
 | x :: a,[]=>by rw [qgy];exact EdN.any_nil (x :: a)
 | x :: a,y :: b=>by
  have h1:=q81 a b;have h2:=q81 a (y :: b);have h3:=q81 (x :: a) b;by_cases h:x=y
  ·subst h;rw [qkl];exact h1.front x
  ·rw [qko h,Nat.add_comm];rcases va8 (sed a b) (sed a (y :: b)) (sed (x :: a) b) with e | e | e
   ·rw [e];exact h1.subF x y
   ·rw [e];exact h2.delF x
   ·rw [e];exact h3.insF y
termination_by a b=>a.length+b.length
theorem q12 {α:Type} [DecidableEq α] (z:α):∀a b:List α,sed (a++[z]) b≤sed a b+1
 | [],b=>by
  induction b with
  | nil=>rw [vuu,qgy,qit];simp
  | cons y b ih =>
   rw [vuu] at *;by_cases h:z=y
   ·subst h;rw [qkl,qit,qit,vwl];omega
   ·rw [qko h];simp only [qit,vwl] at *;omega
 | x :: a,[]=>by rw [qgy,qgy];simp
 | x :: a,y :: b=>by
  have h1:=q12 z a b;have h2:=q12 z a (y :: b);have h3:=q12 z (x :: a) b;rw [vwa] at *;by_cases h:x=y
  ·subst h;rw [qkl,qkl];exact h1
  ·rw [qko h,qko h];omega
termination_by a b=>a.length+b.length
theorem q13 {α:Type} [DecidableEq α] (z:α):∀a b:List α,sed a (b++[z])≤sed a b+1
 | [],b=>by rw [qit,qit];simp
 | x :: a,[]=>by
  rw [vuu];by_cases h:x=z
  ·subst h;rw [qkl,qgy,qgy,vwl];omega
  ·rw [qko h,qgy,qgy,vwl];omega
 | x :: a,y :: b=>by
  have h1:=q13 z a b;have h2:=q13 z a (y :: b);have h3:=q13 z (x :: a) b;rw [vwa] at *;by_cases h:x=y
  ·subst h;rw [qkl,qkl];exact h1
  ·rw [qko h,qko h];omega
termination_by a b=>a.length+b.length
theorem qtr {α:Type} [DecidableEq α] (z:α):∀a b:List α,sed (a++[z]) (b++[z])≤sed a b
 | [],b=>by
  induction b with
  | nil=>rw [vuu,qkl];exact vvb _
  | cons y b ih =>
   rw [vuu] at *;rw [vwa];by_cases h:z=y
   ·subst h;rw [qkl,qit,qit,vwl];simp
   ·rw [qko h];simp only [qit,vwl] at *;omega
 | x :: a,[]=>by
  have h1:=qtr z a [];rw [vuu] at *;rw [vwa];by_cases h:x=z
  ·subst h;rw [qkl,qgy,qgy];simp
  ·rw [qko h];simp only [qgy,vwl] at *;omega
 | x :: a,y :: b=>by
  have h1:=qtr z a b;have h2:=qtr z a (y :: b);have h3:=qtr z (x :: a) b;rw [vwa,vwa] at *;by_cases h:x=y
  ·subst h;rw [qkl,qkl];exact h1
  ·rw [qko h,qko h];omega
termination_by a b=>a.length+b.length
theorem qxn {α:Type} [DecidableEq α] (z u:α):∀a b:List α,sed (a++[z]) (b++[u])≤sed a b+1
 | [],b=>by
  induction b with
  | nil =>
   rw [vuu,vuu];by_cases h:z=u
   ·subst h;rw [qkl];omega
   ·rw [qko h];simp only [qit];simp
  | cons y b ih =>
   rw [vuu] at *;rw [vwa];by_cases h:z=y
   ·subst h;rw [qkl,qit,qit,vwl];simp
   ·rw [qko h];simp only [qit,vwl] at *;omega
 | x :: a,[]=>by
  have h1:=qxn z u a [];rw [vuu] at *;rw [vwa];by_cases h:x=u
  ·subst h;rw [qkl,qgy,qgy];simp
  ·rw [qko h];simp only [qgy,vwl] at *;omega
 | x :: a,y :: b=>by
  have h1:=qxn z u a b;have h2:=qxn z u a (y :: b);have h3:=qxn z u (x :: a) b;rw [vwa,vwa] at *;by_cases h:x=y
  ·subst h;rw [qkl,qkl];exact h1
  ·rw [qko h,qko h];omega
termination_by a b=>a.length+b.length
theorem veu {α:Type} [DecidableEq α] {n:Nat} {a b:List α} (h:EdN n a b):sed a b≤n:=by
 induction h with
 | nil=>rw [qit];exact vvb _
 | keep _ ih=>exact vvd (qtr _ _ _) ih
 | sub _ ih=>exact vvd (qxn _ _ _ _) (by omega)
 | del _ ih=>exact vvd (q12 _ _ _) (by omega)
 | ins _ ih=>exact vvd (q13 _ _ _) (by omega)
theorem qkv {α:Type} {a u:List α} {x:α} {i:Nat} (hi:i≤a.length) (h:u++[x]=a.take i):∃j,i=j+1∧u=a.take j∧a[j]?=some x:=by
 have hl:=congrArg vx3 h;rw [vud,vuj,vwq] at hl;cases i with
 | zero=>omega
 | succ j =>
  have hx:a[j]?=some a[j]:=vt5 (by omega);rw [vyh,hx] at h;have:=List.append_inj h (by rw [vuj];omega);refine ⟨j,rfl,this.1,?_⟩;rw [hx];simpa using this.2.symm
theorem vev {α:Type} [DecidableEq α] (a b:List α) {n:Nat} {u v:List α} (h:EdN n u v):∀i k,i≤a.length→k≤b.length→u=a.take i→v=b.take k→dpN a b i k≤n:=by
 induction h with
 | nil =>
  intro i k hi hk hu hv;have h1:=congrArg vx3 hu;have h2:=congrArg vx3 hv;rw [vuj] at h1 h2;simp only [vug] at h1 h2;have:i=0:=by omega
  have:k=0:=by omega
  subst i;subst k;simp [dpN]
 | keep _ ih =>
  intro i k hi hk hu hv;obtain ⟨i,rfl,hu,hx⟩:=qkv hi hu;obtain ⟨k,rfl,hv,hy⟩:=qkv hk hv;have:=ih i k (by omega) (by omega) hu hv;simp only [dpN,hx,hy,if_true];omega
 | sub _ ih =>
  intro i k hi hk hu hv;obtain ⟨i,rfl,hu,hx⟩:=qkv hi hu;obtain ⟨k,rfl,hv,hy⟩:=qkv hk hv;have:=ih i k (by omega) (by omega) hu hv;have h2:(if a[i]?=b[k]? then 0 else 1)≤1:=by split <;> omega
  simp only [dpN];omega
 | del _ ih =>
  intro i k hi hk hu hv;obtain ⟨i,rfl,hu,hx⟩:=qkv hi hu;have:=ih i k (by omega) hk hu hv;cases k with
  | zero=>cases i <;> simp only [dpN] at * <;> omega
  | succ k=>simp only [dpN];omega
 | ins _ ih =>
  intro i k hi hk hu hv;obtain ⟨k,rfl,hv,hx⟩:=qkv hk hv;have:=ih i k hi (by omega) hu hv;cases i with
  | zero=>simp only [dpN] at *;omega
  | succ i=>simp only [dpN];omega
theorem vna {α:Type} [DecidableEq α] (a b:List α):sed a b=dpN a b a.length b.length:=by
 have h1:=qz6 a b a.length b.length (vvb _) (vvb _);rw [vyi,vyi] at h1;have h2:=veu h1;have h3:=vev a b (q81 a b) a.length b.length (vvb _) (vvb _) vyi.symm vyi.symm;omega
end Go.Ab
namespace Go.Ab
open Go
theorem qq0 {n:Int} (h1:0≤n) (h2:n≤18446744073709551615):vxu.wrap n=n:=by
 simp only [IntKind.wrap,IntKind.signed,IntKind.bits];simp only [Bool.false_and,vtk,if_false];rw [show ((2:Int) ^ 64)=18446744073709551616 from rfl];omega
theorem vin {a:Nat} (ha:a < 4294967296):vxt.wrap ((BitVec.ofInt 32 (a:Int) &&& (1#32)).toNat:Int)=((a % 2:Nat):Int):=by
 rw [bv_lt,BitVec.toNat_and,vqj ha];congr 1;have:(1#32).toNat=1:=rfl;rw [this,Nat.and_one_is_mod]
theorem vse {i:Nat} (h:i < 32):2 ^ i < 4294967296:=Nat.pow_lt_pow_right (by omega) h
theorem vio {i:Nat} (h:i < 32):vxt.wrap (1 * 2 ^ (min i 32))=((2 ^ i:Nat):Int):=by
 rw [vw8 (by omega),Int.one_mul];have:((2:Int) ^ i)=((2 ^ i:Nat):Int):=by simp
 rw [this];have h2:=vse h;generalize 2 ^ i=p at h2 ⊢;exact q8l (by omega) (by omega)
theorem vnb (a i:Nat):(((a / 2 ^ i % 2:Nat):Int) == 1)=a.testBit i:=by
 rw [Nat.testBit_eq_decide_div_mod_eq,vxj];simp only [beq_iff_eq,decide_eq_true_eq];omega
theorem vnc {a:Nat} (ha:a < 4294967296) {i:Nat} (hi:i≤32):((vxt.wrap ((BitVec.ofInt 32 (vxl (a:Int) (2 ^ (min i 32))) &&& (1#32)).toNat:Int)) == 1)=a.testBit i:=by
 rw [vw8 hi,q1i,vin (Nat.lt_of_le_of_lt (vyj _ _) ha),vnb]
theorem vnd {a n:Nat} (h:∀i,n≤i→a.testBit i=false):a < 2 ^ n:=Nat.lt_pow_two_of_testBit a h
theorem vsf {a n i:Nat} (h:a < 2 ^ n) (hi:n≤i):a.testBit i=false:=Nat.testBit_lt_two_pow (Nat.lt_of_lt_of_le h (Nat.pow_le_pow_right (by omega) hi))
end Go.Ab
namespace Go.Proofs.YtmlegeeinnkhkaaGreat
open Go Go.Ab
def qoc (n d:Nat):Ratio:=⟨((n / vyk n d:Nat):Int),((d / vyk n d:Nat):Int)⟩
theorem dmod {b y d c:Nat} (h:c+b * d=y) (hc:c < b):y / b=d∧y % b=c:=(Nat.div_mod_unique (by omega)).2 ⟨h,hc⟩
theorem qts (n:Nat) (h:n < 4611686018427387904):qn8 (n:Int)=some (n:Int):=by
 simp only [qn8];rw [if_neg (by omega),qq0 (by omega) (by omega)]
theorem qyy:∀(b a:Nat),qae qk1 ((a:Int),(b:Int))=some ((vyk a b:Nat):Int):=by
 intro b
 induction b using vw9 with
 | ind b ih =>
  intro a;by_cases hb:b=0
  ·subst hb;rw [qad (t:=(a:Int)) (by simp [qk1]),vyn]
  ·have h1:((b:Int) > 0):=by omega
   have h2:¬((b:Int)=0):=by omega
   have e:vxq (a:Int) (b:Int)=((a % b:Nat):Int):=by rw [vxo]
   rw [qac (s':=((b:Int),((a % b:Nat):Int))) (by simp only [qk1,if_pos h1,if_neg h2,e]),ih (a % b) (vvg _ (by omega)) b];rw [vyl a b,Nat.gcd_rec b a,vyl]
theorem q14 (a b:Nat):qpz (a:Int) (b:Int)=some ((vyk a b:Nat):Int):=by
 simp only [qpz,qyy,vvn]
theorem vip (a b:Nat):vxp (a:Int) (b:Int)=((a / b:Nat):Int):=Int.ofNat_tdiv a b
theorem qnn (n d:Nat) (hn:n < 4611686018427387904) (hd:0 < d) (hd':d < 4611686018427387904):qj0 (n:Int) (d:Int)=some (qoc n d,0):=by
 have hg:0 < vyk n d:=vym _ hd;have h0:((d:Int) == 0)=false:=by simp;omega
 have hdn:n / vyk n d≤n:=vyj _ _;have hdd:d / vyk n d≤d:=vyj _ _;have hg0:¬((vyk n d:Nat):Int)=0:=by omega
 have e1:(decide ((n:Int) < 0))=false:=by simp
 have e2:(decide ((d:Int) < 0))=false:=by simp
 simp only [qj0,h0,vtk,if_false,qts n hn,qts d hd',vvn,q14,if_neg hg0,vip,e1,e2,qoc];generalize n / vyk n d=p at *;generalize d / vyk n d=q at *;rw [qq0 (n:=(p:Int)) (by omega) (by omega),qq0 (n:=(q:Int)) (by omega) (by omega)];have c1:¬((p:Int) > 9223372036854775807):=by omega
 have c2:¬((q:Int) > 9223372036854775807):=by omega
 simp only [qv0,if_neg c1,if_neg c2,beq_self_eq_true,Bool.not_true,vtk,if_false,vvn];rw [qav (n:=(p:Int)) (by omega) (by omega),qav (n:=(q:Int)) (by omega) (by omega)]
theorem qxo (a:Nat) (h:a < 4611686018427387904):qc9 ⟨0,(a:Int)⟩ ⟨0,(a:Int)⟩=some ⟨0,((2 * a:Nat):Int)⟩:=by
 have e1:vmg (a:Int) (a:Int) 0=some (((2 * a:Nat):Int),0):=by
  unfold vmg;rw [if_pos (by omega)];congr 2 <;> omega
 have e2:vmg 0 0 0=some (0,0):=by decide
 simp only [qc9,e1,e2,vvn]
theorem va9 (a b:Nat) (h:a < 9223372036854775808) (hb:b≤a):qga ⟨0,(a:Int)⟩ ⟨0,(b:Int)⟩=some ⟨0,((a - b:Nat):Int)⟩:=by
 have e1:subF (a:Int) (b:Int) 0=some (((a - b:Nat):Int),0):=by
  unfold subF;rw [if_pos (by omega),if_neg (by omega)];congr 2;omega
 have e2:subF 0 0 0=some (0,0):=by decide
 simp only [qga,e1,e2,vvn]
theorem qxp (a b:Nat):qcv ⟨0,(a:Int)⟩ ⟨0,(b:Int)⟩=some (decide (a < b)):=by
 simp only [qcv];rw [if_neg (by omega),if_pos (by rfl)];simp
theorem q7o (a b k:Nat) (hb:0 < b) (hk:64≤k) (hk':k < 128):qbo ⟨0,(a:Int)⟩ ⟨0,(b:Int)⟩ (⟨0,0⟩,⟨0,0⟩,(k:Int))=some (.next (⟨0,0⟩,⟨0,0⟩,(k:Int) - 1)):=by
 have h1:(k:Int)≥0:=by omega
 have h2:(k:Int)≥64:=by omega
 have h3:vxq (k:Int) 64=((k % 64:Nat):Int):=vxo k 64;have h4:¬((k % 64:Nat):Int) < 0:=by omega
 have h5:qc9 ⟨0,0⟩ ⟨0,0⟩=some ⟨0,0⟩:=qxo 0 (by omega);have h6:vxu.wrap ((0:Int)+(vxq (vxl 0 (2 ^ (min (((k % 64:Nat):Int)).toNat 64))) 2))=0:=by rw [Int.zero_fdiv];rfl
 have h7:qcv ⟨0,0⟩ ⟨0,(b:Int)⟩=some true:=by
  have:=qxp 0 b;rw [show decide (0 < b)=true by simp [hb]] at this;exact this
 have h8:vxs.wrap ((k:Int) - 1)=(k:Int) - 1:=qav (by omega) (by omega);simp only [qbo,if_pos h1,if_pos h2,h3,if_neg h4,h5,vvn,h6,h7,if_true,h8]
theorem q1i (a k:Nat):vxl (a:Int) (2 ^ k)=((a / 2 ^ k:Nat):Int):=by
 have e:(2:Int) ^ k=((2 ^ k:Nat):Int):=by simp
 rw [e];exact (Int.ofNat_fdiv a (2 ^ k)).symm
theorem q7p (a b k:Nat) (ha:a < 4611686018427387904) (hb:0 < b) (hb':b < 2305843009213693952) (hk:k < 64) :
  qbo ⟨0,(a:Int)⟩ ⟨0,(b:Int)⟩ (⟨0,((a / 2 ^ (k+1) / b:Nat):Int)⟩,⟨0,((a / 2 ^ (k+1) % b:Nat):Int)⟩,(k:Int)) =
   some (.next (⟨0,((a / 2 ^ k / b:Nat):Int)⟩,⟨0,((a / 2 ^ k % b:Nat):Int)⟩,(k:Int) - 1)):=by
 have h1:(k:Int)≥0:=by omega
 have h2:¬(k:Int)≥64:=by omega
 have h3:vxq (k:Int) 64=(k:Int):=by
  have:vxq (k:Int) 64=((k % 64:Nat):Int):=vxo k 64;rw [this];omega
 have h4:¬(k:Int) < 0:=by omega
 have hx:a / 2 ^ k=2 * (a / 2 ^ (k+1))+a / 2 ^ k % 2:=by
  rw [Nat.pow_succ,←Nat.div_div_eq_div_mul];omega
 have hy:a / 2 ^ k≤a:=vyj _ _;have hbit:vxq (vxl (a:Int) (2 ^ (min ((k:Int)).toNat 64))) 2=((a / 2 ^ k % 2:Nat):Int):=by
  rw [vxr,vw8 (by omega),q1i];exact vxo _ 2
 have hbit2:a / 2 ^ k % 2 < 2:=vvg _ (by omega);generalize a / 2 ^ k % 2=bit at *;generalize a / 2 ^ k=y at *;generalize a / 2 ^ (k+1)=x at *;have hr:x % b < b:=vvg _ hb;have hq:x / b≤x:=vyj _ _;have hm:=Nat.mod_add_div x b;have p1:=qxo (x % b) (by omega);have p2:=qxo (x / b) (by omega);have h6:vxu.wrap (((2 * (x % b):Nat):Int)+(bit:Int))=((2 * (x % b)+bit:Nat):Int):=by
  rw [←Int.natCast_add];exact qq0 (by omega) (by omega)
 have h7:vxu.wrap (((2 * (x / b):Nat):Int)+1)=((2 * (x / b)+1:Nat):Int):=by
  rw [qq0 (by omega) (by omega)];omega
 have h8:vxs.wrap ((k:Int) - 1)=(k:Int) - 1:=qav (by omega) (by omega);simp only [qbo,if_pos h1,if_neg h2,h3,if_neg h4,p1,p2,vvn,hbit,h6,h7,h8,qxp];have hmul:b * (2 * (x / b))=2 * (b * (x / b)):=by rw [Nat.mul_left_comm]
 by_cases hl:2 * (x % b)+bit < b
 ·obtain ⟨e1,e2⟩:=dmod (b:=b) (y:=y) (d:=2 * (x / b)) (c:=2 * (x % b)+bit) (by rw [hmul];omega) hl;simp only [hl,decide_true,if_true,e1,e2]
 ·obtain ⟨e1,e2⟩:=dmod (b:=b) (y:=y) (d:=2 * (x / b)+1) (c:=2 * (x % b)+bit - b) (by rw [Nat.mul_add,hmul,Nat.mul_one];omega) (by omega);have m1:=va9 (2 * (x % b)+bit) b (by omega) (by omega);simp only [hl,decide_false,vtk,if_false,m1,vvn,e1,e2]
theorem q15 (a b:Nat) (ha:a < 4611686018427387904) (hb:0 < b) (hb':b < 2305843009213693952):qew ⟨0,(a:Int)⟩ ⟨0,(b:Int)⟩=some (⟨0,((a / b:Nat):Int)⟩,⟨0,((a % b:Nat):Int)⟩):=by
 have low:∀k:Nat,k≤64→qae (qbo ⟨0,(a:Int)⟩ ⟨0,(b:Int)⟩) (⟨0,((a / 2 ^ k / b:Nat):Int)⟩,⟨0,((a / 2 ^ k % b:Nat):Int)⟩,(k:Int) - 1)=some (⟨0,((a / b:Nat):Int)⟩,⟨0,((a % b:Nat):Int)⟩):=by
  intro k
  induction k with
  | zero =>
   intro _;rw [Nat.pow_zero,Nat.div_one];exact qad (by simp [qbo])
  | succ k ih =>
   intro hk;have e:((k+1:Nat):Int) - 1=(k:Int):=by omega
   rw [e,qac (q7p a b k ha hb hb' (by omega))];exact ih (by omega)
 have hz:a / 2 ^ 64=0:=Nat.div_eq_of_lt (by omega);have high:∀k:Nat,k≤64→qae (qbo ⟨0,(a:Int)⟩ ⟨0,(b:Int)⟩) (⟨0,0⟩,⟨0,0⟩,((64+k:Nat):Int) - 1)=some (⟨0,((a / b:Nat):Int)⟩,⟨0,((a % b:Nat):Int)⟩):=by
  intro k
  induction k with
  | zero =>
   intro _;have:=low 64 (vvb _);rw [hz,Nat.zero_div,Nat.zero_mod] at this;exact this
  | succ k ih =>
   intro hk;have e:((64+(k+1):Nat):Int) - 1=((64+k:Nat):Int):=by omega
   rw [e,qac (q7o a b (64+k) hb (by omega) (by omega))];exact ih (by omega)
 have:=high 64 (vvb _);simp only [qew];rw [show (127:Int)=((64+64:Nat):Int) - 1 by omega,this];rfl
theorem vba:∀(b a:Nat),a < 2305843009213693952→b < 2305843009213693952→qae qfw (⟨0,(a:Int)⟩,⟨0,(b:Int)⟩)=some ⟨0,((vyk a b:Nat):Int)⟩:=by
 intro b
 induction b using vw9 with
 | ind b ih =>
  intro a ha hb;by_cases hz:b=0
  ·subst hz;rw [qad (t:=⟨0,(a:Int)⟩) (by simp [qfw,qhe]),vyn]
  ·have h1:qhe ⟨0,(b:Int)⟩=some false:=by
    simp only [qhe];rw [if_pos (by rfl)];congr 1;simp;omega
   rw [qac (s':=(⟨0,(b:Int)⟩,⟨0,((a % b:Nat):Int)⟩)) (by simp only [qfw,h1,vvn,vtk,if_false,q15 a b (by omega) (by omega) hb]),ih (a % b) (vvg _ (by omega)) b hb (Nat.lt_trans (vvg _ (by omega)) hb)];rw [vyl a b,Nat.gcd_rec b a,vyl]
theorem q42 (n d:Nat) (hn:n < 2305843009213693952) (hd:0 < d) (hd':d < 2305843009213693952):qij (n:Int) (d:Int)=some (qoc n d,0):=by
 have hg:0 < vyk n d:=vym _ hd;have hgd:vyk n d≤d:=Nat.gcd_le_right _ hd;have h0:((d:Int) == 0)=false:=by simp;omega
 have hdn:n / vyk n d≤n:=vyj _ _;have hdd:d / vyk n d≤d:=vyj _ _;have e1:(decide ((n:Int) < 0))=false:=by simp
 have e2:(decide ((d:Int) < 0))=false:=by simp
 have s1:∀m:Nat,m < 2305843009213693952→qhf (m:Int)=some ⟨0,(m:Int)⟩:=by
  intro m hm;simp only [qhf];rw [if_neg (by omega),qq0 (by omega) (by omega)]
 have l1:∀m:Nat,m < 2305843009213693952→qcv ⟨0,9223372036854775807⟩ ⟨0,(m:Int)⟩=some false:=by
  intro m hm;have:=qxp 9223372036854775807 m;rw [show decide (9223372036854775807 < m)=false by simp;omega] at this;exact this
 simp only [qij,h0,vtk,if_false,s1 n hn,s1 d hd',vvn,qjl,vba d n hn hd',q15 n _ (by omega) hg (by omega),q15 d _ (by omega) hg (by omega),l1 _ (show n / vyk n d < 2305843009213693952 by omega),l1 _ (show d / vyk n d < 2305843009213693952 by omega),e1,e2,beq_self_eq_true,Bool.not_true];simp only [qoc];generalize n / vyk n d=p at *;generalize d / vyk n d=q at *;rw [qav (n:=(p:Int)) (by omega) (by omega),qav (n:=(q:Int)) (by omega) (by omega)]
theorem quv (n d:Nat) (hn:n < 2305843009213693952) (hd:0 < d) (hd':d < 2305843009213693952):qea (n:Int) (d:Int)=some (qoc n d):=by
 simp only [qea,q42 n d hn hd hd',vvn];rfl
theorem q16:∀a b:List UInt8,qse a b < 0↔ltS a b=true
 | [],[]=>by simp [qse,ltS,List.lt_irrefl]
 | [],y :: b=>by simp [qse,ltS]
 | x :: a,[]=>by simp [qse,ltS]
 | x :: a,y :: b=>by
  simp only [qse,ltS,decide_eq_true_eq,vxx];by_cases h:x=y
  ·subst h;have:=q16 a b;simp only [ltS,decide_eq_true_eq] at this;simp [this,UInt8.lt_irrefl]
  ·rw [if_neg h,vr9];simp only [h,false_and,or_false,UInt8.lt_iff_toNat_lt];omega
theorem vew (a b:List UInt8):0 < qse a b↔ltS b a=true:=by
 rw [←q16 b a,q8v a b];omega
theorem drop1 {α:Type} (x:α) (l:List α):(((x :: l).drop 1).take ((x :: l).length - 1))=l:=by simp
theorem vex:∀(m:Nat) (a b:List Str) (n:Nat),a.length+b.length=m→n+a.length≤1000000→qae qcg (a,b,(n:Int))=some ((n+qp5 ltS a b:Nat):Int):=by
 intro m
 induction m using vw9 with
 | ind m ih =>
  intro a b n hm hn;cases a with
  | nil=>rw [qad (t:=(n:Int)) (by simp [qcg])];simp [qp5]
  | cons x a =>
   cases b with
   | nil=>rw [qad (t:=(n:Int)) (by simp [qcg])];simp [qp5]
   | cons y b =>
    have c1:((x :: a).length:Int) > 0:=by simp only [vwl];omega
    have c2:((y :: b).length:Int) > 0:=by simp only [vwl];omega
    have c3:(1:Int)≤((x :: a).length:Int):=by simp only [vwl];omega
    have c4:(1:Int)≤((y :: b).length:Int):=by simp only [vwl];omega
    have g1:(x :: a)[0]?=some x:=rfl;have g2:(y :: b)[0]?=some y:=rfl;have w:=wqn n;have hB:qcg (x :: a,y :: b,(n:Int))=if qse x y < 0 then some (.next (a,y :: b,(n:Int))) else if qse x y > 0 then some (.next (x :: a,b,(n:Int))) else some (.next (a,b,((n+1:Nat):Int))):=by
     simp only [qcg,if_pos c1,if_pos c2,if_pos c3,if_pos c4,g1,g2,vvn,qtm,drop1,w]
    simp only [vwl] at hm hn;by_cases h1:qse x y < 0
    ·rw [if_pos h1] at hB;have l1:=(q16 x y).1 h1;rw [qac hB,ih _ (by simp only [vwl];omega) a (y :: b) n rfl (by omega)];simp only [qp5,l1,if_true]
    ·rw [if_neg h1] at hB;have l1:ltS x y=false:=by
      rcases vxi (ltS x y) with h | h
      ·exact absurd ((q16 x y).2 h) h1
      ·exact h
     by_cases h2:qse x y > 0
     ·rw [if_pos h2] at hB;have l2:=(vew x y).1 h2;rw [qac hB,ih _ (by simp only [vwl];omega) (x :: a) b n rfl (by simp only [vwl];omega)];simp only [qp5,l1,l2,if_true,if_false,vtk]
     ·rw [if_neg h2] at hB;have l2:ltS y x=false:=by
       rcases vxi (ltS y x) with h | h
       ·exact absurd ((vew x y).2 h) h2
       ·exact h
      rw [qac hB,ih _ (by omega) a b (n+1) rfl (by omega)];simp only [qp5,l1,l2,if_false,vtk];congr 2;omega
theorem qyz (l:List Str) (f:Str→Option Bool) (p:Str→Bool) (hf:∀x∈l,f x=some (p x)) (hl:l.length≤1073741824):qb5 l f=some (q7k (l.findIdx? p)):=by
 have h:=qj2 l (qau l f) p
  (fun k x hx hk hp=>by simp [qau,qaj hx,qaa hx,hf x (vup hx),hp,qbk hk (show l.length≤4611686018427387904 by omega)])
  (fun k x hx hp=>by simp [qau,qaj hx,qaa hx,hf x (vup hx),hp])
  (by simp [qau])
 simp only [qb5,h,vvn];cases l.findIdx? p <;> rfl
theorem qy0 (l:List Int) (f:Int→Option Bool) (p:Int→Bool) (hf:∀x∈l,f x=some (p x)) (hl:l.length≤1073741824):qe2 l f=some (q7k (l.findIdx? p)):=by
 have h:=qj2 l (qb7 l f) p
  (fun k x hx hk hp=>by simp [qb7,qaj hx,qaa hx,hf x (vup hx),hp,qbk hk (show l.length≤4611686018427387904 by omega)])
  (fun k x hx hp=>by simp [qb7,qaj hx,qaa hx,hf x (vup hx),hp])
  (by simp [qb7])
 simp only [qe2,h,vvn];cases l.findIdx? p <;> rfl
theorem qy1 (l:List (List Similar)) (f:List Similar→Option Bool) (p:List Similar→Bool) (hf:∀x∈l,f x=some (p x)) (hl:l.length≤1073741824):qc0 l f=some (q7k (l.findIdx? p)):=by
 have h:=qj2 l (qbh l f) p
  (fun k x hx hk hp=>by simp [qbh,qaj hx,qaa hx,hf x (vup hx),hp,qbk hk (show l.length≤4611686018427387904 by omega)])
  (fun k x hx hp=>by simp [qbh,qaj hx,qaa hx,hf x (vup hx),hp])
  (by simp [qbh])
 simp only [qc0,h,vvn];cases l.findIdx? p <;> rfl
theorem qy2 (l:List Similar) (f:Similar→Option Bool) (p:Similar→Bool) (hf:∀x∈l,f x=some (p x)) (hl:l.length≤1073741824):qce l f=some (q7k (l.findIdx? p)):=by
 have h:=qj2 l (qa9 l f) p
  (fun k x hx hk hp=>by simp [qa9,qaj hx,qaa hx,hf x (vup hx),hp,qbk hk (show l.length≤4611686018427387904 by omega)])
  (fun k x hx hp=>by simp [qa9,qaj hx,qaa hx,hf x (vup hx),hp])
  (by simp [qa9])
 simp only [qce,h,vvn];cases l.findIdx? p <;> rfl
theorem qkw (l:List Int) (f:Int→Option Bool) (p:Int→Bool) (hf:∀x∈l,f x=some (p x)) (hl:l.length≤1073741824):qa4 l f=some (l.any p):=by
 simp only [qa4,qy0 l f p hf hl,vvn];exact congrArg some (qv1 p l)
theorem quw (l:List Similar) (f:Similar→Option Bool) (p:Similar→Bool) (hf:∀x∈l,f x=some (p x)) (hl:l.length≤1073741824):qbi l f=some (l.any p):=by
 simp only [qbi,qy2 l f p hf hl,vvn];exact congrArg some (qv1 p l)
theorem vey (a b:Str) (ha:a.length≤200) (hb:b.length≤200):qc6 [a,b]=some false:=by
 simp only [qc6,qcd,qyz [a,b] (fun y=>qcz y) (fun x=>decide ((x.length:Int) > 200)) (fun _ _=>rfl) (by simp),vvn];have h1:¬((a.length:Int) > 200):=by omega
 have h2:¬((b.length:Int) > 200):=by omega
 simp [vx0,h1,h2,q7k]
def qvj (a b:Str) (i j:Nat):List Int:=(vuv (b.length+1)).map fun k=>if j≤k then ((sed (a.drop i) (b.drop k):Nat):Int) else 0
def qvk (a b:Str) (i j:Nat):List (List Int):=(vuv (a.length+1)).map fun k=>if i < k then qvj a b k 0 else if i=k then qvj a b k j else vux (b.length+1) 0
theorem vez {α:Type} [DecidableEq α]:∀a b:List α,sed a b≤a.length+b.length
 | [],b=>by rw [qit];simp
 | x :: a,[]=>by rw [qgy];simp
 | x :: a,y :: b=>by
  have h1:=vez a b;have h2:=vez a (y :: b);by_cases h:x=y
  ·subst h;rw [qkl];simp only [vwl];omega
  ·rw [qko h];simp only [vwl] at *;omega
termination_by a b=>a.length+b.length
theorem q17 (a b:Str) (i j:Nat):(qvj a b i j).length=b.length+1:=by simp [qvj]
theorem qq1 (a b:Str) (i j:Nat):(qvk a b i j).length=a.length+1:=by simp [qvk]
theorem qnb {a b:Str} {i j k:Nat} (h:k≤b.length):(qvj a b i j)[k]?=some (if j≤k then ((sed (a.drop i) (b.drop k):Nat):Int) else 0):=by
 simp only [qvj,vt8,vx2 (show k < b.length+1 by omega),vvs]
theorem qnc {a b:Str} {i j k:Nat} (h:k≤a.length):(qvk a b i j)[k]?=some (if i < k then qvj a b k 0 else if i=k then qvj a b k j else vux (b.length+1) 0):=by
 simp only [qvk,vt8,vx2 (show k < a.length+1 by omega),vvs]
theorem viq (a b:Str) (i:Nat):qvj a b i (b.length+1)=vux (b.length+1) 0:=by
 refine vtz fun k=>?_
 by_cases h:k≤b.length
 ·rw [qnb h,vua,if_neg (by omega),if_pos (by omega)]
 ·simp only [qvj,vt8,vt6 (show (vuv (b.length+1)).length≤k by simp;omega),vua];rw [if_neg (by omega)];rfl
theorem vir {a b:Str} {i j:Nat} (h:j≤b.length):(qvj a b i (j+1)).set j ((sed (a.drop i) (b.drop j):Nat):Int)=qvj a b i j:=by
 refine vtz fun k=>?_
 rw [vwh];by_cases hk:k≤b.length
 ·rw [qnb hk,qnb hk,q17];by_cases e:j=k
  ·subst e;simp;omega
  ·rw [if_neg e];congr 1;by_cases hjk:j≤k
   ·rw [if_pos hjk,if_pos (by omega)]
   ·rw [if_neg hjk,if_neg (by omega)]
 ·have h1:(qvj a b i (j+1))[k]?=none:=vt6 (by rw [q17];omega);have h2:(qvj a b i j)[k]?=none:=vt6 (by rw [q17];omega);rw [if_neg (by omega),h1,h2]
theorem vis {a b:Str} {i j:Nat} (hi:i≤a.length) (h:j≤b.length):(qvk a b i (j+1)).set i (qvj a b i j)=qvk a b i j:=by
 refine vtz fun k=>?_
 rw [vwh];by_cases hk:k≤a.length
 ·rw [qnc hk,qnc hk,qq1];by_cases e:i=k
  ·subst e;simp;omega
  ·rw [if_neg e];simp [e]
 ·have h1:(qvk a b i (j+1))[k]?=none:=vt6 (by rw [qq1];omega);have h2:(qvk a b i j)[k]?=none:=vt6 (by rw [qq1];omega);rw [if_neg (by omega),h1,h2]
theorem ve0 {a b:Str} {i:Nat}:qvk a b (i+1) 0=qvk a b i (b.length+1):=by
 refine vtz fun k=>?_
 by_cases hk:k≤a.length
 ·rw [qnc hk,qnc hk];congr 1;by_cases h1:i+1 < k
  ·rw [if_pos h1,if_pos (by omega)]
  ·rw [if_neg h1];by_cases h2:i+1=k
   ·subst h2;rw [if_pos rfl,if_pos (by omega)]
   ·rw [if_neg h2,if_neg (by omega)];by_cases h3:i=k
    ·rw [if_pos h3,viq]
    ·rw [if_neg h3]
 ·have h1:(qvk a b (i+1) 0)[k]?=none:=vt6 (by rw [qq1];omega);have h2:(qvk a b i (b.length+1))[k]?=none:=vt6 (by rw [qq1];omega);rw [h1,h2]
theorem q82 {α:Type} (l:List α):l.drop l.length=[]:=List.drop_length
theorem vbb (a b:Str) (ha:a.length≤200) (hb:b.length≤200) (i:Nat) (hi:i≤a.length):∀(j:Nat),j≤b.length+1→qae (qba a b (i:Int)) (qvk a b i j,(j:Int) - 1)=some (qvk a b i 0):=by
 intro j
 induction j with
 | zero=>intro _;exact qad (by simp [qba])
 | succ j ih =>
  intro hj;have hj':j≤b.length:=by omega
  have e0:(((j+1:Nat):Int) - 1)=(j:Int):=by omega
  have c0:(j:Int)≥0:=by omega
  have gi:idx (qvk a b i (j+1)) (i:Int)=some (qvj a b i (j+1)):=by
   rw [qaa (qnc hi)];simp
  have gj:∀v,(qvj a b i (j+1))[j]?=some v→idx (qvj a b i (j+1)) (j:Int)=some v:=fun v h=>qaa h
  have gj0:idx (qvj a b i (j+1)) (j:Int)=some 0:=by rw [qaa (qnb hj'),if_neg (by omega)]
  have wj:vxs.wrap ((j:Int) - 1)=(j:Int) - 1:=qav (by omega) (by omega);have wi:=wqn i;have wj1:=wqn j;rw [e0];refine (qac (s':=(qvk a b i j,(j:Int) - 1)) ?_).trans (ih (by omega));have key:∀v:Int,v=((sed (a.drop i) (b.drop j):Nat):Int)→(qvk a b i (j+1)).set (i:Int).toNat ((qvj a b i (j+1)).set (j:Int).toNat v)=qvk a b i j:=by
   intro v hv;rw [hv,vxr,vxr,vir hj',vis hi hj']
  by_cases h1:i=a.length
  ·have c1:((i:Int) == (a.length:Int))=true:=by simp [h1]
   have hv:vxs.wrap ((b.length:Int) - (j:Int))=((sed (a.drop i) (b.drop j):Nat):Int):=by
    rw [qav (by omega) (by omega),h1,q82,qit,vue];omega
   simp only [qba,if_pos c0,c1,if_true,gi,vvn,gj0,key _ hv,wj]
  ·have c1:((i:Int) == (a.length:Int))=false:=by simp;omega
   by_cases h2:j=b.length
   ·have c2:((j:Int) == (b.length:Int))=true:=by simp [h2]
    have hv:vxs.wrap ((a.length:Int) - (i:Int))=((sed (a.drop i) (b.drop j):Nat):Int):=by
     rw [qav (by omega) (by omega),h2,q82,qgy,vue];omega
    simp only [qba,if_pos c0,c1,c2,if_true,vtk,if_false,gi,vvn,gj0,key _ hv,wj]
   ·have c2:((j:Int) == (b.length:Int))=false:=by simp;omega
    have hia:i < a.length:=by omega
    have hjb:j < b.length:=by omega
    have ga:a[i]?=some a[i]:=vt5 hia;have gb:b[j]?=some b[j]:=vt5 hjb;have da:=qji ga;have db:=qji gb;have gi1:idx (qvk a b i (j+1)) ((i+1:Nat):Int)=some (qvj a b (i+1) 0):=by
     rw [qaa (qnc (show i+1≤a.length by omega))];simp
    have r1:idx (qvj a b (i+1) 0) ((j+1:Nat):Int)=some ((sed (a.drop (i+1)) (b.drop (j+1)):Nat):Int):=by
     rw [qaa (qnb (show j+1≤b.length by omega))];simp
    have r2:idx (qvj a b (i+1) 0) (j:Int)=some ((sed (a.drop (i+1)) (b.drop j):Nat):Int):=by
     rw [qaa (qnb hj')];simp
    have r3:idx (qvj a b i (j+1)) ((j+1:Nat):Int)=some ((sed (a.drop i) (b.drop (j+1)):Nat):Int):=by
     rw [qaa (qnb (show j+1≤b.length by omega))];simp
    by_cases h:a[i]=b[j]
    ·have c3:(((a[i].toNat:Nat):Int) == ((b[j].toNat:Nat):Int))=true:=by simp [h]
     have hv:((sed (a.drop (i+1)) (b.drop (j+1)):Nat):Int)=((sed (a.drop i) (b.drop j):Nat):Int):=by
      rw [da,db,h,qkl]
     simp only [qba,if_pos c0,c1,c2,c3,if_true,vtk,if_false,qaa ga,qaa gb,gi,vvn,gj0,wi,wj1,gi1,r1,key _ hv,wj]
    ·have c3:(((a[i].toNat:Nat):Int) == ((b[j].toNat:Nat):Int))=false:=by
      rw [beq_eq_false_iff_ne];exact fun e=>h (UInt8.toNat_inj.1 (by omega))
     have hle:=vez (a.drop i) (b.drop j);simp only [vue] at hle;have hs:sed (a.drop i) (b.drop j)=1+min (min (sed (a.drop (i+1)) (b.drop (j+1))) (sed (a.drop (i+1)) (b.drop j))) (sed (a.drop i) (b.drop (j+1))):=by
      rw [da,db,qko h,←da,←db]
     have hv:vxs.wrap (1+(if ((sed (a.drop i) (b.drop (j+1)):Nat):Int) < (if ((sed (a.drop (i+1)) (b.drop j):Nat):Int) < ((sed (a.drop (i+1)) (b.drop (j+1)):Nat):Int) then ((sed (a.drop (i+1)) (b.drop j):Nat):Int) else ((sed (a.drop (i+1)) (b.drop (j+1)):Nat):Int)) then ((sed (a.drop i) (b.drop (j+1)):Nat):Int) else (if ((sed (a.drop (i+1)) (b.drop j):Nat):Int) < ((sed (a.drop (i+1)) (b.drop (j+1)):Nat):Int) then ((sed (a.drop (i+1)) (b.drop j):Nat):Int) else ((sed (a.drop (i+1)) (b.drop (j+1)):Nat):Int))))=((sed (a.drop i) (b.drop j):Nat):Int):=by
      rw [min3,hs];rw [hs] at hle;generalize min (min (sed (a.drop (i+1)) (b.drop (j+1))) (sed (a.drop (i+1)) (b.drop j))) (sed (a.drop i) (b.drop (j+1)))=m at *;rw [qav (by omega) (by omega)];omega
     simp only [qba,if_pos c0,c1,c2,c3,if_true,vtk,if_false,qaa ga,qaa gb,gi,vvn,gj0,wi,wj1,gi1,r1,r2,r3,key _ hv,wj]
theorem vbc (a b:Str) (ha:a.length≤200) (hb:b.length≤200):∀(i:Nat),i≤a.length+1→qae (qc7 a b) (qvk a b i 0,(i:Int) - 1)=some (qvk a b 0 0):=by
 intro i
 induction i with
 | zero=>intro _;exact qad (by simp [qc7])
 | succ i ih =>
  intro hi;have e0:(((i+1:Nat):Int) - 1)=(i:Int):=by omega
  have c0:(i:Int)≥0:=by omega
  have wi:vxs.wrap ((i:Int) - 1)=(i:Int) - 1:=qav (by omega) (by omega);have hin:=vbb a b ha hb i (by omega) (b.length+1) (vvb _);rw [←ve0,show (((b.length+1:Nat):Int) - 1)=(b.length:Int) by omega] at hin;rw [e0];refine (qac (s':=(qvk a b i 0,(i:Int) - 1)) ?_).trans (ih (by omega));simp only [qc7,if_pos c0,hin,vvn,wi]
theorem ve1 {α:Type} {x y:α} {n k:Nat} (h:k < n):(vux k y++vux (n - k) x).set k y=vux (k+1) y++vux (n - (k+1)) x:=by
 rw [show n - k=(n - (k+1))+1 by omega,vyb,vyf _ _ (by simp),vuh,Nat.sub_self,List.set_cons_zero,vyc,vts];rfl
theorem ve2 (a b:Str) (ha:a.length≤200) (hb:b.length≤200):qae (qb6 a b) (vux (a.length+1) [],0)=some (qvk a b (a.length+1) 0):=by
 have w1:vxs.wrap ((a.length:Int)+1)=((a.length+1:Nat):Int):=qkk (by omega);have w2:vxs.wrap ((b.length:Int)+1)=((b.length+1:Nat):Int):=qkk (by omega);have hroom:qao (b.length+1) 8=true:=vet (by omega);have h0:(0:Int)≤((b.length+1:Nat):Int):=by omega
 have key:∀(d k:Nat),k+d=a.length+1→qae (qb6 a b) (vux k (vux (b.length+1) (0:Int))++vux (a.length+1 - k) [],(k:Int))=some (vux (a.length+1) (vux (b.length+1) (0:Int))):=by
  intro d
  induction d with
  | zero =>
   intro k hk;obtain rfl:k=a.length+1:=by omega
   have c:¬(((a.length+1:Nat):Int) < (((vux (a.length+1) ([]:List Int)).length:Nat):Int)):=by simp
   exact qad (by simp only [qb6,w1,vxr,if_neg c,Nat.sub_self,vyd,vtt])
  | succ d ih =>
   intro k hk;have c:((k:Int) < (((vux (a.length+1) ([]:List Int)).length:Nat):Int)):=by simp;omega
   have g:idx (vux k (vux (b.length+1) (0:Int))++vux (a.length+1 - k) []) (k:Int)=some []:=by
    refine qaa ?_;rw [List.getElem?_append,vuh,if_neg (by omega),vua,if_pos (by omega)]
   refine (qac (s':=(vux (k+1) (vux (b.length+1) (0:Int))++vux (a.length+1 - (k+1)) [],((k+1:Nat):Int))) ?_).trans (ih (k+1) (by omega));simp only [qb6,w1,w2,vxr,if_pos c,if_pos h0,hroom,if_true,g,vvn,wqn k,ve1 (show k < a.length+1 by omega)]
 have h:=key (a.length+1) 0 (by omega);simp only [vyd,vuu,Nat.sub_zero,vxn] at h;rw [h];congr 1;refine vtz fun k=>?_
 by_cases hk:k≤a.length
 ·rw [qnc hk,vua,if_pos (by omega),if_neg (by omega),if_neg (by omega)]
 ·have h2:(qvk a b (a.length+1) 0)[k]?=none:=vt6 (by rw [qq1];omega);rw [h2,vua,if_neg (by omega)]
theorem q43 (a b:Str) (ha:a.length≤200) (hb:b.length≤200):qfm a b=some (((sed a b:Nat):Int),0):=by
 have w1:vxs.wrap ((a.length:Int)+1)=((a.length+1:Nat):Int):=qkk (by omega);have h0:(0:Int)≤((a.length+1:Nat):Int):=by omega
 have hroom:qao (a.length+1) 24=true:=by
  unfold qao;simp only [decide_eq_true_eq];omega
 have ho:=vbc a b ha hb (a.length+1) (vvb _);rw [show (((a.length+1:Nat):Int) - 1)=(a.length:Int) by omega] at ho;have hd:qe1 a b=some (qvk a b 0 0):=by
  simp only [qe1,w1,vxr,if_pos h0,hroom,if_true,ve2 a b ha hb,vvn,ho]
 have g1:(qvk a b 0 0)[0]?=some (qvj a b 0 0):=by rw [qnc (vxc _)];simp
 have g2:(qvj a b 0 0)[0]?=some ((sed a b:Nat):Int):=by rw [qnb (vxc _)];simp
 simp only [qfm,vey a b ha hb,vvn,vtk,if_false,hd,g1,g2]
theorem q44 (a b:Str) (ha:a.length≤200) (hb:b.length≤200):qd0 a b=some ((sed a b:Nat):Int):=by
 rw [q7n a b (by omega) (by omega),vna]
end Go.Proofs.YtmlegeeinnkhkaaGreat

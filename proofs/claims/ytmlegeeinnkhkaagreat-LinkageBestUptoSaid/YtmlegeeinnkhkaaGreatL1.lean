/- The Lean functions that the program's functions are lifted to, and the plain laws about them. -/
import Derived.Lib.Repeat
import Derived.Test.YtmlegeeinnkhkaaGreatA3
import Derived.Test.YtmlegeeinnkhkaaGreatA2
set_option linter.unusedVariables false
set_option linter.unusedSimpArgs false
open Bool renaming and_eq_true→vs2,eq_false_or_eq_true→vw2,eq_iff_iff→vw3,false_eq_true→vs4,not_eq_true→vw4,true_eq_false→vs8
open Int renaming fdiv→vw5,natCast_inj→vw6,natCast_zero→vw7,ofNat_tmod→vw8,tdiv→vw9,tmod→vxa,toNat_natCast→vxb
open Go.IntKind renaming i64→vxc,u32→vxd,u64→vxe
open Go.Lib renaming compareBytes→vxf
open List renaming Perm→vxg,append_assoc→vtc,append_nil→vtd,cons_append→vvu,cons_lt_cons_iff→vxh,drop_drop→vxi,drop_eq_getElem_cons→vtf,drop_of_length_le→vtg,drop_zero→vxj,eq_nil_of_length_eq_zero→vti,ext_getElem?→vtj,findIdx?_cons→vxk,flatten_cons→vxl,foldl_cons→vxm,getD_eq_getElem?_getD→vvx,getElem?_append_left→vtm,getElem?_append_right→vtn,getElem?_drop→vto,getElem?_eq_getElem→vtp,getElem?_eq_none→vtq,getElem?_eq_some_iff→vtr,getElem?_map→vts,getElem?_range→vxn,getElem?_replicate→vtu,getElem?_set→vv1,length→vxo,length_append→vtx,length_cons→vv5,length_drop→vty,length_nil→vt0,length_range→vv9,length_replicate→vt1,length_singleton→vwa,length_take→vt3,map_append→vt4,map_congr_left→vwc,map_cons→vt5,map_singleton→vxp,mem_cons→vwf,mem_cons_of_mem→vwg,mem_cons_self→vwh,mem_flatMap→vt8,mem_flatten→vxq,mem_map→vwj,mem_of_getElem?→vt9,mem_range→vwl,mem_singleton→vwm,nil_append→vue,not_lt→vxr,pairwise_cons→vxs,pairwise_iff_forall_sublist→vxt,pairwise_lt_range→vxu,pairwise_reverse→vxv,range→vuf,range_succ→vxw,replicate→vuh,replicate_succ→vxx,replicate_succ'→vxy,replicate_zero→vxz,reverse_perm→vx0,set_append_right→vx1,singleton_append→vx2,sum_cons→vx3,take_add_one→vx4,take_append_drop→vwp,take_length→vx5,take_zero→vum
open Nat renaming add_mul→vup,div_le_self→vx6,gcd→vx7,gcd_comm→vx8,gcd_pos_of_pos_right→vx9,gcd_zero_right→vya,le_refl→vuv,le_total→vyb,le_trans→vux,min_eq_left→vws,min_eq_right→vyc,mod_lt→vu0,one_mul→vu3,strongRecOn→vwt,zero_le→vww
open Option renaming bind_some→vu7,map_some→vvc
open Option.some renaming inj→vwz,injEq→vvd
open Prod.mk renaming injEq→vve
noncomputable section
namespace Go.Proofs.YtmlegeeinnkhkaaGreat
open Go Go.Ab
structure Value where
 Kind:Int
 Num:Int
 Str:List UInt8
 deriving DecidableEq
structure Similar where
 Attr:Int
 Measure:Int
 Limit:Int
 deriving DecidableEq
structure Ratio where
 Num:Int
 Den:Int
 deriving DecidableEq
structure Row where
 ID:Int
 Values:List Value
 deriving DecidableEq
structure Linkage where
 Rules:List (List Similar)
 Block:List Int
 Survive:List Int
 deriving DecidableEq
structure Table where
 Name:List UInt8
 Attrs:List (List UInt8)
 Rows:List Row
 deriving DecidableEq
structure Arr2_int where
 x0:Int
 x1:Int
 deriving DecidableEq
structure Arr2_int64 where
 x0:Int
 x1:Int
 deriving DecidableEq
structure Pair where
 I:Int
 K:Int
 Weight:Int
 deriving DecidableEq
structure Cluster_search where
 w:List (List Int)
 labels:List Int
 best:List Int
 least:Int
 deriving DecidableEq
structure Drossref04_Wide where
 Hi:Int
 Lo:Int
 deriving DecidableEq
structure Drossref56_Test where
 Attr:Int
 Measure:Int
 Limit:Int
 deriving DecidableEq
structure Drossref56_Draft where
 Rules:List (List Drossref56_Test)
 Block:Int
 Survive:List Int
 deriving DecidableEq
structure Drossref03_Recipe where
 Attrs:Int
 Gap:Int
 Rows:List (List Int)
 deriving DecidableEq
structure Merged where
 Table:Table
 Clusters:List (List Int)
 Origins:List (List Int)
 deriving DecidableEq
structure Drossref55_Result where
 Value:Value
 Origin:Int
 deriving DecidableEq
structure Drossref55_Row where
 Row:Row
 Origins:List Int
 deriving DecidableEq
def qiw (v_1:Value):Option (Bool) :=
 if (v_1.Kind == 0)=true then
 if (v_1.Num == 0)=true then
 some (v_1.Str == [])
 else
 some false
 else
 if (v_1.Kind == 1)=true then
 some (v_1.Str == [])
 else
 if (v_1.Kind == 2)=true then
 if (v_1.Num == 0)=true then
 some (decide ((v_1.Str.length:Int)≤200))
 else
 some false
 else
 if (v_1.Kind == 3)=true then
 if v_1.Num≥1 then
 some (v_1.Str == [])
 else
 some false
 else
 some false
def qg9 (c_10:Similar):Option (Bool) :=
 if (c_10.Measure == 1)=true then
 some (c_10.Limit == 0)
 else
 if (c_10.Measure == 2)=true then
 if c_10.Limit≥0 then
 some (decide (c_10.Limit≤200))
 else
 some false
 else
 if (c_10.Measure == 4)=true then
 if c_10.Limit≥0 then
 some (decide (c_10.Limit≤200))
 else
 some false
 else
 if (c_10.Measure == 3)=true then
 if c_10.Limit≥0 then
 some (decide (c_10.Limit≤100))
 else
 some false
 else
 some false
def qas (s_19:List (List UInt8)) (f_20:(List UInt8)→Option (Bool)):Int→Option (LS (Int) ((Unit) ⊕ (Int))):=fun t8_30 =>
 if t8_30 < (s_19.length:Int) then
 (idx s_19 t8_30).bind fun (x_40:List UInt8) =>
 (f_20 x_40).bind fun (r_42:Bool) =>
 if r_42=true then
 some (.done (.inr t8_30))
 else
 some (.next (vxc.wrap (t8_30+1)))
 else
 some (.done (.inl ()))
def qb1 (s_19:List (List UInt8)) (f_20:(List UInt8)→Option (Bool)):Option (Int) :=
 (qag (qas s_19 f_20) 0).bind (fun o=>match o with
 | .inl () =>
 some (-1)
 | .inr r_47 =>
 some r_47)
def qb8 (s_51:List (List UInt8)) (f_52:(List UInt8)→Option (Bool)):Option (Bool) :=
 (qb1 s_51 f_52).bind fun (r_55:Int) =>
 some (decide (r_55≥0))
def qco (s_58:List UInt8):Option (Bool) :=
 some (decide ((s_58.length:Int) > 200))
def qcv (l_60:List (List UInt8)):Option (Bool) :=
 (qb8 l_60 (fun (y_61:List UInt8)=>qco y_61)).bind fun (r_62:Bool) =>
 some r_62
def qb2 (a1:List UInt8) (b2:List UInt8):(List (List Int)×Int)→Option (LS (List (List Int)×Int) (List (List Int))):=fun (d3,t4) =>
 if t4 < ((((vuh (vxc.wrap ((a1.length:Int)+1)).toNat ([]:List Int))).length:Nat):Int) then
 if 0≤(vxc.wrap ((b2.length:Int)+1)) then
 if qao (vxc.wrap ((b2.length:Int)+1)).toNat 8=true then
 (idx d3 t4).bind fun (x5:List Int) =>
 some (.next ((d3.set t4.toNat (vuh (vxc.wrap ((b2.length:Int)+1)).toNat 0)),(vxc.wrap (t4+1))))
 else none
 else none
 else
 some (.done d3)
def qa8 (a1:List UInt8) (b2:List UInt8) (i3:Int):(List (List Int)×Int)→Option (LS (List (List Int)×Int) (List (List Int))):=fun (d4,j5) =>
 if j5≥0 then
 if (i3 == (a1.length:Int))=true then
 (idx d4 i3).bind fun (x6:List Int) =>
 (idx x6 j5).bind fun (x7:Int) =>
 some (.next ((d4.set i3.toNat (x6.set j5.toNat (vxc.wrap ((b2.length:Int) - j5)))),(vxc.wrap (j5 - 1))))
 else
 if (j5 == (b2.length:Int))=true then
 (idx d4 i3).bind fun (x8:List Int) =>
 (idx x8 j5).bind fun (x9:Int) =>
 some (.next ((d4.set i3.toNat (x8.set j5.toNat (vxc.wrap ((a1.length:Int) - i3)))),(vxc.wrap (j5 - 1))))
 else
 (idx a1 i3).bind fun (c10:UInt8) =>
 (idx b2 j5).bind fun (c11:UInt8) =>
 if (((c10.toNat:Nat):Int) == ((c11.toNat:Nat):Int))=true then
 (idx d4 i3).bind fun (x12:List Int) =>
 (idx d4 (vxc.wrap (i3+1))).bind fun (x13:List Int) =>
 (idx x13 (vxc.wrap (j5+1))).bind fun (x14:Int) =>
 (idx x12 j5).bind fun (x15:Int) =>
 some (.next ((d4.set i3.toNat (x12.set j5.toNat x14)),(vxc.wrap (j5 - 1))))
 else
 (idx d4 i3).bind fun (x16:List Int) =>
 (idx d4 (vxc.wrap (i3+1))).bind fun (x17:List Int) =>
 (idx x17 (vxc.wrap (j5+1))).bind fun (x18:Int) =>
 (idx x17 j5).bind fun (x19:Int) =>
 (idx x16 (vxc.wrap (j5+1))).bind fun (x20:Int) =>
 (idx x16 j5).bind fun (x21:Int) =>
 some (.next ((d4.set i3.toNat (x16.set j5.toNat (vxc.wrap (1+(if x20 < (if x19 < x18 then x19 else x18) then x20 else (if x19 < x18 then x19 else x18)))))),(vxc.wrap (j5 - 1))))
 else
 some (.done d4)
def qcw (a1:List UInt8) (b2:List UInt8):(List (List Int)×Int)→Option (LS (List (List Int)×Int) (List (List Int))):=fun (d3,i4) =>
 if i4≥0 then
 (qag (qa8 a1 b2 i4) (d3,(b2.length:Int))).bind (fun d5 =>
 some (.next (d5,(vxc.wrap (i4 - 1)))))
 else
 some (.done d3)
def qeh (a1:List UInt8) (b2:List UInt8):Option (List (List Int)) :=
 if 0≤(vxc.wrap ((a1.length:Int)+1)) then
 if qao (vxc.wrap ((a1.length:Int)+1)).toNat 24=true then
 (qag (qb2 a1 b2) ((vuh (vxc.wrap ((a1.length:Int)+1)).toNat ([]:List Int)),0)).bind (fun d3 =>
 (qag (qcw a1 b2) (d3,(a1.length:Int))).bind (fun d4 =>
 some d4))
 else none
 else none
def qe0 (a1:List UInt8) (b2:List UInt8):Option (Int×Int) :=
 (qcv [a1,b2]).bind fun (r3:Bool) =>
 if r3=true then
 some (0,3)
 else
 (qeh a1 b2).bind fun (r4:List (List Int)) =>
 (r4[0]?).bind fun (x5:List Int) =>
 (x5[0]?).bind fun (x6:Int) =>
 some (x6,0)
def qh6 (a1:List UInt8) (b2:List UInt8) (m3:Int):Option (Bool×Int) :=
 (qe0 a1 b2).bind fun (r4:Int×Int) =>
 if (r4.2 == 0)=true then
 some ((decide (r4.1≤m3)),r4.2)
 else
 some (false,r4.2)
def qno (n1:Int):Option (Int) :=
 if n1 < 0 then
 some (vxe.wrap (0 - (vxe.wrap n1)))
 else
 some (vxe.wrap n1)
def qkc:(Int×Int)→Option (LS (Int×Int) (Int)):=fun (a1,b2) =>
 if b2 > 0 then
 if b2=0 then none else
 some (.next (b2,(vxa a1 b2)))
 else
 some (.done a1)
def qo9 (a1:Int) (b2:Int):Option (Int) :=
 (qag qkc (a1,b2)).bind (fun a3 =>
 some a3)
def qvo (n1:Bool) (n2:Int) (d3:Int):Option (Ratio×Int) :=
 if n2 > 9223372036854775807 then
 some ((Ratio.mk 0 0),7)
 else
 if d3 > 9223372036854775807 then
 some ((Ratio.mk 0 0),7)
 else
 if n1=true then
 some ((Ratio.mk (vxc.wrap (0 - (vxc.wrap n2))) (vxc.wrap d3)),0)
 else
 some ((Ratio.mk (vxc.wrap n2) (vxc.wrap d3)),0)
def qi5 (n1:Int) (d2:Int):Option (Ratio×Int) :=
 if (d2 == 0)=true then
 some ((Ratio.mk 0 0),8)
 else
 (qno n1).bind fun (r3:Int) =>
 (qno d2).bind fun (r4:Int) =>
 (qo9 r3 r4).bind fun (r5:Int) =>
 if r5=0 then none else
 (qvo (!((decide (n1 < 0)) == (decide (d2 < 0)))) (vxe.wrap (vw9 r3 r5)) (vxe.wrap (vw9 r4 r5))).bind fun (r6:Ratio×Int) =>
 some (r6.1,r6.2)
def strings_Repeat (x:List UInt8) (n:Int):Option (List UInt8):=repF x n
def qe1 (s1:List UInt8) (q2:Int) (w3:List UInt8):(List (List UInt8)×Int)→Option (LS (List (List UInt8)×Int) (List (List UInt8))):=fun (o4,t5) =>
 if t5 < (vxc.wrap ((vxc.wrap ((s1.length:Int)+q2)) - 1)) then
 if 0≤t5 then
 if t5≤(vxc.wrap (t5+q2)) then
 if (vxc.wrap (t5+q2))≤(w3.length:Int) then
 if qao (o4.length+1) 16=true then
 some (.next ((o4++[((w3.drop t5.toNat).take ((vxc.wrap (t5+q2)).toNat - t5.toNat))]),(vxc.wrap (t5+1))))
 else none
 else none
 else none
 else none
 else
 some (.done o4)
def qc7 (s1:List UInt8) (q2:Int):Option (List (List UInt8)×Int) :=
 (qcv [s1]).bind fun (r3:Bool) =>
 if r3=true then
 some ([],3)
 else
 if q2 < 1 then
 some ([],7)
 else
 if q2 > 4 then
 some ([],7)
 else
 (strings_Repeat [1] (vxc.wrap (q2 - 1))).bind fun (r4:List UInt8) =>
 if r4.length+s1.length≤9223372036854775807 then
 (some (r4++s1)).bind fun (w5:List UInt8) =>
 if w5.length+r4.length≤9223372036854775807 then
 (some (w5++r4)).bind fun (w6:List UInt8) =>
 (qag (qe1 s1 q2 w6) ([],0)).bind (fun o7 =>
 (q6g o7).bind fun (l8:List (List UInt8)) =>
 some (l8,0))
 else none
 else none
def qfx (a1:List UInt8) (b2:List UInt8):Option (Int) :=
 some (vxf a1 b2)
def qhn (a1:List UInt8) (b2:List UInt8):Option (Int) :=
 (qfx a1 b2).bind fun (r3:Int) =>
 some r3
def qca:(List (List UInt8)×List (List UInt8)×Int)→Option (LS (List (List UInt8)×List (List UInt8)×Int) (Int)):=fun (a1,b2,n3) =>
 if (a1.length:Int) > 0 then
 if (b2.length:Int) > 0 then
 (a1[0]?).bind fun (x4:List UInt8) =>
 (b2[0]?).bind fun (x5:List UInt8) =>
 (qhn x4 x5).bind fun (r6:Int) =>
 if r6 < 0 then
 if (1:Int)≤(a1.length:Int) then
 some (.next (((a1.drop 1).take (a1.length - 1)),b2,n3))
 else none
 else
 if r6 > 0 then
 if (1:Int)≤(b2.length:Int) then
 some (.next (a1,((b2.drop 1).take (b2.length - 1)),n3))
 else none
 else
 if (1:Int)≤(a1.length:Int) then
 if (1:Int)≤(b2.length:Int) then
 some (.next (((a1.drop 1).take (a1.length - 1)),((b2.drop 1).take (b2.length - 1)),(vxc.wrap (n3+1))))
 else none
 else none
 else
 some (.done n3)
 else
 some (.done n3)
def qgg (a1:List (List UInt8)) (b2:List (List UInt8)):Option (Int) :=
 (qag qca (a1,b2,0)).bind (fun n3 =>
 some n3)
def qgh (a1:List UInt8) (b2:List UInt8) (q3:Int):Option (Ratio×Int) :=
 (qcv [a1,b2]).bind fun (r4:Bool) =>
 if r4=true then
 some ((Ratio.mk 0 0),3)
 else
 (qc7 a1 q3).bind fun (r5:List (List UInt8)×Int) =>
 (qc7 b2 q3).bind fun (r6:List (List UInt8)×Int) =>
 if (r5.2 != 0)=true then
 some ((Ratio.mk 0 0),r5.2)
 else
 if ((vxc.wrap ((r5.1.length:Int)+(r6.1.length:Int))) == 0)=true then
 some ((Ratio.mk 1 1),0)
 else
 (qgg r5.1 r6.1).bind fun (r7:Int) =>
 (qi5 (vxc.wrap (2 * r7)) (vxc.wrap ((r5.1.length:Int)+(r6.1.length:Int)))).bind fun (r8:Ratio×Int) =>
 some (r8.1,r8.2)
def qbz (x1:Row) (y2:Row) (c3:Similar):Option (Bool×Int) :=
 if c3.Attr < 0 then
 some (false,6)
 else
 if c3.Attr≥(x1.Values.length:Int) then
 some (false,6)
 else
 if c3.Attr≥(y2.Values.length:Int) then
 some (false,6)
 else
 (idx x1.Values c3.Attr).bind fun (x4:Value) =>
 (idx y2.Values c3.Attr).bind fun (x5:Value) =>
 (qiw x4).bind fun (r6:Bool) =>
 if r6=true then
 (qiw x5).bind fun (r7:Bool) =>
 if r7=true then
 (qg9 c3).bind fun (r8:Bool) =>
 if r8=true then
 (show Option (Bool) from
 if (x4.Kind != 2)=true then
 some true
 else
 some (x5.Kind != 2)).bind (fun t9 =>
 if t9=true then
 some (((x4.Kind == x5.Kind) && ((x4.Num == x5.Num) && (x4.Str == x5.Str))),0)
 else
 if (c3.Measure == 2)=true then
 (qh6 x4.Str x5.Str c3.Limit).bind fun (r10:Bool×Int) =>
 some (r10.1,r10.2)
 else
 if (c3.Measure == 3)=true then
 (qgh x4.Str x5.Str 2).bind fun (r11:Ratio×Int) =>
 if (r11.2 == 0)=true then
 some ((decide ((vxc.wrap (100 * r11.1.Num))≥(vxc.wrap (c3.Limit * r11.1.Den)))),r11.2)
 else
 some (false,r11.2)
 else
 if (c3.Measure == 4)=true then
 if (0:Int)≤(if (x4.Str.length:Int) < c3.Limit then (x4.Str.length:Int) else c3.Limit) then
 if (if (x4.Str.length:Int) < c3.Limit then (x4.Str.length:Int) else c3.Limit)≤(x4.Str.length:Int) then
 if (0:Int)≤(if (x5.Str.length:Int) < c3.Limit then (x5.Str.length:Int) else c3.Limit) then
 if (if (x5.Str.length:Int) < c3.Limit then (x5.Str.length:Int) else c3.Limit)≤(x5.Str.length:Int) then
 some (((x4.Str.take ((if (x4.Str.length:Int) < c3.Limit then (x4.Str.length:Int) else c3.Limit).toNat)) == (x5.Str.take ((if (x5.Str.length:Int) < c3.Limit then (x5.Str.length:Int) else c3.Limit).toNat))),0)
 else none
 else none
 else none
 else none
 else
 some ((x4.Str == x5.Str),0))
 else
 some (false,1)
 else
 some (false,1)
 else
 some (false,1)
def qb3 (s1:List Int) (f2:Int→Option (Bool)):Int→Option (LS (Int) ((Unit) ⊕ (Int))):=fun t3 =>
 if t3 < (s1.length:Int) then
 (idx s1 t3).bind fun (x4:Int) =>
 (f2 x4).bind fun (r5:Bool) =>
 if r5=true then
 some (.done (.inr t3))
 else
 some (.next (vxc.wrap (t3+1)))
 else
 some (.done (.inl ()))
def qei (s1:List Int) (f2:Int→Option (Bool)):Option (Int) :=
 (qag (qb3 s1 f2) 0).bind (fun o=>match o with
 | .inl () =>
 some (-1)
 | .inr r3 =>
 some r3)
def qa2 (s1:List Int) (f2:Int→Option (Bool)):Option (Bool) :=
 (qei s1 f2).bind fun (r3:Int) =>
 some (decide (r3≥0))
def qgi (a1:Int) (c2:Int):Option (Bool) :=
 if a1 < 0 then
 some true
 else
 some (decide (a1≥c2))
def qgj (s1:Int):Option (Bool) :=
 if s1 < 1 then
 some true
 else
 some (decide (s1 > 5))
def qfi (l1:List Value) (x2:List Similar):Int→Option (LS (Int) ((Unit) ⊕ (Int))):=fun t3 =>
 if t3 < (x2.length:Int) then
 (idx x2 t3).bind fun (x4:Similar) =>
 (qbz (Row.mk 0 l1) (Row.mk 0 l1) x4).bind fun (r5:Bool×Int) =>
 if (r5.2 != 0)=true then
 some (.done (.inr r5.2))
 else
 some (.next (vxc.wrap (t3+1)))
 else
 some (.done (.inl ()))
def qc8 (l1:Linkage) (l2:List Value):Int→Option (LS (Int) ((Unit) ⊕ (Int))):=fun t3 =>
 if t3 < (l1.Rules.length:Int) then
 (idx l1.Rules t3).bind fun (x4:List Similar) =>
 if (x4.length:Int) < 1 then
 some (.done (.inr 1))
 else
 if (x4.length:Int) > 6 then
 some (.done (.inr 1))
 else
 (qag (qfi l2 x4) 0).bind (fun o=>match o with
 | .inl () =>
 some (.next (vxc.wrap (t3+1)))
 | .inr r5 =>
 some (.done (.inr r5)))
 else
 some (.done (.inl ()))
def qfy (n1:Int) (l2:Linkage):Option (Int) :=
 if n1 < 0 then
 some 7
 else
 if n1 > 16 then
 some 7
 else
 if (l2.Rules.length:Int) > 8 then
 some 3
 else
 if 0≤n1 then
 if qao (n1).toNat 32=true then
 (some ((vuh (n1).toNat (Value.mk 0 0 [])):List Value)).bind fun (l3:List Value) =>
 (qag (qc8 l2 l3) 0).bind (fun o=>match o with
 | .inl () =>
 (qa2 l2.Block (fun (y4:Int)=>qgi y4 n1)).bind fun (r5:Bool) =>
 if r5=true then
 some 6
 else
 if qao l2.Block.length 8=true then
 (qwm l2.Block).bind fun (l6:List Int) =>
 (vf8 l6).bind fun (l7:List Int) =>
 if (((l7.length:Nat):Int) != (l2.Block.length:Int))=true then
 some 1
 else
 if ((l2.Survive.length:Int) != n1)=true then
 some 6
 else
 (qa2 l2.Survive (fun (y8:Int)=>qgj y8)).bind fun (r9:Bool) =>
 if r9=true then
 some 1
 else
 some 0
 else none
 | .inr r10 =>
 some r10)
 else none
 else none
def qgk (s1:List UInt8):Int→Option (LS (Int) ((Unit) ⊕ (Bool))):=fun t2 =>
 if t2 < (s1.length:Int) then
 (idx s1 t2).bind fun (c3:UInt8) =>
 (show Option (Bool) from
 if ((c3.toNat:Nat):Int)≥97 then
 if ((c3.toNat:Nat):Int)≤122 then
 some true
 else
 if ((c3.toNat:Nat):Int)≥65 then
 if ((c3.toNat:Nat):Int)≤90 then
 some true
 else
 some (((c3.toNat:Nat):Int) == 95)
 else
 some (((c3.toNat:Nat):Int) == 95)
 else
 if ((c3.toNat:Nat):Int)≥65 then
 if ((c3.toNat:Nat):Int)≤90 then
 some true
 else
 some (((c3.toNat:Nat):Int) == 95)
 else
 some (((c3.toNat:Nat):Int) == 95)).bind (fun l4 =>
 if l4=true then
 some (.next (vxc.wrap (t2+1)))
 else
 if (t2 == 0)=true then
 some (.done (.inr false))
 else
 if ((c3.toNat:Nat):Int) < 48 then
 some (.done (.inr false))
 else
 if ((c3.toNat:Nat):Int) > 57 then
 some (.done (.inr false))
 else
 some (.next (vxc.wrap (t2+1))))
 else
 some (.done (.inl ()))
def qi6 (s1:List UInt8):Option (Bool) :=
 if (s1 == [])=true then
 some false
 else
 if (s1.length:Int) > 24 then
 some false
 else
 if (s1 == [110,117,108,108])=true then
 some false
 else
 (qag (qgk s1) 0).bind (fun o=>match o with
 | .inl () =>
 some true
 | .inr r2 =>
 some r2)
def qcg (s1:List (List UInt8)) (v2:List UInt8):Int→Option (LS (Int) ((Unit) ⊕ (Int))):=fun t3 =>
 if t3 < (s1.length:Int) then
 (idx s1 t3).bind fun (x4:List UInt8) =>
 if (v2 == x4)=true then
 some (.done (.inr t3))
 else
 some (.next (vxc.wrap (t3+1)))
 else
 some (.done (.inl ()))
def qe2 (s1:List (List UInt8)) (v2:List UInt8):Option (Int) :=
 (qag (qcg s1 v2) 0).bind (fun o=>match o with
 | .inl () =>
 some (-1)
 | .inr r3 =>
 some r3)
def qdd (s1:List (List UInt8)) (v2:List UInt8):Option (Bool) :=
 (qe2 s1 v2).bind fun (r3:Int) =>
 some (decide (r3≥0))
def qbq (s1:List Value) (f2:Value→Option (Bool)):Int→Option (LS (Int) ((Unit) ⊕ (Int))):=fun t3 =>
 if t3 < (s1.length:Int) then
 (idx s1 t3).bind fun (x4:Value) =>
 (f2 x4).bind fun (r5:Bool) =>
 if r5=true then
 some (.done (.inr t3))
 else
 some (.next (vxc.wrap (t3+1)))
 else
 some (.done (.inl ()))
def qde (s1:List Value) (f2:Value→Option (Bool)):Option (Int) :=
 (qag (qbq s1 f2) 0).bind (fun o=>match o with
 | .inl () =>
 some (-1)
 | .inr r3 =>
 some r3)
def qcl (s1:List Value) (f2:Value→Option (Bool)):Option (Bool) :=
 (qde s1 f2).bind fun (r3:Int) =>
 some (decide (r3≥0))
def qdi (v1:Value):Option (Bool) :=
 (qiw v1).bind fun (r2:Bool) =>
 some (!r2)
def qgl (l1:List Value):Option (Bool) :=
 (qcl l1 (fun (y2:Value)=>qdi y2)).bind fun (r3:Bool) =>
 some (!r3)
def qhe (t1:Table):Int→Option (LS (Int) ((Unit) ⊕ (Int))):=fun t2 =>
 if t2 < (t1.Attrs.length:Int) then
 (idx t1.Attrs t2).bind fun (x3:List UInt8) =>
 (qi6 x3).bind fun (r4:Bool) =>
 if r4=true then
 if (0:Int)≤t2 then
 if t2≤(t1.Attrs.length:Int) then
 (qdd (t1.Attrs.take (t2.toNat)) x3).bind fun (r5:Bool) =>
 if r5=true then
 some (.done (.inr 1))
 else
 some (.next (vxc.wrap (t2+1)))
 else none
 else none
 else
 some (.done (.inr 1))
 else
 some (.done (.inl ()))
def qih (t1:Table):(Int×Int)→Option (LS (Int×Int) ((Unit) ⊕ (Int))):=fun (l2,t3) =>
 if t3 < (t1.Rows.length:Int) then
 (idx t1.Rows t3).bind fun (x4:Row) =>
 if x4.ID≤l2 then
 some (.done (.inr 1))
 else
 if ((x4.Values.length:Int) != (t1.Attrs.length:Int))=true then
 some (.done (.inr 6))
 else
 (qgl x4.Values).bind fun (r5:Bool) =>
 if r5=true then
 some (.next (x4.ID,(vxc.wrap (t3+1))))
 else
 some (.done (.inr 1))
 else
 some (.done (.inl ()))
def qll (t1:Table):Option (Int) :=
 (qi6 t1.Name).bind fun (r2:Bool) =>
 if r2=true then
 if (t1.Attrs.length:Int) > 16 then
 some 3
 else
 if (t1.Rows.length:Int) > 1000 then
 some 3
 else
 (qag (qhe t1) 0).bind (fun o=>match o with
 | .inl () =>
 (qag (qih t1) (0,0)).bind (fun o=>match o with
 | .inl () =>
 some 0
 | .inr r3 =>
 some r3)
 | .inr r4 =>
 some r4)
 else
 some 1
def qhf (t1:Table) (l2:Linkage):Option (Int) :=
 (qll t1).bind fun (r3:Int) =>
 if (r3 != 0)=true then
 some r3
 else
 (qfy (t1.Attrs.length:Int) l2).bind fun (r4:Int) =>
 if (r4 != 0)=true then
 some r4
 else
 if (t1.Rows.length:Int) > 200 then
 some 3
 else
 some 0
def qbg (s1:List (List Similar)) (f2:(List Similar)→Option (Bool)):Int→Option (LS (Int) ((Unit) ⊕ (Int))):=fun t3 =>
 if t3 < (s1.length:Int) then
 (idx s1 t3).bind fun (x4:List Similar) =>
 (f2 x4).bind fun (r5:Bool) =>
 if r5=true then
 some (.done (.inr t3))
 else
 some (.next (vxc.wrap (t3+1)))
 else
 some (.done (.inl ()))
def qcp (s1:List (List Similar)) (f2:(List Similar)→Option (Bool)):Option (Int) :=
 (qag (qbg s1 f2) 0).bind (fun o=>match o with
 | .inl () =>
 some (-1)
 | .inr r3 =>
 some r3)
def qa7 (s1:List Similar) (f2:Similar→Option (Bool)):Int→Option (LS (Int) ((Unit) ⊕ (Int))):=fun t3 =>
 if t3 < (s1.length:Int) then
 (idx s1 t3).bind fun (x4:Similar) =>
 (f2 x4).bind fun (r5:Bool) =>
 if r5=true then
 some (.done (.inr t3))
 else
 some (.next (vxc.wrap (t3+1)))
 else
 some (.done (.inl ()))
def qb9 (s1:List Similar) (f2:Similar→Option (Bool)):Option (Int) :=
 (qag (qa7 s1 f2) 0).bind (fun o=>match o with
 | .inl () =>
 some (-1)
 | .inr r3 =>
 some r3)
def qbh (s1:List Similar) (f2:Similar→Option (Bool)):Option (Bool) :=
 (qb9 s1 f2).bind fun (r3:Int) =>
 some (decide (r3≥0))
def qes (c1:Similar) (c2:Row) (c3:Row):Option (Bool) :=
 (qbz c2 c3 c1).bind fun (r4:Bool×Int) =>
 some (!r4.1)
def qe3 (r1:List Similar) (c2:Row) (c3:Row):Option (Bool) :=
 (qbh r1 (fun (y4:Similar)=>qes y4 c2 c3)).bind fun (r5:Bool) =>
 some (!r5)
def qjh (l1:Linkage) (a2:Row) (b3:Row):Option (Int) :=
 (qcp l1.Rules (fun (y4:List Similar)=>qe3 y4 a2 b3)).bind fun (r5:Int) =>
 some r5
def qfz (k1:Int) (c2:Row) (c3:Row):Option (Bool) :=
 (idx c2.Values k1).bind fun (x4:Value) =>
 (idx c3.Values k1).bind fun (x5:Value) =>
 some ((x4.Kind == x5.Kind) && ((x4.Num == x5.Num) && (x4.Str == x5.Str)))
def qfj (l1:Linkage) (a2:Row) (b3:Row):Option (Bool) :=
 if ((l1.Block.length:Int) == 0)=true then
 some true
 else
 (qa2 l1.Block (fun (y4:Int)=>qfz y4 a2 b3)).bind fun (r5:Bool) =>
 some r5
def qcx (t1:Table) (l2:Linkage) (t3:Int) (x4:Row):(List Arr2_int×Int)→Option (LS (List Arr2_int×Int) (List Arr2_int)):=fun (o5,k6) =>
 if k6 < (t1.Rows.length:Int) then
 (idx t1.Rows k6).bind fun (x7:Row) =>
 (show Option (Bool) from
 (qfj l2 x4 x7).bind fun (r8:Bool) =>
 if r8=true then
 (qjh l2 x4 x7).bind fun (r9:Int) =>
 some (decide (r9≥0))
 else
 some false).bind (fun t10 =>
 if t10=true then
 if qao (o5.length+1) 16=true then
 some (.next ((o5++[(Arr2_int.mk t3 k6)]),(vxc.wrap (k6+1))))
 else none
 else
 some (.next (o5,(vxc.wrap (k6+1)))))
 else
 some (.done o5)
def qf0 (t1:Table) (l2:Linkage):(List Arr2_int×Int)→Option (LS (List Arr2_int×Int) (List Arr2_int)):=fun (o3,t4) =>
 if t4 < (t1.Rows.length:Int) then
 (idx t1.Rows t4).bind fun (x5:Row) =>
 (qag (qcx t1 l2 t4 x5) (o3,(vxc.wrap (t4+1)))).bind (fun o6 =>
 some (.next (o6,(vxc.wrap (t4+1)))))
 else
 some (.done o3)
def qe4 (t1:Table) (l2:Linkage):Option (List Arr2_int) :=
 (qag (qf0 t1 l2) ([],0)).bind (fun o3 =>
 some o3)
def qf1 (t1:Table) (r2:List Arr2_int):(List Arr2_int64×Int)→Option (LS (List Arr2_int64×Int) (List Arr2_int64)):=fun (o3,t4) =>
 if t4 < (r2.length:Int) then
 (idx r2 t4).bind fun (x5:Arr2_int) =>
 (idx t1.Rows x5.x0).bind fun (x6:Row) =>
 (idx t1.Rows x5.x1).bind fun (x7:Row) =>
 if qao (o3.length+1) 16=true then
 some (.next ((o3++[(Arr2_int64.mk x6.ID x7.ID)]),(vxc.wrap (t4+1))))
 else none
 else
 some (.done o3)
def qho (t1:Table) (l2:Linkage):Option (List Arr2_int64×Int) :=
 (qhf t1 l2).bind fun (r3:Int) =>
 if (r3 != 0)=true then
 some ([],r3)
 else
 (qe4 t1 l2).bind fun (r4:List Arr2_int) =>
 (qag (qf1 t1 r4) ([],0)).bind (fun o5 =>
 some (o5,0))
def qen (a1:List Arr2_int64) (b2:List Arr2_int64):Int→Option (LS (Int) ((Unit) ⊕ (Bool))):=fun i3 =>
 if i3 < (a1.length:Int) then
 (idx a1 i3).bind fun (x4:Arr2_int64) =>
 (idx b2 i3).bind fun (x5:Arr2_int64) =>
 if ((x4.x0 == x5.x0) && (x4.x1 == x5.x1))=true then
 some (.next (vxc.wrap (i3+1)))
 else
 some (.done (.inr false))
 else
 some (.done (.inl ()))
def qc2 (a1:List Arr2_int64) (b2:List Arr2_int64):Option (Bool) :=
 if ((a1.length:Int) != (b2.length:Int))=true then
 some false
 else
 (qag (qen a1 b2) 0).bind (fun o=>match o with
 | .inl () =>
 some true
 | .inr r3 =>
 some r3)
def qii (n1:Int) (e2:List Arr2_int):Int→Option (LS (Int) ((Unit) ⊕ (Int))):=fun t3 =>
 if t3 < (e2.length:Int) then
 (idx e2 t3).bind fun (x4:Arr2_int) =>
 if (if x4.x1 < x4.x0 then x4.x1 else x4.x0) < 0 then
 some (.done (.inr 1))
 else
 if (if x4.x1 > x4.x0 then x4.x1 else x4.x0)≥n1 then
 some (.done (.inr 1))
 else
 some (.next (vxc.wrap (t3+1)))
 else
 some (.done (.inl ()))
def qlm (n1:Int) (e2:List Arr2_int):Option (Int) :=
 (show Option (Bool) from
 if n1 > 1000 then
 some true
 else
 some (decide ((e2.length:Int) > 20000))).bind (fun t3 =>
 if t3=true then
 some 3
 else
 if n1 < 0 then
 some 1
 else
 (qag (qii n1 e2) 0).bind (fun o=>match o with
 | .inl () =>
 some 0
 | .inr r4 =>
 some r4))
def qe5 (e1:List Arr2_int):(List (List Int)×Int)→Option (LS (List (List Int)×Int) (List (List Int))):=fun (o2,t3) =>
 if t3 < (e1.length:Int) then
 (idx e1 t3).bind fun (x4:Arr2_int) =>
 (idx o2 x4.x0).bind fun (x5:List Int) =>
 if qao (x5.length+1) 8=true then
 some (.next ((o2.set x4.x0.toNat (x5++[x4.x1])),(vxc.wrap (t3+1))))
 else none
 else
 some (.done o2)
def qe6 (o1:List (List Int)):(List (List Int)×Int)→Option (LS (List (List Int)×Int) (List (List Int))):=fun (o2,t3) =>
 if t3 < ((o1.length:Nat):Int) then
 (idx o2 t3).bind fun (x4:List Int) =>
 (qwm x4).bind fun (l5:List Int) =>
 (idx (o2.set t3.toNat l5) t3).bind fun (x6:List Int) =>
 (vf8 x6).bind fun (l7:List Int) =>
 some (.next (((o2.set t3.toNat l5).set t3.toNat l7),(vxc.wrap (t3+1))))
 else
 some (.done o2)
def qha (n1:Int) (e2:List Arr2_int):Option (List (List Int)) :=
 if 0≤n1 then
 if qao (n1).toNat 24=true then
 (qag (qe5 e2) ((vuh (n1).toNat ([]:List Int)),0)).bind (fun o3 =>
 (qag (qe6 o3) (o3,0)).bind (fun o4 =>
 some o4))
 else none
 else none
def qb4 (s1:List (List Arr2_int)):(Int×Int)→Option (LS (Int×Int) (Int)):=fun (s2,t3) =>
 if t3 < (s1.length:Int) then
 (idx s1 t3).bind fun (x4:List Arr2_int) =>
 if (vxc.wrap (s2+(x4.length:Int))) < 0 then
 none
 else
 some (.next ((vxc.wrap (s2+(x4.length:Int))),(vxc.wrap (t3+1))))
 else
 some (.done s2)
def qb5 (s1:List (List Arr2_int)):(List Arr2_int×Int)→Option (LS (List Arr2_int×Int) (List Arr2_int)):=fun (n2,t3) =>
 if t3 < (s1.length:Int) then
 (idx s1 t3).bind fun (x4:List Arr2_int) =>
 if qao (n2.length+x4.length) 16=true then
 some (.next ((n2++x4),(vxc.wrap (t3+1))))
 else none
 else
 some (.done n2)
def qej (s1:List (List Arr2_int)):Option (List Arr2_int) :=
 (qag (qb4 s1) (0,0)).bind (fun s2 =>
 if 0≤s2 then
 if s2≤1000000000000 then
 (qag (qb5 s1) (([]:List Arr2_int),0)).bind (fun n3 =>
 some n3)
 else none
 else none)
def qgm (e1:List Arr2_int):(List Arr2_int×Int)→Option (LS (List Arr2_int×Int) (List Arr2_int)):=fun (o2,t3) =>
 if t3 < (e1.length:Int) then
 (idx e1 t3).bind fun (x4:Arr2_int) =>
 (idx o2 t3).bind fun (x5:Arr2_int) =>
 some (.next ((o2.set t3.toNat (Arr2_int.mk x4.x1 x4.x0)),(vxc.wrap (t3+1))))
 else
 some (.done o2)
def qij (e1:List Arr2_int):Option (List Arr2_int) :=
 if 0≤(e1.length:Int) then
 if qao e1.length 16=true then
 (qag (qgm e1) ((vuh e1.length (Arr2_int.mk 0 0)),0)).bind (fun o2 =>
 some o2)
 else none
 else none
def qhg (x1:List Int):(List Bool×List Int×Int)→Option (LS (List Bool×List Int×Int) (List Bool×List Int)):=fun (s2,o3,t4) =>
 if t4 < (x1.length:Int) then
 (idx x1 t4).bind fun (x5:Int) =>
 (idx s2 x5).bind fun (x6:Bool) =>
 if x6=true then
 some (.next (s2,o3,(vxc.wrap (t4+1))))
 else
 if qao (o3.length+1) 8=true then
 some (.next ((s2.set x5.toNat true),(o3++[x5]),(vxc.wrap (t4+1))))
 else none
 else
 some (.done (s2,o3))
def qhh (n1:List (List Int)):(List Bool×List Int×Int)→Option (LS (List Bool×List Int×Int) (List Int)):=fun (s2,o3,i4) =>
 if i4 < ((o3.length:Nat):Int) then
 (idx o3 i4).bind fun (x5:Int) =>
 (idx n1 x5).bind fun (x6:List Int) =>
 (qag (qhg x6) (s2,o3,0)).bind (fun (s7,o8) =>
 some (.next (s7,o8,(vxc.wrap (i4+1)))))
 else
 some (.done o3)
def qln (n1:List (List Int)) (f2:Int):Option (List Int) :=
 if 0≤(n1.length:Int) then
 if qao n1.length 1=true then
 (some ((vuh n1.length false):List Bool)).bind fun (l3:List Bool) =>
 (idx l3 f2).bind fun (x4:Bool) =>
 (qag (qhh n1) ((l3.set f2.toNat true),[f2],0)).bind (fun o5 =>
 (qwm o5).bind fun (l6:List Int) =>
 some l6)
 else none
 else none
def qdj (r1:List Int):(List Bool×Int)→Option (LS (List Bool×Int) (List Bool)):=fun (d2,t3) =>
 if t3 < (r1.length:Int) then
 (idx r1 t3).bind fun (x4:Int) =>
 (idx d2 x4).bind fun (x5:Bool) =>
 some (.next ((d2.set x4.toNat true),(vxc.wrap (t3+1))))
 else
 some (.done d2)
def qdk (n1:Int) (r2:List (List Int)):(List Bool×List (List Int)×Int)→Option (LS (List Bool×List (List Int)×Int) (List (List Int))):=fun (d3,o4,t5) =>
 if t5 < n1 then
 (idx d3 t5).bind fun (x6:Bool) =>
 if x6=true then
 some (.next (d3,o4,(vxc.wrap (t5+1))))
 else
 (qln r2 t5).bind fun (r7:List Int) =>
 (qag (qdj r7) (d3,0)).bind (fun d8 =>
 if qao (o4.length+1) 24=true then
 some (.next (d8,(o4++[r7]),(vxc.wrap (t5+1))))
 else none)
 else
 some (.done o4)
def qfk (n1:Int) (e2:List Arr2_int):Option (List (List Int)×Int) :=
 (qlm n1 e2).bind fun (r3:Int) =>
 if (r3 != 0)=true then
 some ([],r3)
 else
 (qij e2).bind fun (r4:List Arr2_int) =>
 (qej [e2,r4]).bind fun (r5:List Arr2_int) =>
 (qha n1 r5).bind fun (r6:List (List Int)) =>
 if 0≤n1 then
 if qao (n1).toNat 1=true then
 (qag (qdk n1 r6) ((vuh (n1).toNat false),[],0)).bind (fun o7 =>
 some (o7,0))
 else none
 else none
def qhb (n1:Int) (l2:List Pair):((List (Arr2_int×Bool))×Int)→Option (LS ((List (Arr2_int×Bool))×Int) ((Unit) ⊕ (Int))):=fun (s3,t4) =>
 if t4 < (l2.length:Int) then
 (idx l2 t4).bind fun (x5:Pair) =>
 if x5.I < 0 then
 some (.done (.inr 1))
 else
 if x5.I≥x5.K then
 some (.done (.inr 1))
 else
 if x5.K≥n1 then
 some (.done (.inr 1))
 else
 if x5.Weight < (-1000) then
 some (.done (.inr 1))
 else
 if x5.Weight > 1000 then
 some (.done (.inr 1))
 else
 if ((qo7 s3 (Arr2_int.mk x5.I x5.K)).getD false)=true then
 some (.done (.inr 1))
 else
 some (.next ((qvn s3 (Arr2_int.mk x5.I x5.K) true),(vxc.wrap (t4+1))))
 else
 some (.done (.inl ()))
def qh7 (n1:Int) (l2:List Pair):Option (Int) :=
 (show Option (Bool) from
 if n1 < 0 then
 some true
 else
 some (decide (n1 > 200))).bind (fun t3 =>
 if t3=true then
 some 7
 else
 if (l2.length:Int) > 20000 then
 some 3
 else
 (qag (qhb n1 l2) ([],0)).bind (fun o=>match o with
 | .inl () =>
 some 0
 | .inr r4 =>
 some r4))
def qgn (n1:Int):(List (List Int)×Int)→Option (LS (List (List Int)×Int) (List (List Int))):=fun (w2,t3) =>
 if t3 < ((((vuh (n1).toNat ([]:List Int))).length:Nat):Int) then
 if 0≤n1 then
 if qao (n1).toNat 8=true then
 (idx w2 t3).bind fun (x4:List Int) =>
 some (.next ((w2.set t3.toNat (vuh (n1).toNat 0)),(vxc.wrap (t3+1))))
 else none
 else none
 else
 some (.done w2)
def qgo (l1:List Pair):(List (List Int)×Int)→Option (LS (List (List Int)×Int) (List (List Int))):=fun (w2,t3) =>
 if t3 < (l1.length:Int) then
 (idx l1 t3).bind fun (x4:Pair) =>
 (idx w2 x4.I).bind fun (x5:List Int) =>
 (idx w2 x4.K).bind fun (x6:List Int) =>
 (idx x5 x4.K).bind fun (x7:Int) =>
 (idx (w2.set x4.I.toNat (x5.set x4.K.toNat x4.Weight)) x4.K).bind fun (x8:List Int) =>
 (idx x8 x4.I).bind fun (x9:Int) =>
 if x4.I < ((x6.length:Nat):Int) then
 some (.next (((w2.set x4.I.toNat (x5.set x4.K.toNat x4.Weight)).set x4.K.toNat (x8.set x4.I.toNat x4.Weight)),(vxc.wrap (t3+1))))
 else none
 else
 some (.done w2)
def qik (n1:Int) (l2:List Pair):Option (List (List Int)) :=
 if 0≤n1 then
 if qao (n1).toNat 24=true then
 (qag (qgn n1) ((vuh (n1).toNat ([]:List Int)),0)).bind (fun w3 =>
 (qag (qgo l2) (w3,0)).bind (fun w4 =>
 some w4))
 else none
 else none
def qdw (w1:Int) (t2:Bool):Option (Int) :=
 if t2=true then
 some (if 0 > (vxc.wrap (0 - w1)) then 0 else (vxc.wrap (0 - w1)))
 else
 some (if 0 > w1 then 0 else w1)
def qji:Unit→Option (LS (Unit) (Unit)):=fun () =>
 some (.done ())
def qjj (r1:List (List Int)) (s2:List Int) (t3:Int):(Int×Int)→Option (LS (Int×Int) (Int)):=fun (m4,t5) =>
 if t5 < 1 then
 (idx r1 t5).bind fun (x6:List Int) =>
 (x6[1]?).bind fun (x7:Int) =>
 (idx s2 t5).bind fun (x8:Int) =>
 (qdw x7 (x8 == t3)).bind fun (r9:Int) =>
 some (.next ((vxc.wrap (m4+r9)),(vxc.wrap (t5+1))))
 else
 some (.done m4)
def qmd (r1:List (List Int)) (s2:List Int) (t3:Int):(Int×Int)→Option (LS (Int×Int) (Int)):=fun (m4,t5) =>
 if t5 < 2 then
 (idx r1 t5).bind fun (x6:List Int) =>
 (x6[2]?).bind fun (x7:Int) =>
 (idx s2 t5).bind fun (x8:Int) =>
 (qdw x7 (x8 == t3)).bind fun (r9:Int) =>
 some (.next ((vxc.wrap (m4+r9)),(vxc.wrap (t5+1))))
 else
 some (.done m4)
def qme (r1:List (List Int)) (s2:List Int) (t3:Int):(Int×Int)→Option (LS (Int×Int) (Int)):=fun (m4,t5) =>
 if t5 < 3 then
 (idx r1 t5).bind fun (x6:List Int) =>
 (x6[3]?).bind fun (x7:Int) =>
 (idx s2 t5).bind fun (x8:Int) =>
 (qdw x7 (x8 == t3)).bind fun (r9:Int) =>
 some (.next ((vxc.wrap (m4+r9)),(vxc.wrap (t5+1))))
 else
 some (.done m4)
def qmf (r1:List (List Int)) (s2:List Int) (t3:Int):(Int×Int)→Option (LS (Int×Int) (Int)):=fun (m4,t5) =>
 if t5 < 4 then
 (idx r1 t5).bind fun (x6:List Int) =>
 (x6[4]?).bind fun (x7:Int) =>
 (idx s2 t5).bind fun (x8:Int) =>
 (qdw x7 (x8 == t3)).bind fun (r9:Int) =>
 some (.next ((vxc.wrap (m4+r9)),(vxc.wrap (t5+1))))
 else
 some (.done m4)
def qjk (r1:List (List Int)) (s2:List Int) (t3:Int):(Int×Int)→Option (LS (Int×Int) (Int)):=fun (m4,t5) =>
 if t5 < 5 then
 (idx r1 t5).bind fun (x6:List Int) =>
 (x6[5]?).bind fun (x7:Int) =>
 (idx s2 t5).bind fun (x8:Int) =>
 (qdw x7 (x8 == t3)).bind fun (r9:Int) =>
 some (.next ((vxc.wrap (m4+r9)),(vxc.wrap (t5+1))))
 else
 some (.done m4)
def qmg (u1:Int):Unit→Option (LS (Unit) (Unit)):=fun () =>
 if (0:Int) < (vxc.wrap (u1+1)) then
 none
 else
 some (.done ())
def qbs (r1:List (List Int)) (u2:Int) (c3:Int):(List Int×Bool×Int×List Int×Int×Int)→Option (LS (List Int×Bool×Int×List Int×Int×Int) (List Int×Bool×Int×List Int×Int)):=fun (s4,s5,s6,s7,s8,t9) =>
 if t9 < (vxc.wrap (u2+1)) then
 (qag (qjk r1 s4 t9) (0,0)).bind (fun m10 =>
 (s4[5]?).bind fun (x11:Int) =>
 (some (if (vxc.wrap (t9+1)) > u2 then (vxc.wrap (t9+1)) else u2)).bind fun (u12:Int) =>
 (some (vxc.wrap (c3+m10))).bind fun (c13:Int) =>
 (show Option ((Unit) ⊕ (Unit)) from
 if s5=true then
 if c13≥s8 then
 some (.inr ())
 else
 some (.inl ())
 else
 some (.inl ())).bind (fun o=>match o with
 | .inl () =>
 if (6 == (r1.length:Int))=true then
 if (s4.set 5 t9).length≤1000000000 then
 ((s4.set 5 t9)[0]?).bind fun (x14:Int) =>
 (some ((s4.set 5 t9).drop 1)).bind fun (l15:List Int) =>
 some (.next ((s4.set 5 t9),true,x14,l15,c13,(vxc.wrap (t9+1))))
 else none
 else
 (qag (qmg u12) ()).bind (fun () =>
 some (.next ((s4.set 5 t9),s5,s6,s7,s8,(vxc.wrap (t9+1)))))
 | .inr () =>
 some (.next ((s4.set 5 t9),s5,s6,s7,s8,(vxc.wrap (t9+1))))))
 else
 some (.done (s4,s5,s6,s7,s8))
def qe7 (r1:List (List Int)) (u2:Int) (c3:Int):(List Int×Bool×Int×List Int×Int×Int)→Option (LS (List Int×Bool×Int×List Int×Int×Int) (List Int×Bool×Int×List Int×Int)):=fun (s4,s5,s6,s7,s8,t9) =>
 if t9 < (vxc.wrap (u2+1)) then
 (qag (qmf r1 s4 t9) (0,0)).bind (fun m10 =>
 (s4[4]?).bind fun (x11:Int) =>
 (some (if (vxc.wrap (t9+1)) > u2 then (vxc.wrap (t9+1)) else u2)).bind fun (u12:Int) =>
 (some (vxc.wrap (c3+m10))).bind fun (c13:Int) =>
 (show Option ((Unit) ⊕ (Unit)) from
 if s5=true then
 if c13≥s8 then
 some (.inr ())
 else
 some (.inl ())
 else
 some (.inl ())).bind (fun o=>match o with
 | .inl () =>
 if (5 == (r1.length:Int))=true then
 if (s4.set 4 t9).length≤1000000000 then
 ((s4.set 4 t9)[0]?).bind fun (x14:Int) =>
 (some ((s4.set 4 t9).drop 1)).bind fun (l15:List Int) =>
 some (.next ((s4.set 4 t9),true,x14,l15,c13,(vxc.wrap (t9+1))))
 else none
 else
 (qag (qbs r1 u12 c13) ((s4.set 4 t9),s5,s6,s7,s8,0)).bind (fun (b16,b17,b18,b19,b20) =>
 if b16.length=((s4.set 4 t9)).length then
 some (.next (b16,b17,b18,b19,b20,(vxc.wrap (t9+1))))
 else none)
 | .inr () =>
 some (.next ((s4.set 4 t9),s5,s6,s7,s8,(vxc.wrap (t9+1))))))
 else
 some (.done (s4,s5,s6,s7,s8))
def qe8 (r1:List (List Int)) (u2:Int) (c3:Int):(List Int×Bool×Int×List Int×Int×Int)→Option (LS (List Int×Bool×Int×List Int×Int×Int) (List Int×Bool×Int×List Int×Int)):=fun (s4,s5,s6,s7,s8,t9) =>
 if t9 < (vxc.wrap (u2+1)) then
 (qag (qme r1 s4 t9) (0,0)).bind (fun m10 =>
 (s4[3]?).bind fun (x11:Int) =>
 (some (if (vxc.wrap (t9+1)) > u2 then (vxc.wrap (t9+1)) else u2)).bind fun (u12:Int) =>
 (some (vxc.wrap (c3+m10))).bind fun (c13:Int) =>
 (show Option ((Unit) ⊕ (Unit)) from
 if s5=true then
 if c13≥s8 then
 some (.inr ())
 else
 some (.inl ())
 else
 some (.inl ())).bind (fun o=>match o with
 | .inl () =>
 if (4 == (r1.length:Int))=true then
 if (s4.set 3 t9).length≤1000000000 then
 ((s4.set 3 t9)[0]?).bind fun (x14:Int) =>
 (some ((s4.set 3 t9).drop 1)).bind fun (l15:List Int) =>
 some (.next ((s4.set 3 t9),true,x14,l15,c13,(vxc.wrap (t9+1))))
 else none
 else
 (qag (qe7 r1 u12 c13) ((s4.set 3 t9),s5,s6,s7,s8,0)).bind (fun (b16,b17,b18,b19,b20) =>
 if b16.length=((s4.set 3 t9)).length then
 some (.next (b16,b17,b18,b19,b20,(vxc.wrap (t9+1))))
 else none)
 | .inr () =>
 some (.next ((s4.set 3 t9),s5,s6,s7,s8,(vxc.wrap (t9+1))))))
 else
 some (.done (s4,s5,s6,s7,s8))
def qe9 (r1:List (List Int)) (u2:Int) (c3:Int):(List Int×Bool×Int×List Int×Int×Int)→Option (LS (List Int×Bool×Int×List Int×Int×Int) (List Int×Bool×Int×List Int×Int)):=fun (s4,s5,s6,s7,s8,t9) =>
 if t9 < (vxc.wrap (u2+1)) then
 (qag (qmd r1 s4 t9) (0,0)).bind (fun m10 =>
 (s4[2]?).bind fun (x11:Int) =>
 (some (if (vxc.wrap (t9+1)) > u2 then (vxc.wrap (t9+1)) else u2)).bind fun (u12:Int) =>
 (some (vxc.wrap (c3+m10))).bind fun (c13:Int) =>
 (show Option ((Unit) ⊕ (Unit)) from
 if s5=true then
 if c13≥s8 then
 some (.inr ())
 else
 some (.inl ())
 else
 some (.inl ())).bind (fun o=>match o with
 | .inl () =>
 if (3 == (r1.length:Int))=true then
 if (s4.set 2 t9).length≤1000000000 then
 ((s4.set 2 t9)[0]?).bind fun (x14:Int) =>
 (some ((s4.set 2 t9).drop 1)).bind fun (l15:List Int) =>
 some (.next ((s4.set 2 t9),true,x14,l15,c13,(vxc.wrap (t9+1))))
 else none
 else
 (qag (qe8 r1 u12 c13) ((s4.set 2 t9),s5,s6,s7,s8,0)).bind (fun (b16,b17,b18,b19,b20) =>
 if b16.length=((s4.set 2 t9)).length then
 some (.next (b16,b17,b18,b19,b20,(vxc.wrap (t9+1))))
 else none)
 | .inr () =>
 some (.next ((s4.set 2 t9),s5,s6,s7,s8,(vxc.wrap (t9+1))))))
 else
 some (.done (s4,s5,s6,s7,s8))
def qa5 (r1:List (List Int)) (u2:Int):(List Int×Bool×Int×List Int×Int×Int)→Option (LS (List Int×Bool×Int×List Int×Int×Int) (List Int×Bool×Int×List Int×Int)):=fun (s3,s4,s5,s6,s7,t8) =>
 if t8 < (vxc.wrap (u2+1)) then
 (qag (qjj r1 s3 t8) (0,0)).bind (fun m9 =>
 (s3[1]?).bind fun (x10:Int) =>
 (some (if (vxc.wrap (t8+1)) > u2 then (vxc.wrap (t8+1)) else u2)).bind fun (u11:Int) =>
 (some (vxc.wrap (0+m9))).bind fun (c12:Int) =>
 (show Option ((Unit) ⊕ (Unit)) from
 if s4=true then
 if c12≥s7 then
 some (.inr ())
 else
 some (.inl ())
 else
 some (.inl ())).bind (fun o=>match o with
 | .inl () =>
 if (2 == (r1.length:Int))=true then
 if (s3.set 1 t8).length≤1000000000 then
 ((s3.set 1 t8)[0]?).bind fun (x13:Int) =>
 (some ((s3.set 1 t8).drop 1)).bind fun (l14:List Int) =>
 some (.next ((s3.set 1 t8),true,x13,l14,c12,(vxc.wrap (t8+1))))
 else none
 else
 (qag (qe9 r1 u11 c12) ((s3.set 1 t8),s4,s5,s6,s7,0)).bind (fun (b15,b16,b17,b18,b19) =>
 if b15.length=((s3.set 1 t8)).length then
 some (.next (b15,b16,b17,b18,b19,(vxc.wrap (t8+1))))
 else none)
 | .inr () =>
 some (.next ((s3.set 1 t8),s4,s5,s6,s7,(vxc.wrap (t8+1))))))
 else
 some (.done (s3,s4,s5,s6,s7))
def qbl (r1:List (List Int)):(List Int×Bool×Int×List Int×Int×Int)→Option (LS (List Int×Bool×Int×List Int×Int×Int) (List Int×Bool×Int×List Int×Int)):=fun (s2,s3,s4,s5,s6,t7) =>
 if t7 < 1 then
 (qag qji ()).bind (fun () =>
 (s2[0]?).bind fun (x8:Int) =>
 (some (if (vxc.wrap (t7+1)) > 0 then (vxc.wrap (t7+1)) else 0)).bind fun (u9:Int) =>
 (show Option ((Unit) ⊕ (Unit)) from
 if s3=true then
 if (0:Int)≥s6 then
 some (.inr ())
 else
 some (.inl ())
 else
 some (.inl ())).bind (fun o=>match o with
 | .inl () =>
 if (1 == (r1.length:Int))=true then
 if (s2.set 0 t7).length≤1000000000 then
 ((s2.set 0 t7)[0]?).bind fun (x10:Int) =>
 (some ((s2.set 0 t7).drop 1)).bind fun (l11:List Int) =>
 some (.next ((s2.set 0 t7),true,x10,l11,0,(vxc.wrap (t7+1))))
 else none
 else
 (qag (qa5 r1 u9) ((s2.set 0 t7),s3,s4,s5,s6,0)).bind (fun (b12,b13,b14,b15,b16) =>
 if b12.length=((s2.set 0 t7)).length then
 some (.next (b12,b13,b14,b15,b16,(vxc.wrap (t7+1))))
 else none)
 | .inr () =>
 some (.next ((s2.set 0 t7),s3,s4,s5,s6,(vxc.wrap (t7+1))))))
 else
 some (.done (s2,s3,s4,s5,s6))
def qgp (n1:Int) (l2:List Pair):Option (List Int×Int×Int) :=
 (qh7 n1 l2).bind fun (r3:Int) =>
 if (r3 != 0)=true then
 some ([],0,r3)
 else
 if n1 > 10 then
 some ([],0,3)
 else
 (qik n1 l2).bind fun (r4:List (List Int)) =>
 if 0≤n1 then
 if qao (n1).toNat 8=true then
 (show Option (List Int×Bool×Int×List Int×Int) from
 (some ((vuh (n1).toNat 0):List Int)).bind fun (l5:List Int) =>
 if (0 == (r4.length:Int))=true then
 if l5.length≤1000000000 then
 (l5[0]?).bind fun (x6:Int) =>
 (some (l5.drop 1)).bind fun (l7:List Int) =>
 some (l5,true,x6,l7,0)
 else none
 else
 (qag (qbl r4) (l5,false,0,[],0,0)).bind (fun (b8,b9,b10,b11,b12) =>
 if b8.length=l5.length then
 some (b8,b9,b10,b11,b12)
 else none)).bind (fun (s13,s14,s15,s16,s17) =>
 if s14=true then
 some ((s15 :: s16),s17,0)
 else
 some ([],s17,0))
 else none
 else none
def qob (n1:Int) (l2:List Pair):Option (List Int×Int) :=
 (qh7 n1 l2).bind fun (r3:Int) =>
 if (r3 != 0)=true then
 some ([],r3)
 else
 none
def qet (l1:List Int):((List (Int×Int))×List Int×Int)→Option (LS ((List (Int×Int))×List Int×Int) (List Int)):=fun (n2,o3,t4) =>
 if t4 < (l1.length:Int) then
 (idx l1 t4).bind fun (x5:Int) =>
 if (qo7 n2 x5).isSome=true then
 (idx o3 t4).bind fun (x6:Int) =>
 some (.next (n2,(o3.set t4.toNat ((qo7 n2 x5).getD 0)),(vxc.wrap (t4+1))))
 else
 (idx o3 t4).bind fun (x7:Int) =>
 some (.next ((qvn n2 x5 (n2.length:Int)),(o3.set t4.toNat (n2.length:Int)),(vxc.wrap (t4+1))))
 else
 some (.done o3)
def qhi (l1:List Int):Option (List Int) :=
 if 0≤(l1.length:Int) then
 if qao l1.length 8=true then
 (qag (qet l1) ([],(vuh l1.length 0),0)).bind (fun o2 =>
 some o2)
 else none
 else none
def qeu (c1:List Int) (m2:List (Arr2_int×Bool)) (t3:Int):(List Pair×Int)→Option (LS (List Pair×Int) (List Pair)):=fun (p4,k5) =>
 if k5 < (c1.length:Int) then
 (idx c1 t3).bind fun (x6:Int) =>
 (idx c1 k5).bind fun (x7:Int) =>
 if ((qo7 m2 (Arr2_int.mk x6 x7)).getD false)=true then
 if qao (p4.length+1) 24=true then
 some (.next ((p4++[(Pair.mk t3 k5 1)]),(vxc.wrap (k5+1))))
 else none
 else
 if qao (p4.length+1) 24=true then
 some (.next ((p4++[(Pair.mk t3 k5 (-1))]),(vxc.wrap (k5+1))))
 else none
 else
 some (.done p4)
def qev (c1:List Int) (m2:List (Arr2_int×Bool)):(List Pair×Int)→Option (LS (List Pair×Int) (List Pair)):=fun (p3,t4) =>
 if t4 < (c1.length:Int) then
 (qag (qeu c1 m2 t4) (p3,(vxc.wrap (t4+1)))).bind (fun p5 =>
 some (.next (p5,(vxc.wrap (t4+1)))))
 else
 some (.done p3)
def qjx (r1:List Int):(List (List Int)×Int)→Option (LS (List (List Int)×Int) (List (List Int))):=fun (o2,t3) =>
 if t3 < (r1.length:Int) then
 (idx r1 t3).bind fun (x4:Int) =>
 if (x4 == ((o2.length:Nat):Int))=true then
 if qao (o2.length+1) 24=true then
 (idx (o2++[[]]) x4).bind fun (x5:List Int) =>
 if qao (x5.length+1) 8=true then
 some (.next (((o2++[[]]).set x4.toNat (x5++[t3])),(vxc.wrap (t3+1))))
 else none
 else none
 else
 (idx o2 x4).bind fun (x6:List Int) =>
 if qao (x6.length+1) 8=true then
 some (.next ((o2.set x4.toNat (x6++[t3])),(vxc.wrap (t3+1))))
 else none
 else
 some (.done o2)
def qgq (c1:List Int) (t2:Int) (x3:List Int):(List (List Int)×Int)→Option (LS (List (List Int)×Int) (List (List Int))):=fun (g4,t5) =>
 if t5 < ((x3.length:Nat):Int) then
 (idx g4 t2).bind fun (x6:List Int) =>
 (idx x6 t5).bind fun (x7:Int) =>
 if t5 < ((x3.length:Nat):Int) then
 (idx c1 x7).bind fun (x8:Int) =>
 some (.next ((g4.set t2.toNat (x6.set t5.toNat x8)),(vxc.wrap (t5+1))))
 else none
 else
 some (.done g4)
def qd4 (c1:List Int) (o2:List (List Int)):(List (List Int)×Int)→Option (LS (List (List Int)×Int) (List (List Int))):=fun (g3,t4) =>
 if t4 < ((o2.length:Nat):Int) then
 (idx g3 t4).bind fun (x5:List Int) =>
 (qag (qgq c1 t4 x5) (g3,0)).bind (fun g6 =>
 some (.next (g6,(vxc.wrap (t4+1)))))
 else
 some (.done g3)
def qmh (r1:List Int):(List (List Int)×Int)→Option (LS (List (List Int)×Int) (List (List Int))):=fun (o2,t3) =>
 if t3 < (r1.length:Int) then
 (idx r1 t3).bind fun (x4:Int) =>
 if (x4 == ((o2.length:Nat):Int))=true then
 if qao (o2.length+1) 24=true then
 (idx (o2++[[]]) x4).bind fun (x5:List Int) =>
 if qao (x5.length+1) 8=true then
 some (.next (((o2++[[]]).set x4.toNat (x5++[t3])),(vxc.wrap (t3+1))))
 else none
 else none
 else
 (idx o2 x4).bind fun (x6:List Int) =>
 if qao (x6.length+1) 8=true then
 some (.next ((o2.set x4.toNat (x6++[t3])),(vxc.wrap (t3+1))))
 else none
 else
 some (.done o2)
def qmi (c1:List Int) (t2:Int) (x3:List Int):(List (List Int)×Int)→Option (LS (List (List Int)×Int) (List (List Int))):=fun (g4,t5) =>
 if t5 < ((x3.length:Nat):Int) then
 (idx g4 t2).bind fun (x6:List Int) =>
 (idx x6 t5).bind fun (x7:Int) =>
 if t5 < ((x3.length:Nat):Int) then
 (idx c1 x7).bind fun (x8:Int) =>
 some (.next ((g4.set t2.toNat (x6.set t5.toNat x8)),(vxc.wrap (t5+1))))
 else none
 else
 some (.done g4)
def qmj (c1:List Int) (o2:List (List Int)):(List (List Int)×Int)→Option (LS (List (List Int)×Int) (List (List Int))):=fun (g3,t4) =>
 if t4 < ((o2.length:Nat):Int) then
 (idx g3 t4).bind fun (x5:List Int) =>
 (qag (qmi c1 t4 x5) (g3,0)).bind (fun g6 =>
 some (.next (g6,(vxc.wrap (t4+1)))))
 else
 some (.done g3)
def qil (c1:List Int) (m2:List (Arr2_int×Bool)):Option (List (List Int)×Int) :=
 (qag (qev c1 m2) ([],0)).bind (fun p3 =>
 if (c1.length:Int)≤10 then
 (qgp (c1.length:Int) p3).bind fun (r4:List Int×Int×Int) =>
 if (r4.2.2 != 0)=true then
 some ([],r4.2.2)
 else
 (qhi r4.1).bind fun (r5:List Int) =>
 (qag (qjx r5) ([],0)).bind (fun o6 =>
 (qag (qd4 c1 o6) (o6,0)).bind (fun g7 =>
 some (g7,0)))
 else
 (qob (c1.length:Int) p3).bind fun (r8:List Int×Int) =>
 if (r8.2 != 0)=true then
 some ([],r8.2)
 else
 (qhi r8.1).bind fun (r9:List Int) =>
 (qag (qmh r9) ([],0)).bind (fun o10 =>
 (qag (qmj c1 o10) (o10,0)).bind (fun g11 =>
 some (g11,0))))
def qhp (x1:Int):Option (Bool) :=
 some (x1 != x1)
def qgr (x1:Int) (y2:Int):Option (Int) :=
 (qhp x1).bind fun (r3:Bool) =>
 (qhp y2).bind fun (r4:Bool) =>
 if r3=true then
 if r4=true then
 some 0
 else
 some (-1)
 else
 if r4=true then
 some 1
 else
 if x1 < y2 then
 some (-1)
 else
 if x1 > y2 then
 some 1
 else
 some 0
def qa3 (s1:List Int) (s2:List Int):Int→Option (LS (Int) ((Unit) ⊕ (Int))):=fun t3 =>
 if t3 < (s1.length:Int) then
 (idx s1 t3).bind fun (x4:Int) =>
 if t3≥(s2.length:Int) then
 some (.done (.inr 1))
 else
 (idx s2 t3).bind fun (x5:Int) =>
 (qgr x4 x5).bind fun (r6:Int) =>
 if (r6 != 0)=true then
 some (.done (.inr r6))
 else
 some (.next (vxc.wrap (t3+1)))
 else
 some (.done (.inl ()))
def qah (s1:List Int) (s2:List Int):Option (Int) :=
 (qag (qa3 s1 s2) 0).bind (fun o=>match o with
 | .inl () =>
 if (s1.length:Int) < (s2.length:Int) then
 some (-1)
 else
 some 0
 | .inr r3 =>
 some r3)
def qdl (r1:List Arr2_int):((List (Arr2_int×Bool))×Int)→Option (LS ((List (Arr2_int×Bool))×Int) ((List (Arr2_int×Bool)))):=fun (m2,t3) =>
 if t3 < (r1.length:Int) then
 (idx r1 t3).bind fun (x4:Arr2_int) =>
 (some x4.x0).bind fun (k5:Int) =>
 (some x4.x1).bind fun (k6:Int) =>
 some (.next ((qvn m2 (Arr2_int.mk k5 k6) true),(vxc.wrap (t3+1))))
 else
 some (.done m2)
def qc3 (t1:Table) (x2:List Int):(List Int×Int)→Option (LS (List Int×Int) (List Int)):=fun (i3,t4) =>
 if t4 < (x2.length:Int) then
 (idx x2 t4).bind fun (x5:Int) =>
 (idx t1.Rows x5).bind fun (x6:Row) =>
 if qao (i3.length+1) 8=true then
 some (.next ((i3++[x6.ID]),(vxc.wrap (t4+1))))
 else none
 else
 some (.done i3)
def qc4 (t1:Table) (r2:List (List Int)×Int):(List (List Int)×Int)→Option (LS (List (List Int)×Int) (List (List Int))):=fun (o3,t4) =>
 if t4 < (r2.1.length:Int) then
 (idx r2.1 t4).bind fun (x5:List Int) =>
 (qag (qc3 t1 x5) ([],0)).bind (fun i6 =>
 if qao (o3.length+1) 24=true then
 some (.next ((o3++[i6]),(vxc.wrap (t4+1))))
 else none)
 else
 some (.done o3)
def qek (t1:Table) (m2:List (Arr2_int×Bool)) (r3:List (List Int)×Int):(List (List Int)×Int)→Option (LS (List (List Int)×Int) ((List (List Int)) ⊕ (List (List Int)×Int))):=fun (o4,t5) =>
 if t5 < (r3.1.length:Int) then
 (idx r3.1 t5).bind fun (x6:List Int) =>
 (qil x6 m2).bind fun (r7:List (List Int)×Int) =>
 if (r7.2 != 0)=true then
 some (.done (.inr ([],r7.2)))
 else
 (qag (qc4 t1 r7) (o4,0)).bind (fun o8 =>
 some (.next (o8,(vxc.wrap (t5+1)))))
 else
 some (.done (.inl o4))
def qfl (t1:Table) (l2:Linkage):Option (List (List Int)×Int) :=
 (qhf t1 l2).bind fun (r3:Int) =>
 if (r3 != 0)=true then
 some ([],r3)
 else
 (qe4 t1 l2).bind fun (r4:List Arr2_int) =>
 (qag (qdl r4) ([],0)).bind (fun m5 =>
 (qfk (t1.Rows.length:Int) r4).bind fun (r6:List (List Int)×Int) =>
 if (r6.2 != 0)=true then
 some ([],r6.2)
 else
 (qag (qek t1 m5 r6) ([],0)).bind (fun o=>match o with
 | .inl o7 =>
 (vha (fun (y8:List Int) (y9:List Int)=>qah y8 y9) o7).bind fun (l10:List (List Int)) =>
 some (l10,0)
 | .inr r11 =>
 some r11))
def qew (a1:List Int) (b2:List Int):Int→Option (LS (Int) ((Unit) ⊕ (Bool))):=fun i3 =>
 if i3 < (a1.length:Int) then
 (idx a1 i3).bind fun (x4:Int) =>
 (idx b2 i3).bind fun (x5:Int) =>
 if (x4 != x5)=true then
 some (.done (.inr false))
 else
 some (.next (vxc.wrap (i3+1)))
 else
 some (.done (.inl ()))
def qim (a1:List Int) (b2:List Int):Option (Bool) :=
 if ((a1.length:Int) != (b2.length:Int))=true then
 some false
 else
 (qag (qew a1 b2) 0).bind (fun o=>match o with
 | .inl () =>
 some true
 | .inr r3 =>
 some r3)
def qg1 (a1:List (List Int)) (b2:List (List Int)):Int→Option (LS (Int) ((Unit) ⊕ (Bool))):=fun i3 =>
 if i3 < (a1.length:Int) then
 (idx a1 i3).bind fun (x4:List Int) =>
 (idx b2 i3).bind fun (x5:List Int) =>
 (qim x4 x5).bind fun (r6:Bool) =>
 if r6=true then
 some (.next (vxc.wrap (i3+1)))
 else
 some (.done (.inr false))
 else
 some (.done (.inl ()))
def qfm (a1:List (List Int)) (b2:List (List Int)):Option (Bool) :=
 if ((a1.length:Int) != (b2.length:Int))=true then
 some false
 else
 (qag (qg1 a1 b2) 0).bind (fun o=>match o with
 | .inl () =>
 some true
 | .inr r3 =>
 some r3)
def qdm (t1:Int) (x2:List Int):((List (Int×Int))×Int×Int)→Option (LS ((List (Int×Int))×Int×Int) (((List (Int×Int))) ⊕ ((List (Int×Int))×Int×Bool))):=fun (o3,b4,t5) =>
 if t5 < (x2.length:Int) then
 (idx x2 t5).bind fun (x6:Int) =>
 if (qo7 o3 x6).isSome=true then
 some (.done (.inr ([],0,false)))
 else
 if x6≤b4 then
 some (.done (.inr ([],0,false)))
 else
 some (.next ((qvn o3 x6 t1),x6,(vxc.wrap (t5+1))))
 else
 some (.done (.inl o3))
def qbi (d1:List (List Int)):((List (Int×Int))×Int×Int)→Option (LS ((List (Int×Int))×Int×Int) (((List (Int×Int))×Int) ⊕ ((List (Int×Int))×Int×Bool))):=fun (o2,p3,t4) =>
 if t4 < (d1.length:Int) then
 (idx d1 t4).bind fun (x5:List Int) =>
 if ((x5.length:Int) == 0)=true then
 some (.done (.inr ([],0,false)))
 else
 (qag (qdm t4 x5) (o2,0,0)).bind (fun o=>match o with
 | .inl o6 =>
 some (.next (o6,(vxc.wrap (p3+(vxc.wrap (vw9 (vxc.wrap ((x5.length:Int) * (vxc.wrap ((x5.length:Int) - 1)))) 2)))),(vxc.wrap (t4+1))))
 | .inr r7 =>
 some (.done (.inr r7)))
 else
 some (.done (.inl (o2,p3)))
def qep (d1:List (List Int)):Option ((List (Int×Int))×Int×Bool) :=
 (qag (qbi d1) ([],0,0)).bind (fun o=>match o with
 | .inl (o2,p3) =>
 some (o2,p3,(decide ((o2.length:Int)≤1000)))
 | .inr r4 =>
 some r4)
def qcb (r1:(List (Int×Int))×Int×Bool) (x2:List Int):(Int×(List (Int×Int))×Int)→Option (LS (Int×(List (Int×Int))×Int) (Int)):=fun (b3,c4,t5) =>
 if t5 < (x2.length:Int) then
 (idx x2 t5).bind fun (x6:Int) =>
 if (qo7 r1.1 x6).isSome=true then
 some (.next ((vxc.wrap (b3+((qo7 c4 ((qo7 r1.1 x6).getD 0)).getD 0))),(qvn c4 ((qo7 r1.1 x6).getD 0) (vxc.wrap (((qo7 c4 ((qo7 r1.1 x6).getD 0)).getD 0)+1))),(vxc.wrap (t5+1))))
 else
 some (.next (b3,c4,(vxc.wrap (t5+1))))
 else
 some (.done b3)
def qav (f1:List (List Int)) (r2:(List (Int×Int))×Int×Bool):(Int×Int)→Option (LS (Int×Int) (Int)):=fun (b3,t4) =>
 if t4 < (f1.length:Int) then
 (idx f1 t4).bind fun (x5:List Int) =>
 (qag (qcb r2 x5) (b3,[],0)).bind (fun b6 =>
 some (.next (b6,(vxc.wrap (t4+1)))))
 else
 some (.done b3)
def qcq (f1:List (List Int)) (t2:List (List Int)):Option (Ratio×Int) :=
 (qep f1).bind fun (r3:(List (Int×Int))×Int×Bool) =>
 (qep t2).bind fun (r4:(List (Int×Int))×Int×Bool) =>
 if r3.2.2=true then
 if r4.2.2=true then
 if (r3.2.1 == 0)=true then
 some ((Ratio.mk 1 1),0)
 else
 (qag (qav f1 r4) (0,0)).bind (fun b5 =>
 (qi5 b5 r3.2.1).bind fun (r6:Ratio×Int) =>
 some (r6.1,r6.2))
 else
 some ((Ratio.mk 0 0),1)
 else
 some ((Ratio.mk 0 0),1)
def qin (f1:List (List Int)) (t2:List (List Int)):Option (Ratio×Int) :=
 (qcq t2 f1).bind fun (r3:Ratio×Int) =>
 some (r3.1,r3.2)
def qhq (l1:List (List UInt8)):(List Row×Int)→Option (LS (List Row×Int) (List Row)):=fun (t2,t3) =>
 if t3 < 4 then
 (idx l1 t3).bind fun (x4:List UInt8) =>
 if qao (t2.length+1) 32=true then
 some (.next ((t2++[(Row.mk (vxc.wrap (t3+1)) [(Value.mk 2 0 x4)])]),(vxc.wrap (t3+1))))
 else none
 else
 some (.done t2)
def qf2:Option (Table×Linkage) :=
 (some ([[97,110,110],[97,110,110,101],[97,110,110,101,115],[98,111,98]]:List (List UInt8))).bind fun (l1:List (List UInt8)) =>
 (qag (qhq l1) ([],0)).bind (fun t2 =>
 some ((Table.mk [112] [[110,97,109,101]] t2),(Linkage.mk [[(Similar.mk 0 2 1)]] [] [3])))
def qgs (a1:Drossref04_Wide):Option (Bool) :=
 if (a1.Hi == 0)=true then
 some (a1.Lo == 0)
 else
 some false
def qcm (a1:Drossref04_Wide) (b2:Drossref04_Wide):Option (Bool) :=
 if a1.Hi < b2.Hi then
 some true
 else
 if (a1.Hi == b2.Hi)=true then
 some (decide (a1.Lo < b2.Lo))
 else
 some false
def qcy (a1:Drossref04_Wide) (b2:Drossref04_Wide):Option (Drossref04_Wide) :=
 (vl1 a1.Lo b2.Lo 0).bind fun (r3:Int×Int) =>
 (vl1 a1.Hi b2.Hi r3.2).bind fun (r4:Int×Int) =>
 some (Drossref04_Wide.mk r4.1 r3.1)
def qfn (a1:Drossref04_Wide) (b2:Drossref04_Wide):Option (Drossref04_Wide) :=
 (subF a1.Lo b2.Lo 0).bind fun (r3:Int×Int) =>
 (subF a1.Hi b2.Hi r3.2).bind fun (r4:Int×Int) =>
 some (Drossref04_Wide.mk r4.1 r3.1)
def qbm (a1:Drossref04_Wide) (b2:Drossref04_Wide):(Drossref04_Wide×Drossref04_Wide×Int)→Option (LS (Drossref04_Wide×Drossref04_Wide×Int) (Drossref04_Wide×Drossref04_Wide)):=fun (q3,r4,i5) =>
 if i5≥0 then
 if i5≥64 then
 (qcy r4 r4).bind fun (r6:Drossref04_Wide) =>
 if (vxa i5 64) < 0 then none else
 (qcy q3 q3).bind fun (r7:Drossref04_Wide) =>
 (qcm (Drossref04_Wide.mk r6.Hi (vxe.wrap (r6.Lo+(vxa (vw5 a1.Hi (2 ^ (min ((vxa i5 64)).toNat 64))) 2)))) b2).bind fun (r8:Bool) =>
 if r8=true then
 some (.next (r7,(Drossref04_Wide.mk r6.Hi (vxe.wrap (r6.Lo+(vxa (vw5 a1.Hi (2 ^ (min ((vxa i5 64)).toNat 64))) 2)))),(vxc.wrap (i5 - 1))))
 else
 (qfn (Drossref04_Wide.mk r6.Hi (vxe.wrap (r6.Lo+(vxa (vw5 a1.Hi (2 ^ (min ((vxa i5 64)).toNat 64))) 2)))) b2).bind fun (r9:Drossref04_Wide) =>
 some (.next ((Drossref04_Wide.mk r7.Hi (vxe.wrap (r7.Lo+1))),r9,(vxc.wrap (i5 - 1))))
 else
 (qcy r4 r4).bind fun (r10:Drossref04_Wide) =>
 if (vxa i5 64) < 0 then none else
 (qcy q3 q3).bind fun (r11:Drossref04_Wide) =>
 (qcm (Drossref04_Wide.mk r10.Hi (vxe.wrap (r10.Lo+(vxa (vw5 a1.Lo (2 ^ (min ((vxa i5 64)).toNat 64))) 2)))) b2).bind fun (r12:Bool) =>
 if r12=true then
 some (.next (r11,(Drossref04_Wide.mk r10.Hi (vxe.wrap (r10.Lo+(vxa (vw5 a1.Lo (2 ^ (min ((vxa i5 64)).toNat 64))) 2)))),(vxc.wrap (i5 - 1))))
 else
 (qfn (Drossref04_Wide.mk r10.Hi (vxe.wrap (r10.Lo+(vxa (vw5 a1.Lo (2 ^ (min ((vxa i5 64)).toNat 64))) 2)))) b2).bind fun (r13:Drossref04_Wide) =>
 some (.next ((Drossref04_Wide.mk r11.Hi (vxe.wrap (r11.Lo+1))),r13,(vxc.wrap (i5 - 1))))
 else
 some (.done (q3,r4))
def qed (a1:Drossref04_Wide) (b2:Drossref04_Wide):Option (Drossref04_Wide×Drossref04_Wide) :=
 (qag (qbm a1 b2) ((Drossref04_Wide.mk 0 0),(Drossref04_Wide.mk 0 0),127)).bind (fun (q3,r4) =>
 some (q3,r4))
def qfa:(Drossref04_Wide×Drossref04_Wide)→Option (LS (Drossref04_Wide×Drossref04_Wide) (Drossref04_Wide)):=fun (x1,y2) =>
 (qgs y2).bind fun (r3:Bool) =>
 if r3=true then
 some (.done x1)
 else
 (qed x1 y2).bind fun (r4:Drossref04_Wide×Drossref04_Wide) =>
 some (.next (y2,r4.2))
def qit (n1:Bool) (n2:Drossref04_Wide) (d3:Drossref04_Wide):Option (Ratio×Int) :=
 (qag qfa (n2,d3)).bind (fun x4 =>
 (qed n2 x4).bind fun (r5:Drossref04_Wide×Drossref04_Wide) =>
 (qed d3 x4).bind fun (r6:Drossref04_Wide×Drossref04_Wide) =>
 (qcm (Drossref04_Wide.mk 0 9223372036854775807) r5.1).bind fun (r7:Bool) =>
 if r7=true then
 some ((Ratio.mk 0 0),7)
 else
 (qcm (Drossref04_Wide.mk 0 9223372036854775807) r6.1).bind fun (r8:Bool) =>
 if r8=true then
 some ((Ratio.mk 0 0),7)
 else
 if n1=true then
 some ((Ratio.mk (vxc.wrap (0 - (vxc.wrap r5.1.Lo))) (vxc.wrap r6.1.Lo)),0)
 else
 some ((Ratio.mk (vxc.wrap r5.1.Lo) (vxc.wrap r6.1.Lo)),0))
def qgt (n1:Int):Option (Drossref04_Wide) :=
 if n1 < 0 then
 some (Drossref04_Wide.mk 0 (vxe.wrap (0 - (vxe.wrap n1))))
 else
 some (Drossref04_Wide.mk 0 (vxe.wrap n1))
def qhr (n1:Int) (d2:Int):Option (Ratio×Int) :=
 if (d2 == 0)=true then
 some ((Ratio.mk 0 0),8)
 else
 (qgt n1).bind fun (r3:Drossref04_Wide) =>
 (qgt d2).bind fun (r4:Drossref04_Wide) =>
 (qit (!((decide (n1 < 0)) == (decide (d2 < 0)))) r3 r4).bind fun (r5:Ratio×Int) =>
 some (r5.1,r5.2)
def qdx (n1:Int) (d2:Int):Option (Ratio) :=
 (qhr n1 d2).bind fun (r3:Ratio×Int) =>
 if (r3.2 != 0)=true then
 some (Ratio.mk 0 1)
 else
 some r3.1
def qfo:Option (Bool) :=
 (qf2 ).bind fun (r1:Table×Linkage) =>
 (qho r1.1 r1.2).bind fun (r2:List Arr2_int64×Int) =>
 (qfl r1.1 r1.2).bind fun (r3:List (List Int)×Int) =>
 (qcq r3.1 [[1,2],[3],[4]]).bind fun (r4:Ratio×Int) =>
 (qin r3.1 [[1,2],[3],[4]]).bind fun (r5:Ratio×Int) =>
 if (r2.2 == 0)=true then
 (qc2 r2.1 [(Arr2_int64.mk 1 2),(Arr2_int64.mk 2 3)]).bind fun (r6:Bool) =>
 if r6=true then
 if (r3.2 == 0)=true then
 (qfm r3.1 [[1,2,3],[4]]).bind fun (r7:Bool) =>
 if r7=true then
 if (r4.2 == 0)=true then
 (qdx 1 3).bind fun (r8:Ratio) =>
 if ((r4.1.Num == r8.Num) && (r4.1.Den == r8.Den))=true then
 if (r5.2 == 0)=true then
 (qdx 1 1).bind fun (r9:Ratio) =>
 some ((r5.1.Num == r9.Num) && (r5.1.Den == r9.Den))
 else
 some false
 else
 some false
 else
 some false
 else
 some false
 else
 some false
 else
 some false
 else
 some false
def qfp (v1:Value):Option (Bool) :=
 if (v1.Kind == 0)=true then
 if (v1.Num == 0)=true then
 some (v1.Str == [])
 else
 some false
 else
 if (v1.Kind == 1)=true then
 some (v1.Str == [])
 else
 if (v1.Kind == 2)=true then
 if (v1.Num == 0)=true then
 some (decide ((v1.Str.length:Int)≤200))
 else
 some false
 else
 if (v1.Kind == 3)=true then
 if v1.Num≥1 then
 some (v1.Str == [])
 else
 some false
 else
 some false
def qiu (c1:Similar):Option (Bool) :=
 if (c1.Measure == 1)=true then
 some (c1.Limit == 0)
 else
 if (c1.Measure == 2)=true then
 if c1.Limit≥0 then
 some (decide (c1.Limit≤200))
 else
 some false
 else
 if (c1.Measure == 4)=true then
 if c1.Limit≥0 then
 some (decide (c1.Limit≤200))
 else
 some false
 else
 if (c1.Measure == 3)=true then
 if c1.Limit≥0 then
 some (decide (c1.Limit≤100))
 else
 some false
 else
 some false
def qc9 (x1:Row) (y2:Row) (c3:Similar):Option (Int) :=
 if c3.Attr < 0 then
 some 6
 else
 if c3.Attr≥(x1.Values.length:Int) then
 some 6
 else
 if c3.Attr≥(y2.Values.length:Int) then
 some 6
 else
 (idx x1.Values c3.Attr).bind fun (x4:Value) =>
 (qfp x4).bind fun (r5:Bool) =>
 if r5=true then
 (idx y2.Values c3.Attr).bind fun (x6:Value) =>
 (qfp x6).bind fun (r7:Bool) =>
 if r7=true then
 (qiu c3).bind fun (r8:Bool) =>
 if r8=true then
 some 0
 else
 some 1
 else
 some 1
 else
 some 1
def qfq (n1:Int) (d2:Drossref56_Draft) (i3:Int):(List Similar×Int)→Option (LS (List Similar×Int) (List Similar)):=fun (r4,k5) =>
 (idx d2.Rules i3).bind fun (x6:List Drossref56_Test) =>
 if k5 < (x6.length:Int) then
 (idx x6 k5).bind fun (x7:Drossref56_Test) =>
 if n1=0 then none else
 if ((vxc.wrap (1+(vxc.wrap (vxa x7.Measure 4)))) == 1)=true then
 if ((vxc.wrap (1+(vxc.wrap (vxa x7.Measure 4)))) == 3)=true then
 if qao (r4.length+1) 24=true then
 some (.next ((r4++[(Similar.mk (vxa (vxc.wrap x7.Attr) n1) (vxc.wrap (1+(vxc.wrap (vxa x7.Measure 4)))) (vxc.wrap (vxa x7.Limit 101)))]),(vxc.wrap (k5+1))))
 else none
 else
 if qao (r4.length+1) 24=true then
 some (.next ((r4++[(Similar.mk (vxa (vxc.wrap x7.Attr) n1) (vxc.wrap (1+(vxc.wrap (vxa x7.Measure 4)))) 0)]),(vxc.wrap (k5+1))))
 else none
 else
 if ((vxc.wrap (1+(vxc.wrap (vxa x7.Measure 4)))) == 3)=true then
 if qao (r4.length+1) 24=true then
 some (.next ((r4++[(Similar.mk (vxa (vxc.wrap x7.Attr) n1) (vxc.wrap (1+(vxc.wrap (vxa x7.Measure 4)))) (vxc.wrap (vxa x7.Limit 101)))]),(vxc.wrap (k5+1))))
 else none
 else
 if qao (r4.length+1) 24=true then
 some (.next ((r4++[(Similar.mk (vxa (vxc.wrap x7.Attr) n1) (vxc.wrap (1+(vxc.wrap (vxa x7.Measure 4)))) (vxc.wrap (vxa x7.Limit 4)))]),(vxc.wrap (k5+1))))
 else none
 else
 some (.done r4)
def qda (n1:Int) (d2:Drossref56_Draft):(List (List Similar)×Int)→Option (LS (List (List Similar)×Int) ((List (List Similar)) ⊕ (Linkage×Bool))):=fun (l3,i4) =>
 if i4 < (d2.Rules.length:Int) then
 (idx d2.Rules i4).bind fun (x5:List Drossref56_Test) =>
 if (x5.length:Int) < 1 then
 some (.done (.inr ((Linkage.mk [] [] []),false)))
 else
 if (x5.length:Int) > 3 then
 some (.done (.inr ((Linkage.mk [] [] []),false)))
 else
 (qag (qfq n1 d2 i4) ([],0)).bind (fun r6 =>
 if qao (l3.length+1) 24=true then
 some (.next ((l3++[r6]),(vxc.wrap (i4+1))))
 else none)
 else
 some (.done (.inl l3))
def qbo (n1:Int) (d2:Drossref56_Draft):(List Int×List Int×Int)→Option (LS (List Int×List Int×Int) (List Int×List Int)):=fun (l3,l4,a5) =>
 if a5 < n1 then
 (show Option (Bool) from
 if a5 < 8 then
 if a5 < 0 then none else
 some ((vxa (vw5 d2.Block (2 ^ (min (a5).toNat 8))) 2) == 1)
 else
 some false).bind (fun t6 =>
 if t6=true then
 if qao (l3.length+1) 8=true then
 if a5 < (d2.Survive.length:Int) then
 (idx d2.Survive a5).bind fun (x7:Int) =>
 if qao (l4.length+1) 8=true then
 some (.next ((l3++[a5]),(l4++[(vxc.wrap (1+(vxc.wrap (vxa x7 5))))]),(vxc.wrap (a5+1))))
 else none
 else
 if qao (l4.length+1) 8=true then
 some (.next ((l3++[a5]),(l4++[1]),(vxc.wrap (a5+1))))
 else none
 else none
 else
 if a5 < (d2.Survive.length:Int) then
 (idx d2.Survive a5).bind fun (x8:Int) =>
 if qao (l4.length+1) 8=true then
 some (.next (l3,(l4++[(vxc.wrap (1+(vxc.wrap (vxa x8 5))))]),(vxc.wrap (a5+1))))
 else none
 else
 if qao (l4.length+1) 8=true then
 some (.next (l3,(l4++[1]),(vxc.wrap (a5+1))))
 else none)
 else
 some (.done (l3,l4))
def qjl (n1:Int) (d2:Drossref56_Draft):Option (Linkage×Bool) :=
 (qag (qda n1 d2) ([],0)).bind (fun o=>match o with
 | .inl l3 =>
 (qag (qbo n1 d2) ([],[],0)).bind (fun (l4,l5) =>
 some ((Linkage.mk l3 l4 l5),(decide ((d2.Rules.length:Int)≤4))))
 | .inr r6 =>
 some r6)
def qdy (c1:Int):Option (Value) :=
 if ((vxa c1 12) == 0)=true then
 some (Value.mk 1 0 [])
 else
 if ((vxa c1 12) == 1)=true then
 some (Value.mk 1 1 [])
 else
 if ((vxa c1 12) == 2)=true then
 some (Value.mk 1 2 [])
 else
 if ((vxa c1 12) == 3)=true then
 some (Value.mk 0 0 [])
 else
 if ((vxa c1 12) == 4)=true then
 some (Value.mk 2 0 [97])
 else
 if ((vxa c1 12) == 5)=true then
 some (Value.mk 2 0 [98])
 else
 if ((vxa c1 12) == 6)=true then
 some (Value.mk 2 0 [])
 else
 if ((vxa c1 12) == 7)=true then
 some (Value.mk 3 1 [])
 else
 if ((vxa c1 12) == 8)=true then
 some (Value.mk 1 (-1) [])
 else
 if ((vxa c1 12) == 9)=true then
 some (Value.mk 2 0 [97,98])
 else
 if ((vxa c1 12) == 10)=true then
 some (Value.mk 3 2 [])
 else
 some (Value.mk 1 7 [])
def qf3 (x1:Drossref03_Recipe) (n2:Int) (i3:Int):(List Value×Int)→Option (LS (List Value×Int) (List Value)):=fun (r4,k5) =>
 if k5 < n2 then
 (idx x1.Rows i3).bind fun (x6:List Int) =>
 if k5 < (x6.length:Int) then
 (idx x6 k5).bind fun (x7:Int) =>
 (qdy x7).bind fun (r8:Value) =>
 if qao (r4.length+1) 32=true then
 some (.next ((r4++[r8]),(vxc.wrap (k5+1))))
 else none
 else
 (qdy 0).bind fun (r9:Value) =>
 if qao (r4.length+1) 32=true then
 some (.next ((r4++[r9]),(vxc.wrap (k5+1))))
 else none
 else
 some (.done r4)
def qf4 (x1:Drossref03_Recipe) (n2:Int):(List Row×Int)→Option (LS (List Row×Int) (List Row)):=fun (t3,i4) =>
 if i4 < (x1.Rows.length:Int) then
 (qag (qf3 x1 n2 i4) ([],0)).bind (fun r5 =>
 if qao (t3.length+1) 32=true then
 some (.next ((t3++[(Row.mk (vxc.wrap (1+(vxc.wrap (i4 * (vxc.wrap (1+(vxc.wrap (vxa x1.Gap 3)))))))) r5)]),(vxc.wrap (i4+1))))
 else none)
 else
 some (.done t3)
def qhs (x1:Drossref03_Recipe) (n2:Int):Option (Table) :=
 if (0:Int)≤n2 then
 if n2≤8 then
 (some ([[97],[98],[99],[100],[101],[102],[103],[104]]:List (List UInt8))).bind fun (l3:List (List UInt8)) =>
 if qao ((l3.take n2.toNat).length) 16=true then
 (qag (qf4 x1 n2) ([],0)).bind (fun t4 =>
 some (Table.mk [114] (l3.take n2.toNat) t4))
 else none
 else none
 else none
def qee (x1:Drossref03_Recipe) (m2:Int):Option (Table×Bool) :=
 if (x1.Rows.length:Int) > m2 then
 some ((Table.mk [] [] []),false)
 else
 (qhs x1 (vxc.wrap (vxa x1.Attrs 6))).bind fun (r3:Table) =>
 some (r3,true)
def qdz (x1:Drossref03_Recipe) (d2:Drossref56_Draft):Option (Table×Linkage×Bool) :=
 (qee x1 6).bind fun (r3:Table×Bool) =>
 (show Option (Bool) from
 if r3.2=true then
 some ((r3.1.Attrs.length:Int) == 0)
 else
 some true).bind (fun t4 =>
 if t4=true then
 some ((Table.mk [] [] []),(Linkage.mk [] [] []),false)
 else
 (qjl (r3.1.Attrs.length:Int) d2).bind fun (r5:Linkage×Bool) =>
 some (r3.1,r5.1,r5.2))
def qcz (a1:Int) (b2:Int):Option (Int) :=
 if a1 < b2 then
 some (-1)
 else
 if a1 > b2 then
 some 1
 else
 some 0
def qa9 (a1:List UInt8) (b2:List UInt8):Int→Option (LS (Int) ((Unit) ⊕ (Int))):=fun i3 =>
 if i3 < (a1.length:Int) then
 if i3 < (b2.length:Int) then
 (idx a1 i3).bind fun (c4:UInt8) =>
 (idx b2 i3).bind fun (c5:UInt8) =>
 if (((c4.toNat:Nat):Int) != ((c5.toNat:Nat):Int))=true then
 (qcz (vxc.wrap ((c4.toNat:Nat):Int)) (vxc.wrap ((c5.toNat:Nat):Int))).bind fun (r6:Int) =>
 some (.done (.inr r6))
 else
 some (.next (vxc.wrap (i3+1)))
 else
 some (.done (.inl ()))
 else
 some (.done (.inl ()))
def qf5 (a1:List UInt8) (b2:List UInt8):Option (Int) :=
 (qag (qa9 a1 b2) 0).bind (fun o=>match o with
 | .inl () =>
 (qcz (a1.length:Int) (b2.length:Int)).bind fun (r3:Int) =>
 some r3
 | .inr r4 =>
 some r4)
def qc0 (a1:Value) (b2:Value):Option (Int) :=
 (qcz a1.Kind b2.Kind).bind fun (r3:Int) =>
 if (r3 != 0)=true then
 some r3
 else
 (qcz a1.Num b2.Num).bind fun (r4:Int) =>
 if (r4 != 0)=true then
 some r4
 else
 (qf5 a1.Str b2.Str).bind fun (r5:Int) =>
 some r5
def qch (b1:List UInt8):(List Int×Int)→Option (LS (List Int×Int) (List Int)):=fun (d2,k3) =>
 if k3≤(b1.length:Int) then
 if qao (d2.length+1) 8=true then
 some (.next ((d2++[k3]),(vxc.wrap (k3+1))))
 else none
 else
 some (.done d2)
def qci (a1:List UInt8) (b2:List UInt8) (d3:List Int) (i4:Int):(List Int×Int)→Option (LS (List Int×Int) (List Int)):=fun (n5,k6) =>
 if k6 < (b2.length:Int) then
 (idx d3 k6).bind fun (x7:Int) =>
 (idx a1 i4).bind fun (c8:UInt8) =>
 (idx b2 k6).bind fun (c9:UInt8) =>
 if (((c8.toNat:Nat):Int) != ((c9.toNat:Nat):Int))=true then
 (idx d3 (vxc.wrap (k6+1))).bind fun (x10:Int) =>
 (idx n5 k6).bind fun (x11:Int) =>
 if qao (n5.length+1) 8=true then
 some (.next ((n5++[(if (vxc.wrap (x11+1)) < (if (vxc.wrap (x10+1)) < (vxc.wrap (x7+1)) then (vxc.wrap (x10+1)) else (vxc.wrap (x7+1))) then (vxc.wrap (x11+1)) else (if (vxc.wrap (x10+1)) < (vxc.wrap (x7+1)) then (vxc.wrap (x10+1)) else (vxc.wrap (x7+1))))]),(vxc.wrap (k6+1))))
 else none
 else
 (idx d3 (vxc.wrap (k6+1))).bind fun (x12:Int) =>
 (idx n5 k6).bind fun (x13:Int) =>
 if qao (n5.length+1) 8=true then
 some (.next ((n5++[(if (vxc.wrap (x13+1)) < (if (vxc.wrap (x12+1)) < x7 then (vxc.wrap (x12+1)) else x7) then (vxc.wrap (x13+1)) else (if (vxc.wrap (x12+1)) < x7 then (vxc.wrap (x12+1)) else x7))]),(vxc.wrap (k6+1))))
 else none
 else
 some (.done n5)
def qdf (a1:List UInt8) (b2:List UInt8):(List Int×Int)→Option (LS (List Int×Int) (List Int)):=fun (d3,i4) =>
 if i4 < (a1.length:Int) then
 (qag (qci a1 b2 d3 i4) ([(vxc.wrap (i4+1))],0)).bind (fun n5 =>
 some (.next (n5,(vxc.wrap (i4+1)))))
 else
 some (.done d3)
def qdn (a1:List UInt8) (b2:List UInt8):Option (Int) :=
 (qag (qch b2) ([],0)).bind (fun d3 =>
 (qag (qdf a1 b2) (d3,0)).bind (fun d4 =>
 (idx d4 (b2.length:Int)).bind fun (x5:Int) =>
 some x5))
def qd0 (s1:List UInt8):Option (Bool) :=
 some (decide ((s1.length:Int) > 200))
def qbw (q1:Int):(List UInt8×Int)→Option (LS (List UInt8×Int) (List UInt8)):=fun (w2,i3) =>
 if i3 < q1 then
 if 1+w2.length≤9223372036854775807 then
 if (w2.length+1)+1≤9223372036854775807 then
 some (.next ((([1]++w2)++[1]),(vxc.wrap (i3+1))))
 else none
 else none
 else
 some (.done w2)
def qdo:(List (List UInt8)×Int)→Option (LS (List (List UInt8)×Int) (List (List UInt8))):=fun (o1,k2) =>
 if k2 > 0 then
 (idx o1 k2).bind fun (x3:List UInt8) =>
 (idx o1 (vxc.wrap (k2 - 1))).bind fun (x4:List UInt8) =>
 if (Op.bytesLess x3 x4)=true then
 (idx (o1.set k2.toNat x4) (vxc.wrap (k2 - 1))).bind fun (x5:List UInt8) =>
 some (.next (((o1.set k2.toNat x4).set (vxc.wrap (k2 - 1)).toNat x3),(vxc.wrap (k2 - 1))))
 else
 some (.done o1)
 else
 some (.done o1)
def qfb (s1:List UInt8) (q2:Int) (w3:List UInt8):(List (List UInt8)×Int)→Option (LS (List (List UInt8)×Int) (List (List UInt8))):=fun (o4,i5) =>
 if (vxc.wrap (i5+q2))≤(w3.length:Int) then
 if i5 < (vxc.wrap ((vxc.wrap ((s1.length:Int)+q2)) - 1)) then
 if 0≤i5 then
 if i5≤(vxc.wrap (i5+q2)) then
 if (vxc.wrap (i5+q2))≤(w3.length:Int) then
 if qao (o4.length+1) 16=true then
 (qag qdo ((o4++[((w3.drop i5.toNat).take ((vxc.wrap (i5+q2)).toNat - i5.toNat))]),(vxc.wrap ((((o4.length+1):Nat):Int) - 1)))).bind (fun o6 =>
 some (.next (o6,(vxc.wrap (i5+1)))))
 else none
 else none
 else none
 else none
 else
 some (.done o4)
 else
 some (.done o4)
def qdb (s1:List UInt8) (q2:Int):Option (List (List UInt8)×Int) :=
 (qd0 s1).bind fun (r3:Bool) =>
 if r3=true then
 some ([],3)
 else
 if q2 < 1 then
 some ([],7)
 else
 if q2 > 4 then
 some ([],7)
 else
 (qag (qbw q2) (s1,1)).bind (fun w4 =>
 (qag (qfb s1 q2 w4) ([],0)).bind (fun o5 =>
 some (o5,0)))
def qc5 (a1:List (List UInt8)) (b2:List (List UInt8)) (i3:Int):Int→Option (LS (Int) (Int)):=fun k4 =>
 if k4 < (b2.length:Int) then
 (idx b2 k4).bind fun (x5:List UInt8) =>
 (idx a1 i3).bind fun (x6:List UInt8) =>
 if (Op.bytesLess x5 x6)=true then
 some (.next (vxc.wrap (k4+1)))
 else
 some (.done k4)
 else
 some (.done k4)
def qcc (a1:List (List UInt8)) (b2:List (List UInt8)):(Int×Int×Int)→Option (LS (Int×Int×Int) (Int)):=fun (n3,k4,i5) =>
 if i5 < (a1.length:Int) then
 (qag (qc5 a1 b2 i5) k4).bind (fun k6 =>
 (show Option (Bool) from
 if k6 < (b2.length:Int) then
 (idx b2 k6).bind fun (x7:List UInt8) =>
 (idx a1 i5).bind fun (x8:List UInt8) =>
 some (x7 == x8)
 else
 some false).bind (fun t9 =>
 if t9=true then
 some (.next ((vxc.wrap (n3+1)),(vxc.wrap (k6+1)),(vxc.wrap (i5+1))))
 else
 some (.next (n3,k6,(vxc.wrap (i5+1))))))
 else
 some (.done n3)
def qgu (a1:List (List UInt8)) (b2:List (List UInt8)):Option (Int) :=
 (qag (qcc a1 b2) (0,0,0)).bind (fun n3 =>
 some n3)
def qgv (a1:List UInt8) (b2:List UInt8) (q3:Int):Option (Ratio×Int) :=
 (qd0 a1).bind fun (r4:Bool) =>
 if r4=true then
 some ((Ratio.mk 0 0),3)
 else
 (qd0 b2).bind fun (r5:Bool) =>
 if r5=true then
 some ((Ratio.mk 0 0),3)
 else
 (qdb a1 q3).bind fun (r6:List (List UInt8)×Int) =>
 (qdb b2 q3).bind fun (r7:List (List UInt8)×Int) =>
 if (r6.2 != 0)=true then
 some ((Ratio.mk 0 0),r6.2)
 else
 if ((vxc.wrap ((r6.1.length:Int)+(r7.1.length:Int))) == 0)=true then
 (qdx 1 1).bind fun (r8:Ratio) =>
 some (r8,0)
 else
 (qgu r6.1 r7.1).bind fun (r9:Int) =>
 (qdx (vxc.wrap (2 * r9)) (vxc.wrap ((r6.1.length:Int)+(r7.1.length:Int)))).bind fun (r10:Ratio) =>
 some (r10,0)
def qht (s1:List UInt8) (n2:Int):Option (List UInt8) :=
 if (0:Int)≤(if (s1.length:Int) < n2 then (s1.length:Int) else n2) then
 if (if (s1.length:Int) < n2 then (s1.length:Int) else n2)≤(s1.length:Int) then
 some (s1.take ((if (s1.length:Int) < n2 then (s1.length:Int) else n2).toNat))
 else none
 else none
def qfr (x1:Row) (y2:Row) (c3:Similar):Option (Bool×Int) :=
 (qc9 x1 y2 c3).bind fun (r4:Int) =>
 if (r4 != 0)=true then
 some (false,r4)
 else
 (idx x1.Values c3.Attr).bind fun (x5:Value) =>
 (idx y2.Values c3.Attr).bind fun (x6:Value) =>
 (show Option (Bool) from
 if (x5.Kind != 2)=true then
 some true
 else
 if (x6.Kind != 2)=true then
 some true
 else
 some (c3.Measure == 1)).bind (fun t7 =>
 if t7=true then
 (qc0 x5 x6).bind fun (r8:Int) =>
 some ((r8 == 0),0)
 else
 if (c3.Measure == 2)=true then
 (qdn x5.Str x6.Str).bind fun (r9:Int) =>
 some ((decide (r9≤c3.Limit)),0)
 else
 if (c3.Measure == 3)=true then
 (qgv x5.Str x6.Str 2).bind fun (r10:Ratio×Int) =>
 some ((decide ((vxc.wrap (100 * r10.1.Num))≥(vxc.wrap (c3.Limit * r10.1.Den)))),0)
 else
 (qht x5.Str c3.Limit).bind fun (r11:List UInt8) =>
 (qht x6.Str c3.Limit).bind fun (r12:List UInt8) =>
 some ((r11 == r12),0))
def qdp (x1:Row) (y2:Row) (l3:Linkage) (i4:Int):(Bool×Int)→Option (LS (Bool×Int) (Bool)):=fun (a5,k6) =>
 (idx l3.Rules i4).bind fun (x7:List Similar) =>
 if k6 < (x7.length:Int) then
 (idx x7 k6).bind fun (x8:Similar) =>
 (qfr x1 y2 x8).bind fun (r9:Bool×Int) =>
 if a5=true then
 some (.next (r9.1,(vxc.wrap (k6+1))))
 else
 some (.next (false,(vxc.wrap (k6+1))))
 else
 some (.done a5)
def qdq (x1:Row) (y2:Row) (l3:Linkage):Int→Option (LS (Int) ((Unit) ⊕ (Int))):=fun i4 =>
 if i4 < (l3.Rules.length:Int) then
 (qag (qdp x1 y2 l3 i4) (true,0)).bind (fun a5 =>
 if a5=true then
 some (.done (.inr i4))
 else
 some (.next (vxc.wrap (i4+1))))
 else
 some (.done (.inl ()))
def qhc (x1:Row) (y2:Row) (l3:Linkage):Option (Int) :=
 (qag (qdq x1 y2 l3) 0).bind (fun o=>match o with
 | .inl () =>
 some (-1)
 | .inr r4 =>
 some r4)
def qbn (a1:List Value) (b2:List Value):Int→Option (LS (Int) ((Unit) ⊕ (Int))):=fun i3 =>
 if i3 < (a1.length:Int) then
 if i3 < (b2.length:Int) then
 (idx a1 i3).bind fun (x4:Value) =>
 (idx b2 i3).bind fun (x5:Value) =>
 (qc0 x4 x5).bind fun (r6:Int) =>
 if (r6 != 0)=true then
 some (.done (.inr r6))
 else
 some (.next (vxc.wrap (i3+1)))
 else
 some (.done (.inl ()))
 else
 some (.done (.inl ()))
def qhd (a1:List Value) (b2:List Value):Option (Int) :=
 (qag (qbn a1 b2) 0).bind (fun o=>match o with
 | .inl () =>
 (qcz (a1.length:Int) (b2.length:Int)).bind fun (r3:Int) =>
 some r3
 | .inr r4 =>
 some r4)
def qhu (a1:List Value) (b2:List Value):Option (Bool) :=
 (qhd a1 b2).bind fun (r3:Int) =>
 some (r3 == 0)
def qio (s1:Int) (i2:Int):Option (Bool) :=
 if i2≥0 then
 if i2 < 32 then
 if i2 < 0 then none else
 some ((vxd.wrap ((BitVec.ofInt 32 (vw5 s1 (2 ^ (min (i2).toNat 32))) &&& (1#32)).toNat:Int)) == 1)
 else
 some false
 else
 some false
def qel (r1:Row) (s2:Int):(List Value×Int)→Option (LS (List Value×Int) (List Value)):=fun (o3,i4) =>
 if i4 < (r1.Values.length:Int) then
 (qio s2 i4).bind fun (r5:Bool) =>
 if r5=true then
 (idx r1.Values i4).bind fun (x6:Value) =>
 if qao (o3.length+1) 32=true then
 some (.next ((o3++[x6]),(vxc.wrap (i4+1))))
 else none
 else
 some (.next (o3,(vxc.wrap (i4+1))))
 else
 some (.done o3)
def qex (r1:Row) (s2:Int):Option (List Value) :=
 (qag (qel r1 s2) ([],0)).bind (fun o3 =>
 some o3)
def qef (a1:Row) (b2:Row) (s3:Int):Option (Bool) :=
 (qex a1 s3).bind fun (r4:List Value) =>
 (qex b2 s3).bind fun (r5:List Value) =>
 (qhu r4 r5).bind fun (r6:Bool) =>
 some r6
def qcj (x1:Row) (y2:Row) (l3:Linkage):Int→Option (LS (Int) ((Unit) ⊕ (Bool))):=fun i4 =>
 if i4 < (l3.Block.length:Int) then
 (idx l3.Block i4).bind fun (x5:Int) =>
 if x5 < 0 then none else
 (qef x1 y2 (vxd.wrap (1 * 2 ^ (min (x5).toNat 32)))).bind fun (r6:Bool) =>
 if r6=true then
 some (.done (.inr true))
 else
 some (.next (vxc.wrap (i4+1)))
 else
 some (.done (.inl ()))
def qdr (x1:Row) (y2:Row) (l3:Linkage):Option (Bool) :=
 if ((l3.Block.length:Int) == 0)=true then
 some true
 else
 (qag (qcj x1 y2 l3) 0).bind (fun o=>match o with
 | .inl () =>
 some false
 | .inr r4 =>
 some r4)
def qfs (x1:Row) (y2:Row) (l3:Linkage):Option (Bool) :=
 if (x1.ID != y2.ID)=true then
 (qdr x1 y2 l3).bind fun (r4:Bool) =>
 if r4=true then
 (qhc x1 y2 l3).bind fun (r5:Int) =>
 some (decide (r5≥0))
 else
 some false
 else
 some false
def qey (l1:List Int) (i2:Int):Int→Option (LS (Int) ((Unit) ⊕ (Bool))):=fun i3 =>
 if i3 < (l1.length:Int) then
 (idx l1 i3).bind fun (x4:Int) =>
 if (x4 == i2)=true then
 some (.done (.inr true))
 else
 some (.next (vxc.wrap (i3+1)))
 else
 some (.done (.inl ()))
def qeq (l1:List Int) (i2:Int):Option (Bool) :=
 (qag (qey l1 i2) 0).bind (fun o=>match o with
 | .inl () =>
 some false
 | .inr r3 =>
 some r3)
def qkd (l1:List Int):Int→Option (LS (Int) ((Unit) ⊕ (Bool))):=fun i2 =>
 if i2 < (l1.length:Int) then
 (idx l1 i2).bind fun (x3:Int) =>
 (idx l1 (vxc.wrap (i2 - 1))).bind fun (x4:Int) =>
 if x3≤x4 then
 some (.done (.inr false))
 else
 some (.next (vxc.wrap (i2+1)))
 else
 some (.done (.inl ()))
def qhj (l1:List Int):Option (Bool) :=
 (qag (qkd l1) 1).bind (fun o=>match o with
 | .inl () =>
 some (decide ((l1.length:Int) > 0))
 | .inr r2 =>
 some r2)
def qd5 (l1:List (List Int)) (a2:List Int) (i3:Int):Int→Option (LS (Int) ((Unit) ⊕ (Bool))):=fun k4 =>
 (idx l1 i3).bind fun (x5:List Int) =>
 if k4 < (x5.length:Int) then
 (idx x5 k4).bind fun (x6:Int) =>
 (qeq a2 x6).bind fun (r7:Bool) =>
 if r7=true then
 some (.done (.inr false))
 else
 some (.next (vxc.wrap (k4+1)))
 else
 some (.done (.inl ()))
def qc1 (l1:List (List Int)):(List Int×Int)→Option (LS (List Int×Int) ((Unit) ⊕ (Bool))):=fun (a2,i3) =>
 if i3 < (l1.length:Int) then
 (idx l1 i3).bind fun (x4:List Int) =>
 (qhj x4).bind fun (r5:Bool) =>
 if r5=true then
 (qag (qd5 l1 a2 i3) 0).bind (fun o=>match o with
 | .inl () =>
 if qao (a2.length+x4.length) 8=true then
 some (.next ((a2++x4),(vxc.wrap (i3+1))))
 else none
 | .inr r6 =>
 some (.done (.inr r6)))
 else
 some (.done (.inr false))
 else
 some (.done (.inl ()))
def qhv (l1:List (List Int)):Option (Bool) :=
 (qag (qc1 l1) ([],0)).bind (fun o=>match o with
 | .inl () =>
 some true
 | .inr r2 =>
 some r2)
def qd6 (t1:Table) (i2:Int):Int→Option (LS (Int) ((Unit) ⊕ (Int×Bool))):=fun i3 =>
 if i3 < (t1.Rows.length:Int) then
 (idx t1.Rows i3).bind fun (x4:Row) =>
 if (x4.ID == i2)=true then
 some (.done (.inr (i3,true)))
 else
 some (.next (vxc.wrap (i3+1)))
 else
 some (.done (.inl ()))
def qhw (t1:Table) (i2:Int):Option (Int×Bool) :=
 (qag (qd6 t1 i2) 0).bind (fun o=>match o with
 | .inl () =>
 some (0,false)
 | .inr r3 =>
 some r3)
def qft (t1:Table) (l2:List (List Int)) (i3:Int):Int→Option (LS (Int) ((Unit) ⊕ (Bool))):=fun k4 =>
 (idx l2 i3).bind fun (x5:List Int) =>
 if k4 < (x5.length:Int) then
 (idx x5 k4).bind fun (x6:Int) =>
 (qhw t1 x6).bind fun (r7:Int×Bool) =>
 if r7.2=true then
 some (.next (vxc.wrap (k4+1)))
 else
 some (.done (.inr false))
 else
 some (.done (.inl ()))
def qfu (t1:Table) (l2:List (List Int)):(Int×Int)→Option (LS (Int×Int) ((Int) ⊕ (Bool))):=fun (n3,i4) =>
 if i4 < (l2.length:Int) then
 (idx l2 i4).bind fun (x5:List Int) =>
 (qag (qft t1 l2 i4) 0).bind (fun o=>match o with
 | .inl () =>
 some (.next ((vxc.wrap (n3+(x5.length:Int))),(vxc.wrap (i4+1))))
 | .inr r6 =>
 some (.done (.inr r6)))
 else
 some (.done (.inl n3))
def qh8 (t1:Table) (l2:List (List Int)):Option (Bool) :=
 (qhv l2).bind fun (r3:Bool) =>
 if r3=true then
 (qag (qfu t1 l2) (0,0)).bind (fun o=>match o with
 | .inl n4 =>
 some (n4 == (t1.Rows.length:Int))
 | .inr r5 =>
 some r5)
 else
 some false
def qjm (r1:Row):Option (Row) :=
 if qao r1.Values.length 32=true then
 some (Row.mk r1.ID r1.Values)
 else none
def qhk (r1:List Row):(List Row×Int)→Option (LS (List Row×Int) (List Row)):=fun (o2,i3) =>
 if i3 < (r1.length:Int) then
 (idx r1 i3).bind fun (x4:Row) =>
 (qjm x4).bind fun (r5:Row) =>
 if qao (o2.length+1) 32=true then
 some (.next ((o2++[r5]),(vxc.wrap (i3+1))))
 else none
 else
 some (.done o2)
def qhx (t1:Table) (r2:List Row):Option (Table) :=
 if qao t1.Attrs.length 16=true then
 (qag (qhk r2) ([],0)).bind (fun o3 =>
 some (Table.mk t1.Name t1.Attrs o3))
 else none
def qhl (t1:Table) (i2:List Int):(List Row×Int)→Option (LS (List Row×Int) (List Row)):=fun (r3,i4) =>
 if i4 < (t1.Rows.length:Int) then
 (idx t1.Rows i4).bind fun (x5:Row) =>
 (qeq i2 x5.ID).bind fun (r6:Bool) =>
 if r6=true then
 if qao (r3.length+1) 32=true then
 some (.next ((r3++[x5]),(vxc.wrap (i4+1))))
 else none
 else
 some (.next (r3,(vxc.wrap (i4+1))))
 else
 some (.done r3)
def qhy (t1:Table) (i2:List Int):Option (Table) :=
 (qag (qhl t1 i2) ([],0)).bind (fun r3 =>
 (qhx t1 r3).bind fun (r4:Table) =>
 some r4)
def qds (l1:Linkage) (r2:Table) (i3:Int):(List Pair×Int)→Option (LS (List Pair×Int) (List Pair)):=fun (o4,k5) =>
 if k5 < (r2.Rows.length:Int) then
 (idx r2.Rows i3).bind fun (x6:Row) =>
 (idx r2.Rows k5).bind fun (x7:Row) =>
 (qfs x6 x7 l1).bind fun (r8:Bool) =>
 if r8=true then
 if qao (o4.length+1) 24=true then
 some (.next ((o4++[(Pair.mk i3 k5 1)]),(vxc.wrap (k5+1))))
 else none
 else
 if qao (o4.length+1) 24=true then
 some (.next ((o4++[(Pair.mk i3 k5 (-1))]),(vxc.wrap (k5+1))))
 else none
 else
 some (.done o4)
def qdt (l1:Linkage) (r2:Table):(List Pair×Int)→Option (LS (List Pair×Int) (List Pair)):=fun (o3,i4) =>
 if i4 < (r2.Rows.length:Int) then
 (qag (qds l1 r2 i4) (o3,(vxc.wrap (i4+1)))).bind (fun o5 =>
 some (.next (o5,(vxc.wrap (i4+1)))))
 else
 some (.done o3)
def qfv (t1:Table) (l2:Linkage) (i3:List Int):Option (List Pair) :=
 (qhy t1 i3).bind fun (r4:Table) =>
 (qag (qdt l2 r4) ([],0)).bind (fun o5 =>
 some o5)
def qcn (l1:List Pair) (i2:Int) (x3:Pair):Int→Option (LS (Int) ((Unit) ⊕ (Int))):=fun k4 =>
 if k4 < i2 then
 (idx l1 k4).bind fun (x5:Pair) =>
 if (x5.I == x3.I)=true then
 if (x5.K == x3.K)=true then
 some (.done (.inr 1))
 else
 some (.next (vxc.wrap (k4+1)))
 else
 some (.next (vxc.wrap (k4+1)))
 else
 some (.done (.inl ()))
def qfc (n1:Int) (l2:List Pair):Int→Option (LS (Int) ((Unit) ⊕ (Int))):=fun i3 =>
 if i3 < (l2.length:Int) then
 (idx l2 i3).bind fun (x4:Pair) =>
 if x4.I < 0 then
 some (.done (.inr 1))
 else
 if x4.I≥x4.K then
 some (.done (.inr 1))
 else
 if x4.K≥n1 then
 some (.done (.inr 1))
 else
 if x4.Weight < (-1000) then
 some (.done (.inr 1))
 else
 if x4.Weight > 1000 then
 some (.done (.inr 1))
 else
 (qag (qcn l2 i3 x4) 0).bind (fun o=>match o with
 | .inl () =>
 some (.next (vxc.wrap (i3+1)))
 | .inr r5 =>
 some (.done (.inr r5)))
 else
 some (.done (.inl ()))
def qfw (n1:Int) (l2:List Pair):Option (Int) :=
 if n1 < 0 then
 some 7
 else
 if n1 > 200 then
 some 7
 else
 if (l2.length:Int) > 20000 then
 some 3
 else
 (qag (qfc n1 l2) 0).bind (fun o=>match o with
 | .inl () =>
 some 0
 | .inr r3 =>
 some r3)
def qd7 (l1:List Pair) (l2:List Int):(Int×Int)→Option (LS (Int×Int) (Int)):=fun (s3,i4) =>
 if i4 < (l1.length:Int) then
 (idx l1 i4).bind fun (x5:Pair) =>
 (idx l2 x5.I).bind fun (x6:Int) =>
 (idx l2 x5.K).bind fun (x7:Int) =>
 (show Option (Bool) from
 if x5.Weight > 0 then
 some (!(x6 == x7))
 else
 some false).bind (fun t8 =>
 if t8=true then
 (show Option (Bool) from
 if x5.Weight < 0 then
 some (x6 == x7)
 else
 some false).bind (fun t9 =>
 if t9=true then
 some (.next ((vxc.wrap ((vxc.wrap (s3+x5.Weight)) - x5.Weight)),(vxc.wrap (i4+1))))
 else
 some (.next ((vxc.wrap (s3+x5.Weight)),(vxc.wrap (i4+1)))))
 else
 (show Option (Bool) from
 if x5.Weight < 0 then
 some (x6 == x7)
 else
 some false).bind (fun t10 =>
 if t10=true then
 some (.next ((vxc.wrap (s3 - x5.Weight)),(vxc.wrap (i4+1))))
 else
 some (.next (s3,(vxc.wrap (i4+1))))))
 else
 some (.done s3)
def qd1 (l1:List Pair) (l2:List Int):Option (Int) :=
 (qag (qd7 l1 l2) (0,0)).bind (fun s3 =>
 some s3)
def qd8 (o1:List (List Int)) (k2:Int):(Int×Int)→Option (LS (Int×Int) (Int)):=fun (m3,j4) =>
 (idx o1 k2).bind fun (x5:List Int) =>
 if j4 < (x5.length:Int) then
 (idx x5 j4).bind fun (x6:Int) =>
 some (.next ((if x6 > m3 then x6 else m3),(vxc.wrap (j4+1))))
 else
 some (.done m3)
def qd9 (o1:List (List Int)) (k2:Int) (m3:Int):(List (List Int)×Int)→Option (LS (List (List Int)×Int) (List (List Int))):=fun (m4,l5) =>
 if l5≤(vxc.wrap (m3+1)) then
 (idx o1 k2).bind fun (x6:List Int) =>
 if qao x6.length 8=true then
 if qao (x6.length+1) 8=true then
 if qao (m4.length+1) 24=true then
 some (.next ((m4++[(x6++[l5])]),(vxc.wrap (l5+1))))
 else none
 else none
 else none
 else
 some (.done m4)
def qea (o1:List (List Int)):(List (List Int)×Int)→Option (LS (List (List Int)×Int) (List (List Int))):=fun (m2,k3) =>
 if k3 < (o1.length:Int) then
 (qag (qd8 o1 k3) ((-1),0)).bind (fun m4 =>
 (qag (qd9 o1 k3 m4) (m2,0)).bind (fun m5 =>
 some (.next (m5,(vxc.wrap (k3+1))))))
 else
 some (.done m2)
def qeb (n1:Int):(List (List Int)×Int)→Option (LS (List (List Int)×Int) (List (List Int))):=fun (o2,i3) =>
 if i3 < n1 then
 (qag (qea o2) ([],0)).bind (fun m4 =>
 some (.next (m4,(vxc.wrap (i3+1)))))
 else
 some (.done o2)
def qip (n1:Int):Option (List (List Int)) :=
 (some ([[]]:List (List Int))).bind fun (l2:List (List Int)) =>
 (qag (qeb n1) (l2,0)).bind (fun o3 =>
 some o3)
def qbx (l1:List Pair) (r2:List (List Int)):(List Int×Int)→Option (LS (List Int×Int) (List Int)):=fun (b3,i4) =>
 if i4 < (r2.length:Int) then
 (idx r2 i4).bind fun (x5:List Int) =>
 (qd1 l1 x5).bind fun (r6:Int) =>
 (qd1 l1 b3).bind fun (r7:Int) =>
 if r6 < r7 then
 some (.next (x5,(vxc.wrap (i4+1))))
 else
 some (.next (b3,(vxc.wrap (i4+1))))
 else
 some (.done b3)
def qf6 (n1:Int) (l2:List Pair):Option (List Int×Int×Int) :=
 (qfw n1 l2).bind fun (r3:Int) =>
 if (r3 != 0)=true then
 some ([],0,r3)
 else
 if n1 > 10 then
 some ([],0,3)
 else
 (qip n1).bind fun (r4:List (List Int)) =>
 (r4[0]?).bind fun (x5:List Int) =>
 (qag (qbx l2 r4) (x5,1)).bind (fun b6 =>
 (qd1 l2 b6).bind fun (r7:Int) =>
 some (b6,r7,0))
def qem (r1:List Int):(List (List Int)×Int)→Option (LS (List (List Int)×Int) (List (List Int))):=fun (o2,i3) =>
 if i3 < (r1.length:Int) then
 (idx r1 i3).bind fun (x4:Int) =>
 if (x4 == ((o2.length:Nat):Int))=true then
 if qao (o2.length+1) 24=true then
 (idx (o2++[[]]) x4).bind fun (x5:List Int) =>
 if qao (x5.length+1) 8=true then
 some (.next (((o2++[[]]).set x4.toNat (x5++[i3])),(vxc.wrap (i3+1))))
 else none
 else none
 else
 (idx o2 x4).bind fun (x6:List Int) =>
 if qao (x6.length+1) 8=true then
 some (.next ((o2.set x4.toNat (x6++[i3])),(vxc.wrap (i3+1))))
 else none
 else
 some (.done o2)
def qhz (n1:Int) (l2:List Pair) (l3:List Int):Option (Int×Int) :=
 (qfw n1 l2).bind fun (r4:Int) =>
 if (r4 != 0)=true then
 some (0,r4)
 else
 if ((l3.length:Int) != n1)=true then
 some (0,6)
 else
 (qd1 l2 l3).bind fun (r5:Int) =>
 some (r5,0)
def qbr (r1:List (List Int)×Int) (x2:Row):(List Int×Int)→Option (LS (List Int×Int) (List Int)):=fun (l3,t4) =>
 if t4 < (r1.1.length:Int) then
 (idx r1.1 t4).bind fun (x5:List Int) =>
 (qeq x5 x2.ID).bind fun (r6:Bool) =>
 if r6=true then
 if qao (l3.length+1) 8=true then
 some (.next ((l3++[t4]),(vxc.wrap (t4+1))))
 else none
 else
 some (.next (l3,(vxc.wrap (t4+1))))
 else
 some (.done l3)
def qbc (r1:Table×Linkage×Bool) (r2:List (List Int)×Int):(List Int×List Int×Int)→Option (LS (List Int×List Int×Int) (List Int×List Int)):=fun (l3,i4,t5) =>
 if t5 < (r1.1.Rows.length:Int) then
 (idx r1.1.Rows t5).bind fun (x6:Row) =>
 if qao (i4.length+1) 8=true then
 (qag (qbr r2 x6) (l3,0)).bind (fun l7 =>
 some (.next (l7,(i4++[x6.ID]),(vxc.wrap (t5+1)))))
 else none
 else
 some (.done (l3,i4))
def qck (x1:Drossref03_Recipe) (d2:Drossref56_Draft):Option (Bool) :=
 (qdz x1 d2).bind fun (r3:Table×Linkage×Bool) =>
 (show Option (Bool) from
 (qfo ).bind fun (r4:Bool) =>
 if r4=true then
 if r3.2.2=true then
 some (decide ((r3.1.Rows.length:Int) > 5))
 else
 some true
 else
 some true).bind (fun t5 =>
 if t5=true then
 (qfo ).bind fun (r6:Bool) =>
 some r6
 else
 (qfl r3.1 r3.2.1).bind fun (r7:List (List Int)×Int) =>
 if (r7.2 != 0)=true then
 some false
 else
 (qh8 r3.1 r7.1).bind fun (r8:Bool) =>
 if r8=true then
 (qag (qbc r3 r7) ([],[],0)).bind (fun (l9,i10) =>
 (qfv r3.1 r3.2.1 i10).bind fun (r11:List Pair) =>
 (qhz (i10.length:Int) r11 l9).bind fun (r12:Int×Int) =>
 (qf6 (i10.length:Int) r11).bind fun (r13:List Int×Int×Int) =>
 if (r12.2 == 0)=true then
 if (r13.2.2 == 0)=true then
 some (r12.1 == r13.2.1)
 else
 some false
 else
 some false)
 else
 some false)
def qcr (l1:List Int):Int→Option (LS (Int) ((Unit) ⊕ (Bool))):=fun i2 =>
 if i2 < (l1.length:Int) then
 (idx l1 i2).bind fun (x3:Int) =>
 (idx l1 (vxc.wrap (i2 - 1))).bind fun (x4:Int) =>
 if x3≤x4 then
 some (.done (.inr false))
 else
 some (.next (vxc.wrap (i2+1)))
 else
 some (.done (.inl ()))
def qmk (l1:List Int):Option (Bool) :=
 (qag (qcr l1) 1).bind (fun o=>match o with
 | .inl () =>
 some (decide ((l1.length:Int) > 0))
 | .inr r2 =>
 some r2)
def qix (l:List (List UInt8)):Option (List (List UInt8)):=if qao l.length 16=true then some l else none
def qd2 (s1:List Int) (v2:Int):Int→Option (LS (Int) ((Unit) ⊕ (Int))):=fun t3 =>
 if t3 < (s1.length:Int) then
 (idx s1 t3).bind fun (x4:Int) =>
 if (v2 == x4)=true then
 some (.done (.inr t3))
 else
 some (.next (vxc.wrap (t3+1)))
 else
 some (.done (.inl ()))
def qjn (s1:List Int) (v2:Int):Option (Int) :=
 (qag (qd2 s1 v2) 0).bind (fun o=>match o with
 | .inl () =>
 some (-1)
 | .inr r3 =>
 some r3)
def qh0 (s1:List Int) (v2:Int):Option (Bool) :=
 (qjn s1 v2).bind fun (r3:Int) =>
 some (decide (r3≥0))
def qml (l:List Value):Option (List Value):=if qao l.length 32=true then some l else none
def qpa (r1:Row):Option (Row) :=
 (qml r1.Values).bind fun (r2:List Value) =>
 some (Row.mk r1.ID r2)
def qoc (r1:List Row):(List Row×Int)→Option (LS (List Row×Int) (List Row)):=fun (o2,t3) =>
 if t3 < (r1.length:Int) then
 (idx r1 t3).bind fun (x4:Row) =>
 (qpa x4).bind fun (r5:Row) =>
 if qao (o2.length+1) 32=true then
 some (.next ((o2++[r5]),(vxc.wrap (t3+1))))
 else none
 else
 some (.done o2)
def qt0 (t1:Table) (r2:List Row):Option (Table) :=
 (qix t1.Attrs).bind fun (r3:List (List UInt8)) =>
 (qag (qoc r2) ([],0)).bind (fun o4 =>
 some (Table.mk t1.Name r3 o4))
def qod (t1:Table) (i2:List Int):(List Row×Int)→Option (LS (List Row×Int) (List Row)):=fun (r3,t4) =>
 if t4 < (t1.Rows.length:Int) then
 (idx t1.Rows t4).bind fun (x5:Row) =>
 (qh0 i2 x5.ID).bind fun (r6:Bool) =>
 if r6=true then
 if qao (r3.length+1) 32=true then
 some (.next ((r3++[x5]),(vxc.wrap (t4+1))))
 else none
 else
 some (.next (r3,(vxc.wrap (t4+1))))
 else
 some (.done r3)
def qzj (t1:Table) (i2:List Int):Option (Table) :=
 (qag (qod t1 i2) ([],0)).bind (fun r3 =>
 (qt0 t1 r3).bind fun (r4:Table) =>
 some r4)
def qrh:(List (List Int)×Int)→Option (LS (List (List Int)×Int) (List (List Int))):=fun (l1,k2) =>
 if k2 > 0 then
 (idx l1 k2).bind fun (x3:List Int) =>
 (x3[0]?).bind fun (x4:Int) =>
 (idx l1 (vxc.wrap (k2 - 1))).bind fun (x5:List Int) =>
 (x5[0]?).bind fun (x6:Int) =>
 if x4 < x6 then
 (idx (l1.set k2.toNat x5) (vxc.wrap (k2 - 1))).bind fun (x7:List Int) =>
 some (.next (((l1.set k2.toNat x5).set (vxc.wrap (k2 - 1)).toNat x3),(vxc.wrap (k2 - 1))))
 else
 some (.done l1)
 else
 some (.done l1)
def qri:(List (List Int)×Int)→Option (LS (List (List Int)×Int) (List (List Int))):=fun (l1,i2) =>
 if i2 < ((l1.length:Nat):Int) then
 (qag qrh (l1,i2)).bind (fun l3 =>
 some (.next (l3,(vxc.wrap (i2+1)))))
 else
 some (.done l1)
end Go.Proofs.YtmlegeeinnkhkaaGreat
namespace Go.Ab
open Go
def qvf {α β τ:Type} (f:β→α→β ⊕ τ) (fin:β→τ):List α→β→τ
 | [],b=>fin b
 | x :: r,b=>match f b x with
  | .inl b'=>qvf f fin r b'
  | .inr t=>t
theorem q6v {α β σ τ:Type} (l:List α) (S:β→Int→σ) (B:σ→Option (LS σ τ)) (f:β→α→β ⊕ τ) (fin:β→τ) (I:Nat→β→Prop)
  (hs:∀(k:Nat) b x,l[k]?=some x→I k b→(∀b',f b x=.inl b'→B (S b k)=some (.next (S b' (k+1:Nat)))∧I (k+1) b')∧(∀t,f b x=.inr t→B (S b k)=some (.done t)))
  (he:∀b,I l.length b→B (S b l.length)=some (.done (fin b))) :
  ∀(r:List α) (k:Nat) (b:β),l.drop k=r→k≤l.length→I k b→qag B (S b k)=some (qvf f fin r b):=by
 intro r
 induction r with
 | nil =>
  intro k b hd hk hI;have:k=l.length:=by
   have:=congrArg vxo hd;simp at this;omega
  subst this;exact qad (he b hI)
 | cons x r ih =>
  intro k b hd hk hI;have hx:l[k]?=some x:=by
   have:=congrArg (·[0]?) hd;simpa [vto] using this
  have hlt:k < l.length:=(vtr.1 hx).1;have hd':l.drop (k+1)=r:=by
   rw [←vxi,hd];rfl
  obtain ⟨h1,h2⟩:=hs k b x hx hI;cases hf:f b x with
  | inl b' =>
   obtain ⟨h3,h4⟩:=h1 b' hf;rw [qaf h3,ih (k+1) b' hd' hlt h4];simp [qvf,hf]
  | inr t =>
   rw [qad (h2 t hf)];simp [qvf,hf]
theorem qp1 {α β σ τ:Type} (l:List α) (S:β→Int→σ) (B:σ→Option (LS σ τ)) (f:β→α→β ⊕ τ) (fin:β→τ) (I:Nat→β→Prop) {b0:β} {s0:σ} (h0:s0=S b0 0) (hI:I 0 b0)
  (hs:∀(k:Nat) b x,l[k]?=some x→k < l.length→I k b→(∀b',f b x=.inl b'→B (S b k)=some (.next (S b' (k+1:Nat)))∧I (k+1) b')∧(∀t,f b x=.inr t→B (S b k)=some (.done t)))
  (he:∀b,I l.length b→B (S b l.length)=some (.done (fin b))):qag B s0=some (qvf f fin l b0):=by
 subst h0;exact q6v l S B f fin I (fun k b x hx=>hs k b x hx (qan hx)) he l 0 b0 rfl (vww _) hI
theorem qbj {k n:Nat} (h:k < n) (hn:n≤4611686018427387904):vxc.wrap ((k:Int)+1)=((k+1:Nat):Int):=by
 rw [qax (by omega) (by omega)];omega
theorem qj8 {k:Nat} (h:k < 4611686018427387904):vxc.wrap ((k:Int)+1)=((k+1:Nat):Int):=by
 rw [qax (by omega) (by omega)];omega
theorem wqn (k:Nat) (h:k < 4611686018427387904:=by omega):vxc.wrap ((k:Int)+1)=((k+1:Nat):Int):=qj8 h
theorem vmo (c:UInt8):vxc.wrap ((c.toNat:Nat):Int)=((c.toNat:Nat):Int):=by
 have:=c.toNat_lt;exact qax (by omega) (by omega)
theorem qkn {n b:Nat} (h:n≤1073741824) (hb:b≤65536):qao n b=true:=by
 unfold qao;have:n * b≤1073741824 * 65536:=Nat.mul_le_mul h hb;simp only [decide_eq_true_eq];omega
theorem qaa {α:Type} {l:List α} {k:Nat} {x:α} (h:l[k]?=some x):idx l (k:Int)=some x:=by rw [q6c,h]
theorem qaj {α:Type} {l:List α} {k:Nat} {x:α} (h:l[k]?=some x):((k:Int) < (l.length:Int)):=by have:=qan h;omega
theorem q1c {α β:Type} (g:β→α→β):∀(l:List α) (b:β),qvf (fun b x=>(Sum.inl (g b x):β ⊕ β)) id l b=l.foldl g b
 | [],_=>rfl
 | x :: r,b=>by simp only [qvf,vxm];exact q1c g r _
theorem q33 {α β τ:Type} (g:β→α→β) (fin:β→τ):∀(l:List α) (b:β),qvf (fun b x=>(Sum.inl (g b x):β ⊕ τ)) fin l b=fin (l.foldl g b)
 | [],_=>rfl
 | x :: r,b=>by simp only [qvf,vxm];exact q33 g fin r _
theorem qlo {α ρ:Type} (l:List α) (B:Int→Option (LS Int (Unit ⊕ ρ))) (p:α→Bool) (bad:ρ)
  (h1:∀(k:Nat) x,l[k]?=some x→k < l.length→p x=true→B k=some (.next (k+1:Nat))) (h2:∀(k:Nat) x,l[k]?=some x→p x=false→B k=some (.done (.inr bad))) (h3:B l.length=some (.done (.inl ()))) :
  qag B 0=some (if l.all p then .inl () else .inr bad):=by
 have h:=qp1 l (fun (_:Unit) i=>i) B (fun (_:Unit) x=>if p x then Sum.inl () else Sum.inr (Sum.inr bad)) (fun _=>Sum.inl ()) (fun _ _=>True) (b0:=()) (s0:=0) rfl trivial
  (fun k b x hx hk _=>by
   constructor
   ·intro b' hf;refine ⟨?_,trivial⟩;rcases vw2 (p x) with hp | hp
    ·exact h1 k x hx hk hp
    ·simp [hp] at hf
   ·intro t hf;rcases vw2 (p x) with hp | hp
    ·simp [hp] at hf
    ·simp [hp] at hf;subst hf;exact h2 k x hx hp)
  (fun b _=>h3)
 rw [h];congr 1;clear h h1 h2 h3
 induction l with
 | nil=>rfl
 | cons x r ih=>rcases vw2 (p x) with hp | hp <;> simp [qvf,hp,ih]
theorem qi7 {α:Type} (l:List α) (B:Int→Option (LS Int (Unit ⊕ Int))) (p:α→Bool)
  (h1:∀(k:Nat) x,l[k]?=some x→k < l.length→p x=false→B k=some (.next (k+1:Nat))) (h2:∀(k:Nat) x,l[k]?=some x→p x=true→B k=some (.done (.inr k))) (h3:B l.length=some (.done (.inl ()))) :
  qag B 0=some (match l.findIdx? p with | some i=>.inr (i:Int) | none=>.inl ()):=by
 have key:∀(r:List α) (k:Nat),l.drop k=r→k≤l.length→qag B (k:Int)=some (match r.findIdx? p with | some i=>.inr ((k+i:Nat):Int) | none=>.inl ()):=by
  intro r
  induction r with
  | nil =>
   intro k hd hk;have:k=l.length:=by
    have:=congrArg vxo hd;simp at this;omega
   subst this;exact qad h3
  | cons x r ih =>
   intro k hd hk;have hx:l[k]?=some x:=by
    have:=congrArg (·[0]?) hd;simpa [vto] using this
   have hd':l.drop (k+1)=r:=by rw [←vxi,hd];rfl
   rcases vw2 (p x) with hp | hp
   ·rw [qad (h2 k x hx hp)];simp [vxk,hp]
   ·rw [qaf (h1 k x hx (qan hx) hp),ih (k+1) hd' (qan hx)];simp only [vxk,hp];cases r.findIdx? p with
    | none=>rfl
    | some i=>simp;omega
 have:=key l 0 (by simp) (vww _);simpa using this
theorem qh1 {α β σ τ:Type} (l:List α) (S:β→Int→σ) (B:σ→Option (LS σ τ)) (g:β→α→β) (fin:β→τ) (I:Nat→β→Prop) {b0:β} {s0:σ} (h0:s0=S b0 0) (hI:I 0 b0)
  (hs:∀(k:Nat) b x,l[k]?=some x→k < l.length→I k b→B (S b k)=some (.next (S (g b x) (k+1:Nat)))∧I (k+1) (g b x))
  (he:∀b,I l.length b→B (S b l.length)=some (.done (fin b))):qag B s0=some (fin (l.foldl g b0)):=by
 rw [qp1 l S B (fun b x=>Sum.inl (g b x)) fin I h0 hI (fun k b x hx hk hi=>⟨fun b' hb=>by cases hb;exact hs k b x hx hk hi,fun t ht=>by cases ht⟩) he,q33]
def okI (k:IntKind) (n:Int):Prop:=(Lit.int k n).wf=true
def okS (s:List UInt8):Prop:=s.length≤1048576
def okL {α:Type} (ok:α→Prop) (l:List α):Prop:=l.length≤1048576∧∀x∈l,ok x
def qeo {α:Type} (p:Nat→α→Bool):Nat→List α→Bool
 | _,[]=>true
 | k,x :: r=>p k x && qeo p (k+1) r
theorem qt1 {α ρ:Type} (l:List α) (B:Int→Option (LS Int (Unit ⊕ ρ))) (p:Nat→α→Bool) (bad:ρ)
  (h1:∀(k:Nat) x,l[k]?=some x→k < l.length→p k x=true→B k=some (.next (k+1:Nat))) (h2:∀(k:Nat) x,l[k]?=some x→p k x=false→B k=some (.done (.inr bad))) (h3:B l.length=some (.done (.inl ()))) :
  ∀(r:List α) (k:Nat),l.drop k=r→k≤l.length→qag B (k:Int)=some (if qeo p k r then .inl () else .inr bad):=by
 intro r
 induction r with
 | nil =>
  intro k hd hk;have:k=l.length:=by
   have:=congrArg vxo hd;simp at this;omega
  subst this;exact qad h3
 | cons x r ih =>
  intro k hd hk;have hx:l[k]?=some x:=by
   have:=congrArg (·[0]?) hd;simpa [vto] using this
  have hd':l.drop (k+1)=r:=by rw [←vxi,hd];rfl
  rcases vw2 (p k x) with hp | hp
  ·rw [qaf (h1 k x hx (qan hx) hp),ih (k+1) hd' (qan hx)];simp [qeo,hp]
  ·rw [qad (h2 k x hx hp)];simp [qeo,hp]
theorem qww {α:Type} (q:α→Bool):∀(l:List α) (k:Nat),qeo (fun _ x=>q x) k l=l.all q
 | [],_=>rfl
 | x :: r,k=>by simp [qeo,qww q r]
theorem qss {α:Type} {p q:Nat→α→Bool}:∀(l:List α) (k:Nat),(∀j x,k≤j→x∈l→p j x=q j x)→qeo p k l=qeo q k l
 | [],_,_=>rfl
 | x :: r,k,h=>by
  simp only [qeo];rw [h k x (vuv _) (by simp),qss r (k+1) (fun j y hj hy=>h j y (by omega) (by simp [hy]))]
theorem qqd {n:Nat} (h:n≤17592186044416):qao n 8=true:=by
 unfold qao;simp only [decide_eq_true_eq];omega
end Go.Ab
namespace Go.Proofs.YtmlegeeinnkhkaaGreat
open Go Go.Ab
def qwx (x:Value):Prop:=(okI .i64) x.Kind∧(okI .i64) x.Num∧okS x.Str
def qpb (x:Similar):Prop:=(okI .i64) x.Attr∧(okI .i64) x.Measure∧(okI .i64) x.Limit
def vhx (x:Row):Prop:=(okI .i64) x.ID∧(okL qwx) x.Values
def q34 (x:Linkage):Prop:=(okL (okL qpb)) x.Rules∧(okL (okI .i64)) x.Block∧(okL (okI .i64)) x.Survive
def qoe (x:Table):Prop:=okS x.Name∧(okL okS) x.Attrs∧(okL vhx) x.Rows
def quz (x:Arr2_int64):Prop:=(okI .i64) x.x0∧(okI .i64) x.x1
def qcs (x:Drossref56_Test):Prop:=(okI .u8) x.Attr∧(okI .u8) x.Measure∧(okI .u8) x.Limit
def qbt (x:Drossref56_Draft):Prop:=(okL (okL qcs)) x.Rules∧(okI .u8) x.Block∧(okL (okI .u8)) x.Survive
def qfd (x:Drossref03_Recipe):Prop:=(okI .u8) x.Attrs∧(okI .u8) x.Gap∧(okL (okL (okI .u8))) x.Rows
end Go.Proofs.YtmlegeeinnkhkaaGreat
namespace Go.Ab
def qbv:Nat→List Int→Nat→List (List Int)
 | 0,p,u=>[p]
 | k+1,p,u=>(vuf (u+1)).flatMap fun (c:Nat)=>qbv k (p++[(c:Int)]) (max u (c+1))
def qct (l:List Int):Nat:=l.foldl (fun m x=>max m (x.toNat+1)) 0
theorem qzk (l:List Int) (c:Nat):qct (l++[(c:Int)])=max (qct l) (c+1):=by simp [qct]
theorem qnp:∀(k:Nat) (p:List Int) (u:Nat) (x:List Int),x∈qbv k p u→x.length=p.length+k∧x.take p.length=p
 | 0,p,u,x,h=>by
  simp only [qbv,vwm] at h;subst h;simp
 | k+1,p,u,x,h=>by
  simp only [qbv,vt8] at h;obtain ⟨c,_,hx⟩:=h;obtain ⟨h1,h2⟩:=qnp k _ _ x hx;simp only [vtx,vwa] at h1 h2;refine ⟨by omega,?_⟩;have:=congrArg (List.take p.length) h2;rw [List.take_take,vws (by omega),List.take_left] at this;exact this
theorem q8b (k:Nat) (p:List Int) (u:Nat):qbv k p u≠[]:=by
 induction k generalizing p u with
 | zero=>simp [qbv]
 | succ k ih =>
  simp only [qbv,ne_eq,List.flatMap_eq_nil_iff,vwl];intro h;exact ih _ _ (h 0 (by omega))
theorem qt2:∀(k:Nat) (p:List Int) (u:Nat),u=qct p→qbv (k+1) p u=(qbv k p u).flatMap fun l=>(vuf (qct l+1)).map fun c=>l++[((c:Nat):Int)]
 | 0,p,u,hu=>by
  subst hu;simp only [qbv,List.flatMap_singleton];simp only [List.map_eq_flatMap]
 | k+1,p,u,hu=>by
  rw [qbv]
  conv=>rhs;rw [qbv]
  rw [List.flatMap_assoc];congr 1;funext c;exact qt2 k (p++[((c:Nat):Int)]) (max u (c+1)) (by rw [qzk,hu])
def qkq (cost:List Int→Int) (b:Option (List Int×Int)) (x:List Int):Option (List Int×Int) :=
 match b with
 | none=>some (x,cost x)
 | some (l,c)=>if cost x < c then some (x,cost x) else some (l,c)
theorem qwy (cost:List Int→Int) (l:List Int) (c:Int):∀xs:List (List Int),(∀x∈xs,c≤cost x)→xs.foldl (qkq cost) (some (l,c))=some (l,c)
 | [],_=>rfl
 | x :: xs,h=>by
  have h0:=h x (by simp);simp only [vxm,qkq];rw [if_neg (by omega)];exact qwy cost l c xs fun y hy=>h y (by simp [hy])
def qdc (w:Int) (t:Bool):Int:=if t then max (-w) 0 else max w 0
theorem q35 (w:Int) (t:Bool):0≤qdc w t:=by unfold qdc;split <;> omega
def qp2 (W:Nat→Nat→Int) (l:List Int) (c:Int) (k:Nat):Int:=((vuf k).map fun i=>qdc (W i k) (l.getD i 0 == c)).sum
def qdu (W:Nat→Nat→Int) (l:List Int) (v:Nat):Int:=((vuf v).map fun k=>qp2 W l (l.getD k 0) k).sum
theorem q8c:∀l:List Int,(∀x∈l,0≤x)→0≤l.sum
 | [],_=>by simp
 | x :: l,h=>by
  have h1:=h x (by simp);have h2:=q8c l fun y hy=>h y (by simp [hy])
  simp only [vx3];omega
theorem qst (l:List Int) (x:Int):(l++[x]).sum=l.sum+x:=by simp
theorem qwz (W:Nat→Nat→Int) (l:List Int) (c:Int) (k:Nat):0≤qp2 W l c k:=by
 refine q8c _ fun x hx=>?_
 obtain ⟨i,_,rfl⟩:=vwj.1 hx;exact q35 _ _
theorem qw0 (W:Nat→Nat→Int) {l p:List Int} (c:Int) {k:Nat} (h:∀i,i < k→l.getD i 0=p.getD i 0):qp2 W l c k=qp2 W p c k:=by
 unfold qp2;congr 1;refine vwc fun i hi=>?_
 rw [h i (vwl.1 hi)]
theorem qlb (W:Nat→Nat→Int) (l:List Int) (v:Nat):qdu W l (v+1)=qdu W l v+qp2 W l (l.getD v 0) v:=by
 unfold qdu;rw [vxw,vt4,vxp,qst]
theorem qt3 (W:Nat→Nat→Int) {l p:List Int}:∀{v:Nat},(∀i,i < v→l.getD i 0=p.getD i 0)→qdu W l v=qdu W p v
 | 0,_=>rfl
 | v+1,h=>by
  rw [qlb,qlb,qt3 W (v:=v) (fun i hi=>h i (by omega)),h v (by omega),qw0 W _ (fun i hi=>h i (by omega))]
theorem qzl (W:Nat→Nat→Int) (l:List Int):∀(k v:Nat),qdu W l v≤qdu W l (v+k)
 | 0,v=>by simp
 | k+1,v=>by
  have h1:=qzl W l k v;have h2:=qwz W l (l.getD (v+k) 0) (v+k);rw [←Nat.add_assoc,qlb];omega
theorem q36 (W:Nat→Nat→Int) {x p:List Int} (h:x.take p.length=p) (n:Nat) (hn:p.length≤n):qdu W p p.length≤qdu W x n:=by
 have h1:qdu W x p.length=qdu W p p.length:=by
  refine qt3 W fun i hi=>?_
  have:p[i]?=x[i]?:=by rw [←h];rw [List.getElem?_take];rw [if_pos];rw [←h] at hi;simp at hi;omega
  simp only [vvx,this]
 have h2:=qzl W x (n - p.length) p.length;rw [show p.length+(n - p.length)=n by omega] at h2;omega
theorem vao (W:Nat→Nat→Int) (p:List Int) (c:Int):qdu W (p++[c]) (p.length+1)=qdu W p p.length+qp2 W p c p.length:=by
 rw [qlb];have h1:∀i,i < p.length→(p++[c]).getD i 0=p.getD i 0:=by
  intro i hi;simp only [vvx,vtm hi]
 rw [qt3 W h1,qw0 W _ h1];congr 2;simp [vvx]
theorem qsu {l:List Int} {i:Nat} {x:Int} (h:l[i]?=some x):x.toNat < qct l:=by
 have key:∀(l:List Int) (m:Nat),(m≤l.foldl (fun m x=>max m (x.toNat+1)) m)∧∀x∈l,x.toNat < l.foldl (fun m x=>max m (x.toNat+1)) m:=by
  intro l
  induction l with
  | nil=>intro m;simp
  | cons y l ih =>
   intro m;simp only [vxm,vwf];obtain ⟨h1,h2⟩:=ih (max m (y.toNat+1));refine ⟨by omega,?_⟩;rintro x (rfl | hx)
   ·omega
   ·exact h2 x hx
 exact (key l 0).2 x (vt9 h)
theorem q8d:∀(k:Nat) (p:List Int) (u:Nat) (x:List Int),(∀y∈p,(0:Int)≤y)→x∈qbv k p u→∀y∈x,(0:Int)≤y
 | 0,p,u,x,hp,h=>by
  simp only [qbv,vwm] at h;subst h;exact hp
 | k+1,p,u,x,hp,h=>by
  simp only [qbv,vt8] at h;obtain ⟨c,_,hx⟩:=h;refine q8d k _ _ x ?_ hx;intro y hy;rcases List.mem_append.1 hy with hy | hy
  ·exact hp y hy
  ·simp only [vwm] at hy;subst hy;omega
theorem q6w:∀(n:Nat) (f:Nat→Int),∃y∈qbv n [] 0,∀i k,i < n→k < n→(y.getD i 0=y.getD k 0↔f i=f k)
 | 0,f=>⟨[],by simp [qbv],fun i k hi=>by omega⟩
 | n+1,f=>by
  obtain ⟨y,hy,he⟩:=q6w n f;have hl:=(qnp n [] 0 y hy).1;have hnn:=q8d n [] 0 y (by simp) hy;simp only [vt0,Nat.zero_add] at hl;rw [qt2 n [] 0 rfl];have hlow:∀(c:Int) (i:Nat),i < n→(y++[c]).getD i 0=y.getD i 0:=by
   intro c i hi;simp only [vvx,vtm (hl ▸ hi:i < y.length)]
  have htop:∀c:Int,(y++[c]).getD n 0=c:=by
   intro c;simp [vvx,←hl]
  have qaw:∀i,i < n→y[i]?=some (y.getD i 0):=by
   intro i hi;have:i < y.length:=by omega
   simp [vvx,vtp this]
  by_cases hc:∃j,j < n∧f j=f n
  ·obtain ⟨j,hj,hf⟩:=hc;have hg:=qaw j hj;have h0:0≤y.getD j 0:=hnn _ (vt9 hg);have hu:=qsu hg;refine ⟨y++[y.getD j 0],?_,?_⟩
   ·refine vt8.2 ⟨y,hy,vwj.2 ⟨(y.getD j 0).toNat,vwl.2 (by omega),?_⟩⟩;rw [Int.toNat_of_nonneg h0]
   ·intro i k hi hk;by_cases hi':i < n <;> by_cases hk':k < n
    ·rw [hlow _ i hi',hlow _ k hk'];exact he i k hi' hk'
    ·obtain rfl:k=n:=by omega
     rw [hlow _ i hi',htop,he i j hi' hj,hf]
    ·obtain rfl:i=n:=by omega
     rw [hlow _ k hk',htop,he j k hj hk',hf]
    ·obtain rfl:i=n:=by omega
     obtain rfl:k=i:=by omega
     simp
  ·refine ⟨y++[((qct y:Nat):Int)],?_,?_⟩
   ·exact vt8.2 ⟨y,hy,vwj.2 ⟨qct y,vwl.2 (by omega),rfl⟩⟩
   ·have hne:∀i,i < n→¬(y.getD i 0=((qct y:Nat):Int))∧¬f i=f n:=by
     intro i hi;refine ⟨?_,fun h=>hc ⟨i,hi,h⟩⟩;have:=qsu (qaw i hi);omega
    intro i k hi hk;by_cases hi':i < n <;> by_cases hk':k < n
    ·rw [hlow _ i hi',hlow _ k hk'];exact he i k hi' hk'
    ·obtain rfl:k=n:=by omega
     rw [hlow _ i hi',htop];exact ⟨fun h=>absurd h (hne i hi').1,fun h=>absurd h (hne i hi').2⟩
    ·obtain rfl:i=n:=by omega
     rw [hlow _ k hk',htop];exact ⟨fun h=>absurd h.symm (hne k hk').1,fun h=>absurd h.symm (hne k hk').2⟩
    ·obtain rfl:i=n:=by omega
     obtain rfl:k=i:=by omega
     simp
def qb6 (f:Nat→Nat→Int):List Nat→Int
 | []=>0
 | x :: r=>(r.map (f x)).sum+qb6 f r
def qmm (f:Nat→Nat→Int) (a b:List Nat):Int:=(a.map fun x=>(b.map (f x)).sum).sum
theorem q1d (f:Nat→Nat→Int) (x:Nat) (a b:List Nat):qmm f (x :: a) b=(b.map (f x)).sum+qmm f a b:=by simp [qmm]
theorem qw1 (a b:List Int):(a++b).sum=a.sum+b.sum:=by simp
theorem qj9 (f:Nat→Nat→Int) (b:List Nat):∀a,qb6 f (a++b)=qb6 f a+qb6 f b+qmm f a b
 | []=>by simp [qb6,qmm]
 | x :: a=>by
  simp only [vvu,qb6,qj9 f b a,q1d,vt4,qw1];omega
theorem vhy {a b:List Int} (h:a.Perm b):a.sum=b.sum:=by
 induction h with
 | nil=>rfl
 | cons x _ ih=>simp only [vx3,ih]
 | swap x y l=>simp only [vx3];omega
 | trans _ _ h1 h2=>rw [h1,h2]
theorem qu0 {f:Nat→Nat→Int} (hf:∀i k,f i k=f k i) {a b:List Nat} (h:a.Perm b):qb6 f a=qb6 f b:=by
 induction h with
 | nil=>rfl
 | cons x h ih=>simp only [qb6,ih,vhy (h.map (f x))]
 | swap x y l =>
  simp only [qb6,vt5,vx3];rw [hf y x];omega
 | trans _ _ h1 h2=>rw [h1,h2]
theorem q6x {f:Nat→Nat→Int} (hf:∀i k,0≤f i k) (a b:List Nat):0≤qmm f a b:=by
 refine q8c _ fun x hx=>?_
 obtain ⟨i,_,rfl⟩:=vwj.1 hx;refine q8c _ fun y hy=>?_
 obtain ⟨k,_,rfl⟩:=vwj.1 hy;exact hf i k
theorem qt4:∀l:List Int,(∀x∈l,x=0)→l.sum=0
 | [],_=>rfl
 | x :: l,h=>by rw [vx3,h x (by simp),qt4 l fun y hy=>h y (by simp [hy])];rfl
theorem q1e {f:Nat→Nat→Int} {a b:List Nat} (hf:∀i∈a,∀k∈b,f i k=0):qmm f a b=0:=by
 refine qt4 _ fun x hx=>?_
 obtain ⟨i,hi,rfl⟩:=vwj.1 hx;refine qt4 _ fun y hy=>?_
 obtain ⟨k,hk,rfl⟩:=vwj.1 hy;exact hf i hi k hk
theorem qsv {f:Nat→Nat→Int} (hf:∀i k,0≤f i k):∀L:List (List Nat),(L.map (qb6 f)).sum≤qb6 f L.flatten
 | []=>by simp [qb6]
 | a :: L=>by
  have h1:=qsv hf L;have h2:=q6x hf a L.flatten;simp only [vt5,vx3,vxl,qj9];omega
theorem qsw {f:Nat→Nat→Int}:∀L:List (List Nat),L.Pairwise (fun a b=>∀i∈a,∀k∈b,f i k=0)→qb6 f L.flatten=(L.map (qb6 f)).sum
 | [],_=>by simp [qb6]
 | a :: L,h=>by
  rw [vxs] at h;simp only [vt5,vx3,vxl,qj9,qsw L h.2];rw [q1e (f:=f) (a:=a) (b:=L.flatten)]
  ·omega
  ·intro i hi k hk;obtain ⟨b,hb,hk⟩:=vxq.1 hk;exact h.1 b hb i hi k hk
theorem qw2 (f:Nat→Nat→Int) (g:Nat→Nat):∀l:List Nat,qb6 f (l.map g)=qb6 (fun i k=>f (g i) (g k)) l
 | []=>rfl
 | x :: l=>by
  simp only [vt5,qb6,qw2 f g l,List.map_map];rfl
theorem qk4 {f g:Nat→Nat→Int}:∀{l:List Nat},(∀i∈l,∀k∈l,f i k=g i k)→qb6 f l=qb6 g l
 | [],_=>rfl
 | x :: l,h=>by
  simp only [qb6];rw [qk4 (l:=l) fun i hi k hk=>h i (by simp [hi]) k (by simp [hk])];congr 2;exact vwc fun k hk=>h x (by simp) k (by simp [hk])
theorem q37 (f:Nat→Nat→Int) (l:List Nat) (x:Nat):qb6 f (l++[x])=qb6 f l+(l.map fun i=>f i x).sum:=by
 rw [qj9];simp only [qb6,List.map_nil,List.sum_nil,qmm,vt5,vx3,Int.add_zero,Int.zero_add]
theorem qjy (W:Nat→Nat→Int) (l:List Int):∀n:Nat,qdu W l n=qb6 (fun i k=>qdc (W i k) (l.getD i 0 == l.getD k 0)) (vuf n)
 | 0=>rfl
 | n+1=>by
  rw [qlb,vxw,q37,qjy W l n];rfl
inductive Rch (R:Nat→Nat→Prop) (v:Nat):Nat→Prop
 | refl:Rch R v v
 | step {x y:Nat}:Rch R v x→R x y→Rch R v y
theorem Rch.trans {R:Nat→Nat→Prop} {a b c:Nat} (h:Rch R a b) (h2:Rch R b c):Rch R a c:=by
 induction h2 with
 | refl=>exact h
 | step _ hr ih=>exact ih.step hr
theorem Rch.symm {R:Nat→Nat→Prop} (hs:∀x y,R x y→R y x) {a b:Nat} (h:Rch R a b):Rch R b a:=by
 induction h with
 | refl=>exact .refl
 | step _ hr ih=>exact (Rch.step .refl (hs _ _ hr)).trans ih
theorem Rch.closed {R:Nat→Nat→Prop} {S:Nat→Prop} {v x:Nat} (h:Rch R v x) (h0:S v) (hs:∀x y,S x→R x y→S y):S x:=by
 induction h with
 | refl=>exact h0
 | step _ hr ih=>exact hs _ _ ih hr
open Classical in
def ql0 (R:Nat→Nat→Prop) (n v:Nat):List Nat:=(vuf n).filter fun x=>decide (Rch R v x)
open Classical in
def qmn (R:Nat→Nat→Prop) (n:Nat):List Nat:=(vuf n).filter fun v=>decide (∀u,u < v→¬Rch R u v)
def qf7 (R:Nat→Nat→Prop) (n:Nat):List (List Nat):=(qmn R n).map (ql0 R n)
theorem qfe {R:Nat→Nat→Prop} {n v x:Nat}:x∈ql0 R n v↔x < n∧Rch R v x:=by simp [ql0]
theorem qw3 (R:Nat→Nat→Prop) (n v:Nat):(ql0 R n v).Pairwise (· < ·):=vxu.filter _
theorem qp3 {R:Nat→Nat→Prop} {n v:Nat}:v∈qmn R n↔v < n∧∀u,u < v→¬Rch R u v:=by simp [qmn]
theorem vmp {R:Nat→Nat→Prop} (n:Nat):∀x,x < n→∃v∈qmn R n,Rch R v x:=by
 intro x
 induction x using vwt with
 | _ x ih =>
  intro hx;by_cases h:∀u,u < x→¬Rch R u x
  ·exact ⟨x,qp3.2 ⟨hx,h⟩,.refl⟩
  ·simp only [Classical.not_forall,Classical.not_not] at h;obtain ⟨u,hu,hr⟩:=h;obtain ⟨v,hv,hvr⟩:=ih u hu (by omega);exact ⟨v,hv,hvr.trans hr⟩
theorem q8e {R:Nat→Nat→Prop} (hs:∀x y,R x y→R y x) {n v w x:Nat} (hv:v∈qmn R n) (hw:w∈qmn R n) (h1:Rch R v x) (h2:Rch R w x):v=w:=by
 have h:=h1.trans (h2.symm hs);have h':=h.symm hs;rcases Nat.lt_trichotomy v w with hlt | rfl | hlt
 ·exact absurd h ((qp3.1 hw).2 v hlt)
 ·rfl
 ·exact absurd h' ((qp3.1 hv).2 w hlt)
theorem qp4 {a b:List Nat} (ha:a.Nodup) (hb:b.Nodup) (h:∀x,x∈a↔x∈b):a.Perm b:=(List.perm_ext_iff_of_nodup ha hb).2 h
theorem qrj {R:Nat→Nat→Prop} (hs:∀x y,R x y→R y x) (n:Nat):(qf7 R n).flatten.Perm (vuf n):=by
 refine qp4 ?_ List.nodup_range ?_
 ·unfold List.Nodup;rw [List.pairwise_flatten];refine ⟨?_,?_⟩
  ·intro l hl;obtain ⟨v,_,rfl⟩:=vwj.1 hl;exact (qw3 R n v).imp fun h=>Nat.ne_of_lt h
  ·unfold qf7;rw [List.pairwise_map];have hh:(qmn R n).Pairwise (·≠·):=(vxu.filter _).imp fun h=>Nat.ne_of_lt h
   refine (vxt.2 ?_);intro a b hab x hxa y hxb hxy;subst hxy;have hne:=(vxt.1 hh) hab;have ha:a∈qmn R n:=hab.subset (by simp);have hb:b∈qmn R n:=hab.subset (by simp);exact hne (q8e hs ha hb (qfe.1 hxa).2 (qfe.1 hxb).2)
 ·intro x;rw [vwl,vxq];constructor
  ·rintro ⟨l,hl,hx⟩;obtain ⟨v,_,rfl⟩:=vwj.1 hl;exact (qfe.1 hx).1
  ·intro hx;obtain ⟨v,hv,hr⟩:=vmp (R:=R) n x hx;exact ⟨_,vwj.2 ⟨v,hv,rfl⟩,qfe.2 ⟨hx,hr⟩⟩
theorem qzm (cost:List Int→Int):∀(xs:List (List Int)) (b:Option (List Int×Int)) (l:List Int) (c:Int),xs.foldl (qkq cost) b=some (l,c) →
  ((l∈xs∧c=cost l)∨b=some (l,c))∧(∀x∈xs,c≤cost x)∧(∀l' c',b=some (l',c')→c≤c')
 | [],b,l,c,e=>by
  simp only [List.foldl_nil] at e;exact ⟨.inr e,by simp,fun l' c' h=>by rw [e] at h;cases h;exact Int.le_refl _⟩
 | x :: xs,b,l,c,e=>by
  simp only [vxm] at e;obtain ⟨h1,h2,h3⟩:=qzm cost xs _ l c e;cases b with
  | none =>
   have hx:=h3 x (cost x) rfl;refine ⟨.inl ?_,?_,by simp⟩
   ·rcases h1 with ⟨h,h'⟩ | h
    ·exact ⟨vwg _ h,h'⟩
    ·simp only [qkq,vvd,vve] at h;exact ⟨by rw [←h.1];exact vwh,by rw [←h.1,h.2]⟩
   ·intro y hy;rcases vwf.1 hy with rfl | hy
    ·exact hx
    ·exact h2 y hy
  | some q =>
   obtain ⟨l0,c0⟩:=q;simp only [qkq] at h1 h3;by_cases hc:cost x < c0
   ·simp only [if_pos hc] at h1 h3;have hx:=h3 x (cost x) rfl;refine ⟨.inl ?_,?_,?_⟩
    ·rcases h1 with ⟨h,h'⟩ | h
     ·exact ⟨vwg _ h,h'⟩
     ·simp only [vvd,vve] at h;exact ⟨by rw [←h.1];exact vwh,by rw [←h.1,h.2]⟩
    ·intro y hy;rcases vwf.1 hy with rfl | hy
     ·exact hx
     ·exact h2 y hy
    ·intro l' c' h;cases h;omega
   ·simp only [if_neg hc] at h1 h3;have hx:=h3 l0 c0 rfl;refine ⟨?_,?_,?_⟩
    ·rcases h1 with ⟨h,h'⟩ | h
     ·exact .inl ⟨vwg _ h,h'⟩
     ·exact .inr h
    ·intro y hy;rcases vwf.1 hy with rfl | hy
     ·omega
     ·exact h2 y hy
    ·intro l' c' h;cases h;exact hx
def vap (W:Nat→Nat→Int) (n:Nat):Option (List Int×Int):=(qbv n [] 0).foldl (qkq fun x=>qdu W x n) none
theorem qrk (cost:List Int→Int):∀(xs:List (List Int)) (q:List Int×Int),∃r,xs.foldl (qkq cost) (some q)=some r
 | [],q=>⟨q,rfl⟩
 | x :: xs,q=>by
  simp only [vxm,qkq];split
  ·exact qrk cost xs _
  ·exact qrk cost xs _
theorem qpc (W:Nat→Nat→Int) (n:Nat):∃l c,vap W n=some (l,c)∧l∈qbv n [] 0∧c=qdu W l n∧∀x∈qbv n [] 0,c≤qdu W x n:=by
 have hne:=q8b n [] 0;unfold vap;cases hx:qbv n [] 0 with
 | nil=>exact absurd hx hne
 | cons x xs =>
  obtain ⟨⟨l,c⟩,hr⟩:=qrk (fun x=>qdu W x n) xs (x,qdu W x n);have hr':(x :: xs).foldl (qkq fun x=>qdu W x n) none=some (l,c):=hr;obtain ⟨h1,h2,h3⟩:=qzm _ _ _ l c hr';rcases h1 with ⟨h,h'⟩ | h
  ·exact ⟨l,c,hr',h,h',h2⟩
  ·cases h
theorem qsx (C:List Nat):C=(vuf C.length).map fun i=>C.getD i 0:=by
 refine vtj fun i=>?_
 simp only [vts,vvx];by_cases h:i < C.length
 ·simp [vxn h,h]
 ·simp [h]
theorem q8f {α:Type} {f g:α→Int}:∀{l:List α},(∀x∈l,f x≤g x)→(l.map f).sum≤(l.map g).sum
 | [],_=>by simp
 | x :: l,h=>by
  have h1:=h x (by simp);have h2:=q8f (l:=l) fun y hy=>h y (by simp [hy])
  simp only [vt5,vx3];omega
theorem vd5 {α:Type} {f g:α→Int} {l:List α} (h:∀x∈l,f x=g x):(l.map f).sum=(l.map g).sum:=by rw [vwc h]
def qjo (W:Nat→Nat→Int) (C:List Nat) (i k:Nat):Int:=W (C.getD i 0) (C.getD k 0)
theorem q38 (W:Nat→Nat→Int) (C:List Nat) (f:Nat→Int) (y:List Int) (hy:∀i k,i < C.length→k < C.length→(y.getD i 0=y.getD k 0↔f (C.getD i 0)=f (C.getD k 0))) :
  qb6 (fun i k=>qdc (W i k) (f i == f k)) C=qdu (qjo W C) y C.length:=by
 rw [qjy]
 conv=>lhs;rw [qsx C]
 rw [qw2];refine qk4 fun i hi k hk=>?_
 have h:=hy i k (vwl.1 hi) (vwl.1 hk);have:(f (C.getD i 0) == f (C.getD k 0))=(y.getD i 0 == y.getD k 0):=by
  rw [vw3,beq_iff_eq,beq_iff_eq];exact h.symm
 show qdc (W (C.getD i 0) (C.getD k 0)) _=_;rw [this];rfl
theorem qzn {W:Nat→Nat→Int} (hW:∀i k,W i k=W k i) (f:Nat→Int) (i k:Nat):qdc (W i k) (f i == f k)=qdc (W k i) (f k == f i):=by
 rw [hW i k];have:(f i == f k)=(f k == f i):=by
  rw [vw3,beq_iff_eq,beq_iff_eq];exact eq_comm
 rw [this]
theorem vd6 {W:Nat→Nat→Int} (hW:∀i k,W i k=W k i) {n:Nat} {L:List (List Nat)} (hp:L.flatten.Perm (vuf n)) (f:Nat→Int) (c:List Nat→Int)
  (hc:∀C∈L,∀x∈qbv C.length [] 0,c C≤qdu (qjo W C) x C.length):(L.map c).sum≤qb6 (fun i k=>qdc (W i k) (f i == f k)) (vuf n):=by
 rw [←qu0 (qzn hW f) hp];refine Int.le_trans (q8f fun C hC=>?_) (qsv (fun i k=>q35 _ _) L);obtain ⟨y,hy,he⟩:=q6w C.length fun i=>f (C.getD i 0)
 rw [q38 W C f y he];exact hc C hC y hy
theorem q6y {W:Nat→Nat→Int} (hW:∀i k,W i k=W k i) {n:Nat} {L:List (List Nat)} (hp:L.flatten.Perm (vuf n)) (f:Nat→Int) (y:List Nat→List Int)
  (hy:∀C∈L,∀i k,i < C.length→k < C.length→((y C).getD i 0=(y C).getD k 0↔f (C.getD i 0)=f (C.getD k 0)))
  (h0:L.Pairwise fun a b=>∀i∈a,∀k∈b,W i k≤0∧f i≠f k) :
  qb6 (fun i k=>qdc (W i k) (f i == f k)) (vuf n)=(L.map fun C=>qdu (qjo W C) (y C) C.length).sum:=by
 rw [←qu0 (qzn hW f) hp,qsw]
 ·exact vd5 fun C hC=>q38 W C f (y C) (hy C hC)
 ·refine h0.imp fun h i hi k hk=>?_
  obtain ⟨h1,h2⟩:=h i hi k hk;have:(f i == f k)=false:=by simpa using h2
  rw [this];simp only [qdc,vs4,if_false];omega
theorem vd7 {W:Nat→Nat→Int} (hW:∀i k,W i k=W k i) {n:Nat} {L:List (List Nat)} (hp:L.flatten.Perm (vuf n)) (f:Nat→Int) (y:List Nat→List Int)
  (ho:∀C∈L,∃c,vap (qjo W C) C.length=some (y C,c))
  (hy:∀C∈L,∀i k,i < C.length→k < C.length→((y C).getD i 0=(y C).getD k 0↔f (C.getD i 0)=f (C.getD k 0)))
  (h0:L.Pairwise fun a b=>∀i∈a,∀k∈b,W i k≤0∧f i≠f k) :
  ∃l,vap W n=some (l,qb6 (fun i k=>qdc (W i k) (f i == f k)) (vuf n)):=by
 obtain ⟨l,c,hb,hl,hc,hmin⟩:=qpc W n;refine ⟨l,?_⟩;rw [hb];congr 2
 -- the least cost is not more
 obtain ⟨z,hz,hze⟩:=q6w n f;have h1:=hmin z hz;have hzc:qdu W z n=qb6 (fun i k=>qdc (W i k) (f i == f k)) (vuf n):=by
  rw [qjy];refine qk4 fun i hi k hk=>?_
  have h:=hze i k (vwl.1 hi) (vwl.1 hk);have:(z.getD i 0 == z.getD k 0)=(f i == f k):=by rw [vw3,beq_iff_eq,beq_iff_eq];exact h
  rw [this]
 -- and not less
 have h2:=vd6 hW hp (fun i=>l.getD i 0) (fun C=>qdu (qjo W C) (y C) C.length) (by
  intro C hC x hx;obtain ⟨c',hc'⟩:=ho C hC;obtain ⟨l',c'',hb',_,hcc,hm⟩:=qpc (qjo W C) C.length;rw [hb'] at hc';simp only [vvd,vve] at hc';have:=hm x hx;rw [←hc'.1];omega)
 have h3:=q6y hW hp f y hy h0;rw [←qjy W l n] at h2;omega
end Go.Ab
namespace Go.Proofs.YtmlegeeinnkhkaaGreat
open Go Go.Ab
def qhm (v:Value):Bool:=decide ((v.Kind=0∧v.Num=0∧v.Str=[])∨(v.Kind=1∧v.Str=[])∨(v.Kind=2∧v.Num=0∧v.Str.length≤200)∨(v.Kind=3∧1≤v.Num∧v.Str=[]))
theorem qm1 (v:Value):qiw v=some (qhm v):=by
 simp only [qiw,qhm]
 repeat' split
 all_goals simp_all
 all_goals (try omega)
 all_goals (try (rw [vw3];simp <;> omega))
theorem q39 (v:Value):qfp v=some (qhm v):=by
 simp only [qfp,qhm]
 repeat' split
 all_goals simp_all
 all_goals (try omega)
 all_goals (try (rw [vw3];simp <;> omega))
def sgn (a b:Int):Int:=if a < b then -1 else if b < a then 1 else 0
theorem qof (a b:Int):qcz a b=some (sgn a b):=by
 simp only [qcz,sgn];split <;> (try split) <;> simp_all
theorem qu1 (a b:Int):qgr a b=some (sgn a b):=by
 simp only [qgr,qhp,sgn];simp;split <;> (try split) <;> simp_all
def qrl:List UInt8→List UInt8→Int
 | [],[]=>0
 | [],_ :: _=>-1
 | _ :: _,[]=>1
 | a :: x,b :: y=>if a=b then qrl x y else sgn a.toNat b.toNat
theorem qpd:∀a b:List UInt8,vxf a b=qrl a b
 | [],[]=>rfl
 | [],_ :: _=>rfl
 | _ :: _,[]=>rfl
 | x :: a,y :: b=>by
  simp only [vxf,qrl,sgn,qpd a b,UInt8.lt_iff_toNat_lt,←UInt8.toNat_inj];split <;> split <;> (try split) <;> (try split) <;> omega
theorem qsy (a b:List UInt8):qhn a b=some (qrl a b):=by
 simp [qhn,qfx,qpd]
theorem vjy {a b:Int} (h:a≠b):sgn a b≠0:=by
 unfold sgn;split <;> (try split) <;> omega
theorem vhz (a:Int):sgn a a=0:=by unfold sgn;simp
theorem q4a (a b:List UInt8) (ha:a.length≤1073741824):∀(r:List UInt8) (k:Nat),a.drop k=r→k≤a.length→k≤b.length→
  (∃o,qag (qa9 a b) (k:Int)=some o∧(match o with | .inl ()=>sgn (r.length) ((b.drop k).length)=qrl r (b.drop k) | .inr z=>z=qrl r (b.drop k))):=by
 intro r
 induction r with
 | nil =>
  intro k hd hk hkb;have hk':k=a.length:=by
   have:=congrArg vxo hd;simp at this;omega
  subst hk';refine ⟨.inl (),qad (by simp [qa9]),?_⟩;cases hb:b.drop a.length with
  | nil=>rfl
  | cons y s=>simp [qrl,sgn]
 | cons x r ih =>
  intro k hd hk hkb;have hx:a[k]?=some x:=by
   have:=congrArg (·[0]?) hd;simpa [vto] using this
  have hd':a.drop (k+1)=r:=by rw [←vxi,hd];rfl
  have hlt:=qan hx;cases hb:b.drop k with
  | nil =>
   have hkb':k=b.length:=by
    have:=congrArg vxo hb;simp at this;omega
   subst hkb';refine ⟨.inl (),qad (by simp [qa9]),?_⟩;simp [qrl,sgn];omega
  | cons y s =>
   have hy:b[k]?=some y:=by
    have:=congrArg (·[0]?) hb;simpa [vto] using this
   have hb':b.drop (k+1)=s:=by rw [←vxi,hb];rfl
   by_cases hxy:x=y
   ·subst hxy;have h1:qa9 a b (k:Int)=some (.next ((k+1:Nat):Int)):=by
     simp [qa9,qaj hx,qaj hy,qaa hx,qaa hy,qbj hlt (by omega)]
    obtain ⟨o,h2,h3⟩:=ih (k+1) hd' hlt (qan hy);refine ⟨o,by rw [qaf h1];exact h2,?_⟩;rw [hb'] at h3;cases o with
    | inl u =>
     simp only at h3 ⊢;rw [qrl,if_pos rfl,←h3];simp only [vv5,sgn];split <;> split <;> (try split) <;> (try split) <;> omega
    | inr z =>
     simp only at h3 ⊢;rw [qrl,if_pos rfl,←h3]
   ·have hne:(((x.toNat:Nat):Int) != ((y.toNat:Nat):Int))=true:=by
     simp only [bne_iff_ne,ne_eq,vw6,UInt8.toNat_inj];exact hxy
    refine ⟨.inr (sgn x.toNat y.toNat),qad ?_,?_⟩
    ·simp only [qa9,if_pos (qaj hx),if_pos (qaj hy),qaa hx,qaa hy,vu7,if_pos hne,vmo,qof]
    ·simp only [qrl,if_neg hxy]
theorem qyg (a b:List UInt8) (ha:a.length≤1073741824):qf5 a b=some (qrl a b):=by
 obtain ⟨o,h1,h2⟩:=q4a a b ha a 0 (by simp) (vww _) (vww _);simp only [qf5];have h1':qag (qa9 a b) 0=some o:=h1;rw [h1'];cases o with
 | inl u =>
  simp only [vxj] at h2;simp [qof,h2]
 | inr z =>
  simp only [vxj] at h2;simp [h2]
def qzo (a b:Value):Int:=if sgn a.Kind b.Kind≠0 then sgn a.Kind b.Kind else if sgn a.Num b.Num≠0 then sgn a.Num b.Num else qrl a.Str b.Str
theorem qm2 (a b:Value) (ha:a.Str.length≤1073741824):qc0 a b=some (qzo a b):=by
 simp only [qc0,qof,qyg _ _ ha,qzo,vu7];split <;> (try split) <;> (try split) <;> simp_all
theorem vd8:∀a b:List UInt8,qrl a b=0↔a=b
 | [],[]=>by simp [qrl]
 | [],_ :: _=>by simp [qrl]
 | _ :: _,[]=>by simp [qrl]
 | x :: a,y :: b=>by
  simp only [qrl];by_cases h:x=y
  ·subst h;simp [vd8 a b]
  ·have:sgn x.toNat y.toNat≠0:=vjy (by simpa [vw6,UInt8.toNat_inj] using h);simp [h,this]
theorem qp5 (a b:Int):sgn a b=0↔a=b:=by
 unfold sgn;split <;> (try split) <;> omega
theorem qrm (a b:Value):qzo a b=0↔a=b:=by
 unfold qzo;cases a;cases b;simp only [Value.mk.injEq];split
 ·rename_i h;simp only [ne_eq,qp5] at h;simp [qp5,h]
 ·rename_i h;simp only [ne_eq,qp5,Decidable.not_not] at h;split
  ·rename_i h2;simp only [ne_eq,qp5] at h2;simp [qp5,h2]
  ·rename_i h2;simp only [ne_eq,qp5,Decidable.not_not] at h2;simp [vd8,h,h2]
def veq (a b:Value):Bool:=(a.Kind == b.Kind) && ((a.Num == b.Num) && (a.Str == b.Str))
def vd9:List Row→Int
 | []=>12
 | r :: l=>if (r :: l).all (fun x=>x.Values.length == r.Values.length) then 0 else 6
theorem qsz (l:List Value) (f:Value→Option Bool) (p:Value→Bool) (hf:∀x∈l,f x=some (p x)) (hl:l.length≤1073741824):qde l f=some (match l.findIdx? p with | some i=>(i:Int) | none=>-1):=by
 have h:=qi7 l (qbq l f) p
  (fun k x hx hk hp=>by simp [qbq,qaj hx,qaa hx,hf x (vt9 hx),hp,qbj hk (by omega)])
  (fun k x hx hp=>by simp [qbq,qaj hx,qaa hx,hf x (vt9 hx),hp])
  (by simp [qbq])
 simp only [qde,h,vu7];cases l.findIdx? p <;> rfl
theorem qw4 {α:Type} (p:α→Bool) (l:List α):decide ((match l.findIdx? p with | some i=>((i:Nat):Int) | none=>-1)≥0)=l.any p:=by
 cases h:l.findIdx? p with
 | none =>
  rw [List.findIdx?_eq_none_iff] at h;have:l.any p=false:=by rw [List.any_eq_false];intro x hx;simp [h x hx]
  rw [this];rfl
 | some i =>
  have:l.any p=true:=by
   rw [List.findIdx?_eq_some_iff_getElem] at h;obtain ⟨hi,hp,_⟩:=h;rw [List.any_eq_true];exact ⟨_,List.getElem_mem hi,hp⟩
  rw [this];simp
theorem qpe (l:List Value) (f:Value→Option Bool) (p:Value→Bool) (hf:∀x∈l,f x=some (p x)) (hl:l.length≤1073741824):qcl l f=some (l.any p):=by
 simp only [qcl,qsz l f p hf hl,vu7,qw4]
def vjz:Int→List Row→Bool
 | _,[]=>true
 | a,r :: l=>decide (a < r.ID) && r.Values.all qhm && vjz r.ID l
theorem vru (a b:Int):sgn a b < 0↔a < b:=by unfold sgn;split <;> (try split) <;> omega
theorem vmq (a b:Int):sgn b a=- sgn a b:=by unfold sgn;split <;> (try split) <;> (try split) <;> omega
theorem q8g:∀a b:List UInt8,qrl b a=- qrl a b
 | [],[]=>rfl
 | [],_ :: _=>rfl
 | _ :: _,[]=>rfl
 | x :: a,y :: b=>by
  simp only [qrl];by_cases h:x=y
  ·subst h;simp [q8g a b]
  ·have h':¬y=x:=fun e=>h e.symm
   simp only [if_neg h,if_neg h'];exact vmq _ _
theorem vea (a:Value):qzo a a=0:=(qrm a a).2 rfl
def vmr (cnt:Value→Int) (rule:Int) (v b:Value):Bool :=
 if rule=2 then decide (cnt v > cnt b) else if rule=3 then decide (v.Kind=2) && (decide (b.Kind≠2) || decide ((v.Str.length:Int) > b.Str.length))
 else if rule=4 then decide (qzo v b < 0) else if rule=5 then decide (qzo v b > 0) else false
def qff (r:Row) (a:Nat):Value:=r.Values.getD a ⟨0,0,[]⟩
def vrv (rows:List Row):Prop:=∀r∈rows,∀v∈r.Values,v.Str.length≤1073741824
def pickF {β:Type} (B:Value→Value→Bool) (o:Value×β) (x:Value×β):Value×β:=if B x.1 o.1 then x else o
def nn (rows:List Row) (a:Nat):List Row:=rows.filter fun r=>(qff r a).Kind != 0
def vj0 (rows:List Row) (a:Nat) (rule:Int):Value×Int :=
 match nn rows a with
 | []=>(⟨0,0,[]⟩,(rows[0]?.map (·.ID)).getD 0)
 | r :: l=>(l.map fun x=>(qff x a,x.ID)).foldl (pickF (vmr (fun x=>(((rows.map (qff · a)).countP (veq · x):Nat):Int)) rule)) (qff r a,r.ID)
def choice (rows:List Row) (attr rule:Int):Value×Int×Int :=
 if vd9 rows≠0 then (⟨0,0,[]⟩,0,vd9 rows)
 else if attr < 0∨((rows[0]?.map (·.Values.length)).getD 0:Nat)≤attr then (⟨0,0,[]⟩,0,6)
 else if vjz 0 rows=false∨rule < 1∨5 < rule then (⟨0,0,[]⟩,0,1)
 else ((vj0 rows attr.toNat rule).1,(vj0 rows attr.toNat rule).2,0)
theorem vrw (a b:List Int) (ha:a.length≤1073741824):qim a b=some (decide (a=b)):=by
 simp only [qim];by_cases hl:a.length=b.length
 ·have hn:¬(((a.length:Int) != (b.length:Int))=true):=by simp;omega
  rw [if_neg hn];have key:∀(r:List Int) (k:Nat),a.drop k=r→k≤a.length→qag (qew a b) (k:Int)=some (if r=b.drop k then .inl () else .inr false):=by
   intro r
   induction r with
   | nil =>
    intro k hd hk;have:k=a.length:=by
     have:=congrArg vxo hd;simp at this;omega
    subst this;have:b.drop a.length=[]:=by rw [hl];simp
    rw [this];exact qad (by simp [qew])
   | cons x r ih =>
    intro k hd hk;have hx:a[k]?=some x:=by
     have:=congrArg (·[0]?) hd;simpa [vto] using this
    have hd':a.drop (k+1)=r:=by rw [←vxi,hd];rfl
    have hlt:=qan hx;obtain ⟨y,hy⟩:∃y,b[k]?=some y:=⟨_,vtp (by omega)⟩;have hb:b.drop k=y :: b.drop (k+1):=by
     rw [vtf (by omega)];congr 1;exact (vtr.1 hy).2
    rw [hb];by_cases hxy:x=y
    ·subst hxy;rw [qaf (s':=((k+1:Nat):Int)) (by simp [qew,qaj hx,qaa hx,qaa hy,qbj hlt (by omega)]),ih (k+1) hd' hlt];simp
    ·rw [qad (t:=.inr false) (by simp [qew,qaj hx,qaa hx,qaa hy,hxy])];simp [hxy]
  have h0:=key a 0 (by simp) (vww _);simp only [vxj,vw7] at h0;rw [h0];by_cases hab:a=b <;> simp [hab]
 ·have hn:(((a.length:Int) != (b.length:Int))=true):=by simp;omega
  rw [if_pos hn];have:a≠b:=fun e=>hl (by rw [e])
  simp [this]
def q6z:List Value→List Value→Int
 | [],[]=>0
 | [],_ :: _=>-1
 | _ :: _,[]=>1
 | a :: x,b :: y=>if qzo a b≠0 then qzo a b else q6z x y
theorem veb:∀a b:List Value,q6z a b=0↔a=b
 | [],[]=>by simp [q6z]
 | [],_ :: _=>by simp [q6z]
 | _ :: _,[]=>by simp [q6z]
 | x :: a,y :: b=>by
  simp only [q6z];by_cases h:x=y
  ·subst h;simp [vea,veb a b]
  ·have:qzo x y≠0:=fun e=>h ((qrm _ _).1 e)
   simp [h,this]
theorem vaq (a b:List Value) (ha:a.length≤1073741824) (hs:∀v∈a,v.Str.length≤1073741824):∀(r:List Value) (k:Nat),a.drop k=r→k≤a.length→k≤b.length →
  (∃o,qag (qbn a b) (k:Int)=some o∧(match o with | .inl ()=>sgn (r.length) ((b.drop k).length)=q6z r (b.drop k) | .inr z=>z=q6z r (b.drop k))):=by
 intro r
 induction r with
 | nil =>
  intro k hd hk hkb;have hk':k=a.length:=by
   have:=congrArg vxo hd;simp at this;omega
  subst hk';refine ⟨.inl (),qad (by simp [qbn]),?_⟩;cases hb:b.drop a.length with
  | nil=>rfl
  | cons y s=>simp [q6z,sgn]
 | cons x r ih =>
  intro k hd hk hkb;have hx:a[k]?=some x:=by
   have:=congrArg (·[0]?) hd;simpa [vto] using this
  have hd':a.drop (k+1)=r:=by rw [←vxi,hd];rfl
  have hlt:=qan hx;have hsx:=hs x (vt9 hx);cases hb:b.drop k with
  | nil =>
   have hkb':k=b.length:=by
    have:=congrArg vxo hb;simp at this;omega
   subst hkb';refine ⟨.inl (),qad (by simp [qbn]),?_⟩;simp [q6z,sgn];omega
  | cons y s =>
   have hy:b[k]?=some y:=by
    have:=congrArg (·[0]?) hb;simpa [vto] using this
   have hb':b.drop (k+1)=s:=by rw [←vxi,hb];rfl
   by_cases hxy:qzo x y=0
   ·have h1:qbn a b (k:Int)=some (.next ((k+1:Nat):Int)):=by
     simp [qbn,qaj hx,qaj hy,qaa hx,qaa hy,qbj hlt (by omega),qm2 _ _ hsx,hxy]
    obtain ⟨o,h2,h3⟩:=ih (k+1) hd' hlt (qan hy);refine ⟨o,by rw [qaf h1];exact h2,?_⟩;rw [hb'] at h3;have hl:q6z (x :: r) (y :: s)=q6z r s:=by simp [q6z,hxy]
    rw [hl];cases o with
    | inl u =>
     simp only at h3 ⊢;rw [←h3];simp only [vv5,sgn];split <;> split <;> (try split) <;> (try split) <;> omega
    | inr z=>exact h3
   ·refine ⟨.inr (qzo x y),qad ?_,?_⟩
    ·simp [qbn,qaj hx,qaj hy,qaa hx,qaa hy,qm2 _ _ hsx,hxy]
    ·simp [q6z,hxy]
theorem vh0 (a b:List Value) (ha:a.length≤1073741824) (hs:∀v∈a,v.Str.length≤1073741824):qhd a b=some (q6z a b):=by
 obtain ⟨o,h1,h2⟩:=vaq a b ha hs a 0 (by simp) (vww _) (vww _);simp only [qhd];have h1':qag (qbn a b) 0=some o:=h1;rw [h1'];cases o with
 | inl u =>
  simp only [vxj] at h2;simp [qof,h2]
 | inr z =>
  simp only [vxj] at h2;simp [h2]
theorem vms (a b:List Value) (ha:a.length≤1073741824) (hs:∀v∈a,v.Str.length≤1073741824):qhu a b=some (decide (a=b)):=by
 simp only [qhu,vh0 a b ha hs,vu7];congr 1;rw [vw3];simp [veb]
theorem q60 {α:Type} (p:α→Bool) (l:List α):(l.any fun x=>!p x)=!l.all p:=by simp [List.all_eq_not_any_not]
def qq1 (c:Int):Bool:=(decide (97≤c) && decide (c≤122)) || ((decide (65≤c) && decide (c≤90)) || c == 95)
theorem q4b (c : Int) : (show Option Bool from
            if c ≥ 97 then
              if c ≤ 122 then some true
              else if c ≥ 65 then if c ≤ 90 then some true else some (c == 95) else some (c == 95)
            else if c ≥ 65 then if c ≤ 90 then some true else some (c == 95) else some (c == 95)) = some (qq1 c) := by
  simp only [qq1]
  by_cases h1 : 97 ≤ c <;> by_cases h2 : c ≤ 122 <;> by_cases h3 : 65 ≤ c <;> by_cases h4 : c ≤ 90 <;> simp [h1, h2, h3, h4]
def lod (c:UInt8):Bool:=qq1 c.toNat || (decide (48≤(c.toNat:Int)) && decide ((c.toNat:Int)≤57))
def qvg:List UInt8→Bool
 | []=>false
 | c :: r=>decide (r.length < 24) && qq1 c.toNat && !((c :: r) == [110,117,108,108]) && r.all lod
theorem qw5 (s:List UInt8):qi6 s=some (qvg s):=by
 cases s with
 | nil=>rfl
 | cons c r =>
  have hn:¬(((c :: r) == [])=true):=by simp
  simp only [qi6,if_neg hn];by_cases h24:((c :: r).length:Int) > 24
  ·have:¬r.length < 24:=by simp at h24;omega
   rw [if_pos h24];simp [qvg,this]
  ·have h24':r.length < 24:=by simp at h24;omega
   rw [if_neg h24];by_cases hnull:((c :: r) == [110,117,108,108])=true
   ·simp only [hnull,if_true,qvg];simp
   ·simp only [vw4] at hnull;have hlet:∀x:UInt8,(show Option Bool from
      if ((x.toNat:Nat):Int)≥97 then
       if ((x.toNat:Nat):Int)≤122 then some true
       else if ((x.toNat:Nat):Int)≥65 then if ((x.toNat:Nat):Int)≤90 then some true else some (((x.toNat:Nat):Int) == 95) else some (((x.toNat:Nat):Int) == 95)
      else if ((x.toNat:Nat):Int)≥65 then if ((x.toNat:Nat):Int)≤90 then some true else some (((x.toNat:Nat):Int) == 95) else some (((x.toNat:Nat):Int) == 95))=some (qq1 x.toNat):=fun x=>q4b x.toNat
    have h:=qt1 (c :: r) (qgk (c :: r)) (fun k x=>qq1 x.toNat || (decide (k≠0) && (decide (48≤(x.toNat:Int)) && decide ((x.toNat:Int)≤57)))) false
     (fun k x hx hk hp=>by
      simp only [qgk,if_pos (qaj hx),qaa hx,vu7,hlet,qbj hk (by simp;omega)];by_cases hx1:qq1 x.toNat=true
      ·simp [hx1]
      ·simp only [vw4] at hx1;simp only [hx1,Bool.false_or,vs2,decide_eq_true_eq] at hp;have e0:¬(((k:Int) == 0)=true):=by simp;omega
       have e1:¬(x.toNat:Int) < 48:=by omega
       have e2:¬(x.toNat:Int) > 57:=by omega
       simp [hx1,e0,e1,e2])
     (fun k x hx hp=>by
      simp only [qgk,if_pos (qaj hx),qaa hx,vu7,hlet];simp only [Bool.or_eq_false_iff,Bool.and_eq_false_iff,decide_eq_false_iff_not] at hp;simp only [hp.1,vs4,if_false];by_cases e0:k=0
      ·simp [e0]
      ·have e0':¬(((k:Int) == 0)=true):=by simp;omega
       by_cases e1:(x.toNat:Int) < 48
       ·simp [e1]
       ·have e2:(x.toNat:Int) > 57:=by
         rcases hp.2 with h | h | h
         ·exact absurd e0 h
         ·omega
         ·omega
        simp [e1,e2])
     (by simp [qgk]) (c :: r) 0 rfl (vww _)
    simp only [vw7] at h;simp only [hnull,vs4,if_false,h,vu7];have e:qeo (fun k x=>qq1 x.toNat || (decide (k≠0) && (decide (48≤(x.toNat:Int)) && decide ((x.toNat:Int)≤57)))) 0 (c :: r)=(qq1 c.toNat && r.all lod):=by
     simp only [qeo];rw [qss (q:=fun _ x=>lod x) r 1 (fun j x hj _=>by
      have hj0:j≠0:=by omega
      simp [lod,hj0]),qww]
     simp
    rw [e];simp only [qvg,h24',decide_true,Bool.true_and,hnull,Bool.not_false,Bool.and_true];cases qq1 c.toNat <;> cases r.all lod <;> rfl
def q61:Option Nat→Int
 | some i=>i
 | none=>-1
theorem qvp {α:Type} (p:α→Bool) (l:List α):decide (q61 (l.findIdx? p)≥0)=l.any p:=by
 rw [←qw4];cases l.findIdx? p <;> rfl
theorem qw6 (l:List (List UInt8)) (s:List UInt8) (hl:l.length≤1073741824):qe2 l s=some (q61 (l.findIdx? (fun x=>s == x))):=by
 have h:=qi7 l (qcg l s) (fun x=>s == x)
  (fun k x hx hk hp=>by simp only [qcg,if_pos (qaj hx),qaa hx,vu7,hp,vs4,if_false,if_true,qbj hk (show l.length≤4611686018427387904 by omega)])
  (fun k x hx hp=>by simp only [qcg,if_pos (qaj hx),qaa hx,vu7,hp,if_true])
  (by simp [qcg])
 simp only [qe2,h,vu7];cases l.findIdx? (fun x=>s == x) <;> rfl
theorem qmo (l:List (List UInt8)) (s:List UInt8) (hl:l.length≤1073741824):qdd l s=some (l.any fun x=>s == x):=by
 simp only [qdd,qw6 l s hl,vu7];exact congrArg some (qvp _ l)
def qzp (l:List (List UInt8)):Bool:=qeo (fun k x=>qvg x && !(l.take k).any fun y=>x == y) 0 l
def qec (n:Nat):Int→List Row→Int
 | _,[]=>0
 | a,r :: l=>if r.ID≤a then 1 else if r.Values.length≠n then 6 else if r.Values.all qhm then qec n r.ID l else 1
def qa4 (t:Table):Int :=
 if qvg t.Name=false then 1 else if t.Attrs.length > 16 then 3 else if t.Rows.length > 1000 then 3 else if qzp t.Attrs=false then 1 else qec t.Attrs.length 0 t.Rows
theorem qyh (l:List Value) (hl:l.length≤1073741824):qgl l=some (l.all qhm):=by
 simp only [qgl,qpe l (fun y=>qdi y) (fun v=>!qhm v) (fun y _=>by simp [qdi,qm1]) hl,vu7,q60,Bool.not_not]
theorem vec {B:Int×Int→Option (LS (Int×Int) (Unit ⊕ Int))} (rows:List Row) (n:Nat)
  (hB:∀(k:Nat) (a:Int) x,rows[k]?=some x→k < rows.length→B (a,(k:Int))=if x.ID≤a then some (.done (.inr 1)) else if x.Values.length≠n then some (.done (.inr 6)) else if x.Values.all qhm then some (.next (x.ID,((k+1:Nat):Int))) else some (.done (.inr 1)))
  (hE:∀a,B (a,(rows.length:Int))=some (.done (.inl ()))):∀(r:List Row) (k:Nat) (a:Int),rows.drop k=r→k≤rows.length→∃o,qag B (a,(k:Int))=some o∧(match o with | .inl ()=>qec n a r=0 | .inr z=>qec n a r=z∧z≠0):=by
 intro r
 induction r with
 | nil =>
  intro k a hd hk;have:k=rows.length:=by
   have:=congrArg vxo hd;simp at this;omega
  subst this;exact ⟨.inl (),qad (hE a),rfl⟩
 | cons x r ih =>
  intro k a hd hk;have hx:rows[k]?=some x:=by
   have:=congrArg (·[0]?) hd;simpa [vto] using this
  have hd':rows.drop (k+1)=r:=by rw [←vxi,hd];rfl
  have hlt:=qan hx;have hb:=hB k a x hx hlt;by_cases h1:x.ID≤a
  ·rw [if_pos h1] at hb;exact ⟨_,qad hb,by simp [qec,h1]⟩
  ·rw [if_neg h1] at hb;by_cases h2:x.Values.length≠n
   ·rw [if_pos h2] at hb;exact ⟨_,qad hb,by simp [qec,h1,h2]⟩
   ·rw [if_neg h2] at hb;by_cases h3:x.Values.all qhm=true
    ·rw [if_pos h3] at hb;obtain ⟨o,h4,h5⟩:=ih (k+1) x.ID hd' hlt;refine ⟨o,by rw [qaf hb];exact h4,?_⟩;have e:qec n a (x :: r)=qec n x.ID r:=by
      simp only [qec,if_neg h1,if_neg h2,if_pos h3]
     rw [e];exact h5
    ·rw [if_neg h3] at hb;exact ⟨_,qad hb,by simp only [qec,if_neg h1,if_neg h2,if_neg h3];exact ⟨trivial,by omega⟩⟩
structure TableOk (t:Table):Prop where
 attrs:t.Attrs.length≤1073741824
 rows:t.Rows.length≤1073741824
 vals:∀r∈t.Rows,r.Values.length≤1073741824
 short:vrv t.Rows
theorem vh1 {t:Table} (h:qoe t):TableOk t:=by
 obtain ⟨_,h2,h3⟩:=h;refine ⟨by have:=h2.1;omega,by have:=h3.1;omega,fun r hr=>?_,fun r hr v hv=>?_⟩
 ·have:=(h3.2 r hr).2.1;omega
 ·have:okS v.Str:=((h3.2 r hr).2.2 v hv).2.2;unfold okS at this;omega
theorem qt5 (t : Table) (H : TableOk t) : qll t = some (qa4 t) := by
  simp only [qll, qw5, vu7, qa4]
  by_cases h1 : qvg t.Name = true
  · by_cases h2 : t.Attrs.length > 16
    · have : (t.Attrs.length : Int) > 16 := by omega
      simp [h1, h2, this]
    · have h2' : ¬ (t.Attrs.length : Int) > 16 := by omega
      by_cases h3 : t.Rows.length > 1000
      · have : (t.Rows.length : Int) > 1000 := by omega
        simp [h1, h2, h2', h3, this]
      · have h3' : ¬ (t.Rows.length : Int) > 1000 := by omega
        have hN := qt1 t.Attrs (qhe t) (fun k x => qvg x && !(t.Attrs.take k).any fun y => x == y) 1
          (fun k x hx hk hp => by
            simp only [vs2, Bool.not_eq_true'] at hp
            have h0 : ((0 : Int) ≤ (k : Int)) := by omega
            have h1 : ((k : Int) ≤ (t.Attrs.length : Int)) := by omega
            have hA := H.attrs
            simp only [qhe, if_pos (qaj hx), qaa hx, vu7, qw5, hp.1, if_true, if_pos h0, if_pos h1, vxb, qmo _ x (show (t.Attrs.take k).length ≤ 1073741824 by simp; omega), hp.2, vs4, if_false,
              qbj hk (show t.Attrs.length ≤ 4611686018427387904 by omega)])
          (fun k x hx hp => by
            have hk := qan hx
            have h0 : ((0 : Int) ≤ (k : Int)) := by omega
            have h1 : ((k : Int) ≤ (t.Attrs.length : Int)) := by omega
            have hA := H.attrs
            simp only [qhe, if_pos (qaj hx), qaa hx, vu7, qw5, if_pos h0, if_pos h1, vxb, qmo _ x (show (t.Attrs.take k).length ≤ 1073741824 by simp; omega)]
            rcases vw2 (qvg x) with hn | hn
            · simp only [hn, Bool.true_and, Bool.not_eq_false'] at hp
              simp only [hn, if_true, hp]
            · simp [hn])
          (by simp [qhe]) t.Attrs 0 rfl (vww _)
        simp only [vw7] at hN
        simp only [h1, if_true, if_neg h2', if_neg h3', hN, vu7, vs8, if_false, if_neg h2, if_neg h3]
        have hNe : qzp t.Attrs = qeo (fun k x => qvg x && !(t.Attrs.take k).any fun y => x == y) 0 t.Attrs := rfl
        rw [← hNe]
        by_cases h4 : qzp t.Attrs = true
        · obtain ⟨o, h5, h6⟩ := vec (B := qih t) t.Rows t.Attrs.length (fun k a x hx hk => by
              simp only [qih, if_pos (qaj hx), qaa hx, vu7, qyh _ (H.vals x (vt9 hx)), qbj hk (show t.Rows.length ≤ 4611686018427387904 by have := H.rows; omega)]
              by_cases e1 : x.ID ≤ a
              · simp [e1]
              · by_cases e2 : x.Values.length = t.Attrs.length
                · simp [e1, e2]
                · have : ¬ ((x.Values.length : Int) = t.Attrs.length) := by omega
                  simp [e1, e2, this]) (fun a => by simp [qih]) t.Rows 0 0 rfl (vww _)
          simp only [vw7] at h5
          simp only [h4, if_true, h5, vu7, vs8, if_false]
          cases o with
          | inl u => simp only at h6 ⊢; rw [h6]
          | inr z => simp only at h6 ⊢; rw [h6.1]
        · simp only [vw4] at h4
          simp [h4]
  · simp only [vw4] at h1
    simp [h1]
def vh2 (t:Table) (id:Int):Int×Bool:=match t.Rows.findIdx? (fun r=>r.ID == id) with | some i=>((i:Int),true) | none=>(0,false)
theorem qw7 (t:Table) (id:Int) (H:t.Rows.length≤1073741824):qhw t id=some (vh2 t id):=by
 have key:∀(r:List Row) (k:Nat),t.Rows.drop k=r→k≤t.Rows.length→qag (qd6 t id) (k:Int)=some (match r.findIdx? (fun r=>r.ID == id) with | some i=>.inr (((k+i:Nat):Int),true) | none=>.inl ()):=by
  intro r
  induction r with
  | nil =>
   intro k hd hk;have:k=t.Rows.length:=by
    have:=congrArg vxo hd;simp at this;omega
   subst this;exact qad (by simp [qd6])
  | cons x r ih =>
   intro k hd hk;have hx:t.Rows[k]?=some x:=by
    have:=congrArg (·[0]?) hd;simpa [vto] using this
   have hd':t.Rows.drop (k+1)=r:=by rw [←vxi,hd];rfl
   have hlt:=qan hx;by_cases hp:(x.ID == id)=true
   ·rw [qad (t:=.inr ((k:Int),true)) (by simp only [qd6,if_pos (qaj hx),qaa hx,vu7,if_pos hp])];simp [vxk,hp]
   ·rw [qaf (s':=((k+1:Nat):Int)) (by simp only [qd6,if_pos (qaj hx),qaa hx,vu7,if_neg hp,qbj hlt (show t.Rows.length≤4611686018427387904 by omega)]),ih (k+1) hd' hlt];simp only [vw4] at hp;simp only [vxk,hp];cases r.findIdx? (fun r=>r.ID == id) with
    | none=>rfl
    | some i=>simp;omega
 have h:=key t.Rows 0 rfl (vww _);simp only [vw7] at h;simp only [qhw,h,vu7,vh2];cases t.Rows.findIdx? (fun r=>r.ID == id) <;> simp
end Go.Proofs.YtmlegeeinnkhkaaGreat
namespace Go.Ab
open Go
theorem vj1 {n:Nat} (h:n≤8000000000):qao n 16=true:=by
 unfold qao;simp only [decide_eq_true_eq];omega
theorem q4c {n k x:Nat} (h:(vuf n)[k]?=some x):x=k∧k < n:=by
 have hl:=qan h;rw [vv9] at hl;rw [vxn hl] at h;exact ⟨(vwz h).symm,hl⟩
end Go.Ab
namespace Go.Proofs.YtmlegeeinnkhkaaGreat
open Go Go.Ab
end Go.Proofs.YtmlegeeinnkhkaaGreat
namespace Go.Ab
open Go
def qw8 {α:Type} (lt:α→α→Bool) (x:α):List α→List α
 | []=>[x]
 | y :: r=>if lt x y then y :: qw8 lt x r else x :: y :: r
def q5h {α:Type} (lt:α→α→Bool) (x:α) (s:List α):List α:=(qw8 lt x s.reverse).reverse
theorem qw9 {α:Type} (lt:α→α→Bool) (x y:α) (s:List α):q5h lt x (s++[y])=if lt x y then q5h lt x s++[y] else s++[y,x]:=by
 unfold q5h;rw [List.reverse_append];simp only [List.reverse_singleton,vx2,qw8];split <;> simp
theorem qrn {α:Type} (lt:α→α→Bool) (x:α):∀s:List α,(qw8 lt x s).Perm (x :: s)
 | []=>vxg.refl _
 | y :: r=>by
  simp only [qw8];split
  ·exact ((qrn lt x r).cons y).trans (vxg.swap x y r)
  ·exact vxg.refl _
theorem q4d {α:Type} (lt:α→α→Bool) (x:α) (s:List α):(q5h lt x s).Perm (x :: s):=by
 unfold q5h;exact (vx0 _).trans ((qrn lt x _).trans ((vx0 s).cons x))
theorem vh3 {α:Type} (lt:α→α→Bool) (x:α) (s:List α):(q5h lt x s).length=s.length+1:=by rw [(q4d lt x s).length_eq];rfl
theorem qs0 {α:Type} (lt:α→α→Bool) (asym:∀x y,lt x y=true→lt y x=false) (ntr:∀x y z,lt y x=false→lt z y=false→lt z x=false) (x:α) :
  ∀s:List α,s.Pairwise (fun a b=>lt a b=false)→(qw8 lt x s).Pairwise (fun a b=>lt a b=false)
 | [],_=>List.pairwise_singleton _ _
 | y :: r,h=>by
  simp only [qw8];obtain ⟨h1,h2⟩:=vxs.1 h;by_cases hxy:lt x y=true
  ·rw [if_pos hxy];refine vxs.2 ⟨fun z hz=>?_,qs0 lt asym ntr x r h2⟩;rcases vwf.1 ((qrn lt x r).mem_iff.1 hz) with rfl | hz
   ·exact asym _ _ hxy
   ·exact h1 z hz
  ·rw [if_neg hxy];have hxy:lt x y=false:=by simpa using hxy
   refine vxs.2 ⟨fun z hz=>?_,h⟩;rcases vwf.1 hz with rfl | hz
   ·exact hxy
   ·exact ntr _ _ _ (h1 z hz) hxy
theorem q62 {α:Type} (lt:α→α→Bool) (asym:∀x y,lt x y=true→lt y x=false) (ntr:∀x y z,lt y x=false→lt z y=false→lt z x=false) (x:α)
  (s:List α) (h:s.Pairwise (fun a b=>lt b a=false)):(q5h lt x s).Pairwise (fun a b=>lt b a=false):=by
 unfold q5h;rw [vxv];exact qs0 lt asym ntr x _ (by rw [vxv];exact h)
theorem ved {α:Type} (lt:α→α→Bool) (B:(List α×Int)→Option (LS (List α×Int) (List α))) (N:Nat)
  (h0:∀l,B (l,0)=some (.done l))
  (h1:∀(l:List α) (k:Nat) x y,k+1 < N→l[k+1]?=some x→l[k]?=some y→lt x y=true→B (l,((k+1:Nat):Int))=some (.next ((l.set (k+1) y).set k x,(k:Int))))
  (h2:∀(l:List α) (k:Nat) x y,k+1 < N→l[k+1]?=some x→l[k]?=some y→lt x y=false→B (l,((k+1:Nat):Int))=some (.done l)) (x:α) :
  ∀(n:Nat) (s t:List α),s.length=n→n < N→qag B (s++x :: t,(n:Int))=some (q5h lt x s++t):=by
 intro n
 induction n with
 | zero =>
  intro s t hs hN;have:s=[]:=vti hs;subst this;rw [vw7,qad (h0 _)];rfl
 | succ n ih =>
  intro s t hs hN;obtain ⟨s',y,rfl⟩:∃s' y,s=s'++[y]:=by
   rcases List.eq_nil_or_concat s with rfl | ⟨s',y,rfl⟩
   ·simp at hs
   ·exact ⟨s',y,by simp⟩
  have hs':s'.length=n:=by simpa using hs
  have e:s'++[y]++x :: t=s'++y :: x :: t:=by simp
  have g1:(s'++y :: x :: t)[n+1]?=some x:=by rw [vtn (by omega),hs'];simp
  have g2:(s'++y :: x :: t)[n]?=some y:=by rw [vtn (by omega),hs'];simp
  rw [e];by_cases hl:lt x y=true
  ·rw [qaf (h1 _ n x y hN g1 g2 hl)];have e2:((s'++y :: x :: t).set (n+1) y).set n x=s'++x :: y :: t:=by
    subst hs';rw [vx1 _ _ (by omega),show s'.length+1 - s'.length=1 by omega];simp
   rw [e2,ih s' (y :: t) hs' (by omega),qw9,if_pos hl];simp
  ·have hl:lt x y=false:=by simpa using hl
   rw [qad (h2 _ n x y hN g1 g2 hl),qw9,hl];simp
def qu2 {α:Type} (lt:α→α→Bool) (l:List α):List α:=l.foldl (fun s x=>q5h lt x s) []
theorem qlp {α:Type} (lt:α→α→Bool) (asym:∀x y,lt x y=true→lt y x=false) (ntr:∀x y z,lt y x=false→lt z y=false→lt z x=false) :
  ∀(l s:List α),s.Pairwise (fun a b=>lt b a=false)→(l.foldl (fun s x=>q5h lt x s) s).Perm (s++l)∧(l.foldl (fun s x=>q5h lt x s) s).Pairwise (fun a b=>lt b a=false)
 | [],s,h=>⟨by simp,h⟩
 | x :: l,s,h=>by
  obtain ⟨p,q⟩:=qlp lt asym ntr l (q5h lt x s) (q62 lt asym ntr x s h);refine ⟨p.trans ?_,q⟩;exact ((q4d lt x s).append_right l).trans (by rw [vvu];exact List.perm_middle.symm)
def qpf {α:Type} (lt:α→α→Bool):List α→List α→Nat
 | [],_=>0
 | _ :: _,[]=>0
 | a :: u,b :: v=>if lt a b then qpf lt u (b :: v) else if lt b a then qpf lt (a :: u) v else qpf lt u v+1
termination_by l r=>l.length+r.length
theorem q8h {α:Type} (lt:α→α→Bool) (l:List α):qpf lt l []=0:=by cases l <;> simp [qpf]
theorem vmt {α:Type} (lt:α→α→Bool):∀n (l r:List α),l.length+r.length≤n→qpf lt l r≤l.length:=by
 intro n
 induction n with
 | zero=>intro l r h;have:l=[]:=vti (by omega);subst this;simp [qpf]
 | succ n ih =>
  intro l r h;cases l with
  | nil=>simp [qpf]
  | cons a l =>
   cases r with
   | nil=>simp [qpf]
   | cons b r =>
    simp only [vv5] at h;simp only [qpf];split
    ·have:=ih l (b :: r) (by simp;omega);simp;omega
    ·split
     ·have:=ih (a :: l) r (by simp;omega);simpa using this
     ·have:=ih l r (by omega);simp;omega
end Go.Ab
namespace Go.Proofs.YtmlegeeinnkhkaaGreat
open Go Go.Ab
abbrev Str:=List UInt8
def ltS (a b:Str):Bool:=decide (a < b)
theorem vh4:∀(x y:Str),Op.bytesLess x y=ltS x y:=fun x y=>by
 show Op.bytesLess x y=decide (x < y)
 induction x generalizing y with
 | nil=>cases y <;> simp [Op.bytesLess]
 | cons a x ih =>
  cases y with
  | nil=>simp [Op.bytesLess]
  | cons b y =>
   simp only [Op.bytesLess,ih];by_cases h1:a < b
   ·simp [h1,vxh]
   ·by_cases h2:a=b
    ·subst h2;simp [vxh]
    ·simp [h1,h2,vxh]
theorem vmu (x:Str):ltS x x=false:=by simp [ltS,List.lt_irrefl]
theorem q1f (x y:Str) (h:ltS x y=true):ltS y x=false:=by
 simp only [ltS,decide_eq_true_eq,decide_eq_false_iff_not] at *;exact List.lt_asymm h
theorem vee (x y z:Str) (h1:ltS y x=false) (h2:ltS z y=false):ltS z x=false:=by
 simp only [ltS,decide_eq_false_iff_not,vxr] at *;exact List.le_trans h1 h2
theorem vj2 {x y:Str} (h1:ltS x y=false) (h2:ltS y x=false):x=y:=by
 simp only [ltS,decide_eq_false_iff_not,vxr] at *;exact List.le_antisymm h2 h1
theorem vef:∀n:Nat,Lib.repeatL [1] n=vuh n (1:UInt8)
 | 0=>rfl
 | n+1=>by simp only [Lib.repeatL,vef n];rfl
def q1g (s:Str) (q:Nat):Str:=vuh (q - 1) 1++s++vuh (q - 1) 1
theorem q4e (s:Str) (q:Nat):(q1g s q).length=s.length+2 * (q - 1):=by simp [q1g];omega
def qpg (s:Str) (q i:Nat):Str:=((q1g s q).drop i).take q
def qk5 (s:Str) (q:Nat):List Str:=(vuf (s.length+q - 1)).map (qpg s q)
def qbd (s:Str) (q:Nat):List Str:=qu2 ltS (qk5 s q)
theorem q63 (s:Str) (q:Nat):(qbd s q).Perm (qk5 s q):=by
 have:=(qlp ltS q1f vee (qk5 s q) [] List.Pairwise.nil).1;simpa [qbd,qu2] using this
theorem vas (s:Str) (q:Nat):(qbd s q).length=s.length+q - 1:=by rw [(q63 s q).length_eq];simp [qk5]
theorem vh5 (l:List Str):vhc l=qu2 ltS l:=by
 obtain ⟨p,h⟩:=qlp ltS q1f vee l [] List.Pairwise.nil;have p:(qu2 ltS l).Perm l:=by simpa [qu2] using p
 refine vxg.eq_of_pairwise (le:=fun x y=>ltS y x=false) (fun a b _ _ h1 h2=>vj2 h2 h1) ?_ h ((q3n l).trans p.symm);have:=List.pairwise_mergeSort (le:=fun x y:Str=>decide (x≤y)) (fun a b c h1 h2=>by simp only [decide_eq_true_eq] at *;exact List.le_trans h1 h2) (fun a b=>by simp only [Bool.or_eq_true,decide_eq_true_eq];exact List.le_total a b) l;exact this.imp fun h=>by simpa [ltS,vxr] using h
theorem qxa {x:Int} (h1:-4611686018427387904≤x) (h2:x≤4611686018427387904):vxc.wrap x=x:=qax (by omega) (by omega)
theorem q8i (s:Str) (q:Nat) (hs:s.length≤200) (h1:1≤q) (h4:q≤4):qc7 s (q:Int)=some (qbd s q,0):=by
 have hlong:qcv [s]=some false:=by
  have:¬((s.length:Int) > 200):=by omega
  simp only [qcv,qb8,qb1];have e1:qas [s] (fun y=>qco y) 0=some (.next 1):=by
   have:idx [s] 0=some s:=rfl;simp only [qas,this,vu7,qco,vwa];have h0:(0:Int) < ((1:Nat):Int):=by omega
   have h2:(0:Int)+1=1:=rfl;rw [if_pos h0];simp only [show ¬((s.length:Int) > 200) by omega,decide_false,vs4,if_false];rw [qxa (by omega) (by omega)];rfl
  have e2:qas [s] (fun y=>qco y) 1=some (.done (.inl ())):=by simp [qas]
  rw [qaf e1,qad e2];rfl
 have hq1:¬((q:Int) < 1):=by omega
 have hq2:¬((q:Int) > 4):=by omega
 have hw1:vxc.wrap ((q:Int) - 1)=((q - 1:Nat):Int):=by rw [qxa (by omega) (by omega)];omega
 have hr:strings_Repeat [1] ((q - 1:Nat):Int)=some (vuh (q - 1) 1):=by
  simp only [strings_Repeat,repF];rw [if_pos ⟨by omega,by omega,by simp⟩,vxb,vef]
 have hl1:(vuh (q - 1) (1:UInt8)).length+s.length≤9223372036854775807:=by simp;omega
 have hl2:(vuh (q - 1) (1:UInt8)++s).length+(vuh (q - 1) (1:UInt8)).length≤9223372036854775807:=by simp;omega
 have hN:vxc.wrap (vxc.wrap ((s.length:Int)+(q:Int)) - 1)=((s.length+q - 1:Nat):Int):=by
  rw [qxa (x:=(s.length:Int)+(q:Int)) (by omega) (by omega),qxa (by omega) (by omega)];omega
 have hL:=qp1 (vuf (s.length+q - 1)) (fun (out:List Str) (k:Int)=>(out,k)) (qe1 s q (q1g s q)) (fun out i=>(Sum.inl (out++[qpg s q i]):List Str ⊕ List Str)) id (fun k out=>out.length=k) (b0:=[]) (s0:=([],0)) rfl rfl
  (fun k b x hx hk hI=>by
   obtain ⟨rfl,hk⟩:=q4c hx;refine ⟨fun b' hb=>?_,fun t ht=>by cases ht⟩;cases hb;have e1:((x:Nat):Int) < ((s.length+q - 1:Nat):Int):=by omega
   have e2:vxc.wrap ((x:Int)+(q:Int))=((x+q:Nat):Int):=by rw [qxa (by omega) (by omega)];omega
   have e3:(x:Int)≤((x+q:Nat):Int):=by omega
   have e4:((x+q:Nat):Int)≤((q1g s q).length:Int):=by rw [q4e];omega
   refine ⟨?_,by simp [hI]⟩;simp only [qe1,hN,if_pos e1,e2,if_pos e3,if_pos e4,show (0:Int)≤(x:Int) by omega,if_true,vj1 (show b.length+1≤8000000000 by omega),vxb,wqn x];rw [show x+q - x=q by omega];rfl)
  (fun b hI=>by simp only [vv9,qe1,hN];simp)
 have hf:qvf (fun out i=>(Sum.inl (out++[qpg s q i]):List Str ⊕ List Str)) id (vuf (s.length+q - 1)) []=qk5 s q:=by
  rw [q1c (fun out i=>out++[qpg s q i])];unfold qk5;have:∀(l:List Nat) (out:List Str),l.foldl (fun out i=>out++[qpg s q i]) out=out++l.map (qpg s q):=by
   intro l
   induction l with
   | nil=>simp
   | cons x l ih=>intro out;simp [ih]
  rw [this];rfl
 rw [hf] at hL;have hsz:(qk5 s q).length < 4611686018427387904:=by simp [qk5];omega
 have hwide:vuh (q - 1) (1:UInt8)++s++vuh (q - 1) 1=q1g s q:=rfl;simp only [qc7,hlong,vu7,vs4,if_false,hq1,hq2,hw1,hr,if_pos hl1,if_pos hl2,hwide,hL,q6g,if_pos hsz,vh5];rfl
theorem vh6 (s : Str) (q : Nat) (hs : s.length ≤ 200) (h1 : 1 ≤ q) (h4 : q ≤ 4) : qag (qbw (q : Int)) (s, 1) = some (q1g s q) := by
  have step : ∀ (w : Str) (i : Nat), i < q → w.length ≤ 1000 → qbw (q : Int) (w, (i : Int)) = some (.next ([1] ++ w ++ [1], ((i + 1 : Nat) : Int))) := fun w i hi hw => by
    have e1 : (i : Int) < (q : Int) := by omega
    have e2 : 1 + w.length ≤ 9223372036854775807 := by omega
    have e3 : w.length + 1 + 1 ≤ 9223372036854775807 := by omega
    simp only [qbw, if_pos e1, if_pos e2, if_pos e3, wqn i]
  have fin : ∀ (w : Str), qbw (q : Int) (w, (q : Int)) = some (.done w) := fun w => by simp [qbw]
  have key : ∀ (n i : Nat) (w : Str), i + n = q → w.length + 2 * n ≤ 1000 → qag (qbw (q : Int)) (w, (i : Int)) = some (vuh n 1 ++ w ++ vuh n 1) := by
    intro n
    induction n with
    | zero => intro i w h _; obtain rfl : i = q := by omega
              rw [qad (fin w)]; simp
    | succ n ih =>
      intro i w h hw
      rw [qaf (step w i (by omega) (by omega)), ih (i + 1) _ (by omega) (by simp; omega)]
      congr 1
      have : ∀ n : Nat, vuh n (1 : UInt8) ++ [1] = vuh (n + 1) 1 := fun n => vxy.symm
      rw [← vtc, ← vtc, this, vtc _ [1], vx2, ← vxx]
  have := key (q - 1) 1 s (by omega) (by omega)
  exact this
theorem qu3 (s:Str) (q:Nat) (hs:s.length≤200) (h1:1≤q) (h4:q≤4):qdb s (q:Int)=some (qbd s q,0):=by
 have hlong:qd0 s=some false:=by
  have:¬((s.length:Int) > 200):=by omega
  simp [qd0,this]
 have hq1:¬((q:Int) < 1):=by omega
 have hq2:¬((q:Int) > 4):=by omega
 have hN:vxc.wrap (vxc.wrap ((s.length:Int)+(q:Int)) - 1)=((s.length+q - 1:Nat):Int):=by
  rw [qxa (x:=(s.length:Int)+(q:Int)) (by omega) (by omega),qxa (by omega) (by omega)];omega
 have hsift:=fun (x:Str) (out:List Str) (h:out.length < 1000)=>ved ltS qdo 1000 (fun l=>by simp [qdo])
  (fun l k x y hk hx hy hl=>by
   have e1:((k+1:Nat):Int) > 0:=by omega
   have e2:vxc.wrap (((k+1:Nat):Int) - 1)=(k:Int):=by rw [qxa (by omega) (by omega)];omega
   have e3:(l.set (k+1) y)[k]?=some y:=by rw [List.getElem?_set_ne (by omega)];exact hy
   simp only [qdo,if_pos e1,qaa hx,e2,qaa hy,vu7,vh4,hl,if_true,vxb,qaa e3])
  (fun l k x y hk hx hy hl=>by
   have e1:((k+1:Nat):Int) > 0:=by omega
   have e2:vxc.wrap (((k+1:Nat):Int) - 1)=(k:Int):=by rw [qxa (by omega) (by omega)];omega
   simp only [qdo,if_pos e1,qaa hx,e2,qaa hy,vu7,vh4,hl,vs4,if_false]) x out.length out [] rfl h
 have hL:=qp1 (vuf (s.length+q - 1)) (fun (out:List Str) (k:Int)=>(out,k)) (qfb s q (q1g s q)) (fun out i=>(Sum.inl (q5h ltS (qpg s q i) out):List Str ⊕ List Str)) id (fun k out=>out.length=k) (b0:=[]) (s0:=([],0)) rfl rfl
  (fun k b x hx hk hI=>by
   obtain ⟨rfl,hk⟩:=q4c hx;refine ⟨fun b' hb=>?_,fun t ht=>by cases ht⟩;cases hb;have e1:((x:Nat):Int) < ((s.length+q - 1:Nat):Int):=by omega
   have e2:vxc.wrap ((x:Int)+(q:Int))=((x+q:Nat):Int):=by rw [qxa (by omega) (by omega)];omega
   have e3:(x:Int)≤((x+q:Nat):Int):=by omega
   have e4:((x+q:Nat):Int)≤((q1g s q).length:Int):=by rw [q4e];omega
   have e5:vxc.wrap (((b.length+1:Nat):Int) - 1)=(b.length:Int):=by rw [qxa (by omega) (by omega)];omega
   refine ⟨?_,by rw [vh3,hI]⟩;simp only [qfb,hN,if_pos e1,e2,if_pos e3,if_pos e4,show (0:Int)≤(x:Int) by omega,if_true,vj1 (show b.length+1≤8000000000 by omega),vxb,wqn x,e5];rw [show x+q - x=q by omega];have:=hsift (qpg s q x) b (by omega);rw [vtd] at this;unfold qpg at this;rw [this];rfl)
  (fun b hI=>by
   simp only [vv9,qfb,hN];simp)
 have hf:qvf (fun out i=>(Sum.inl (q5h ltS (qpg s q i) out):List Str ⊕ List Str)) id (vuf (s.length+q - 1)) []=qbd s q:=by
  rw [q1c (fun out i=>q5h ltS (qpg s q i) out)];unfold qbd qu2 qk5;rw [List.foldl_map]
 rw [hf] at hL;simp only [qdb,hlong,vu7,vs4,if_false,hq1,hq2,vh6 s q hs h1 h4,hL]
theorem qiq {α:Type} {l:List α} {k:Nat} {x:α} (h:l[k]?=some x):l.drop k=x :: l.drop (k+1):=by
 obtain ⟨h1,h2⟩:=vtr.1 h;rw [vtf h1,h2]
def qyi (x:Str):List Str→Nat
 | []=>0
 | y :: l=>if ltS y x then qyi x l+1 else 0
theorem q4f (x:Str) (u:List Str):∀v:List Str,qpf ltS (x :: u) v=qpf ltS (x :: u) (v.drop (qyi x v))
 | []=>rfl
 | y :: v=>by
  simp only [qyi];by_cases h:ltS y x=true
  ·have h':ltS x y=false:=q1f _ _ h;rw [if_pos h,List.drop_succ_cons,←q4f x u v];simp [qpf,h,h']
  ·rw [if_neg h];rfl
theorem q8j (x:Str):∀v:List Str,qyi x v≤v.length
 | []=>vuv _
 | y :: v=>by simp only [qyi];split <;> simp [q8j x v]
theorem veg (a b:List Str) (ha:a.length≤1000000) (hb:b.length≤1000000):qgu a b=some ((qpf ltS a b:Nat):Int):=by
 have qyf:∀(i:Nat) (x:Str),a[i]?=some x→∀(m k:Nat),b.length - k=m→k≤b.length→qag (qc5 a b (i:Int)) (k:Int)=some ((k+qyi x (b.drop k):Nat):Int):=by
  intro i x hx m
  induction m with
  | zero =>
   intro k hm hk;have e2:¬(k:Int) < (b.length:Int):=by omega
   rw [qad (t:=(k:Int)) (by simp only [qc5,if_neg e2]),vtg (l:=b) (by omega)];rfl
  | succ m ih =>
   intro k hm hk;have h2:k < b.length:=by omega
   have g2:b[k]?=some b[k]:=vtp h2;have e2:(k:Int) < (b.length:Int):=by omega
   rw [qiq g2];simp only [qyi];by_cases l:ltS b[k] x=true
   ·rw [qaf (s':=((k+1:Nat):Int)) (by simp only [qc5,if_pos e2,qaa g2,qaa hx,vu7,vh4,l,if_true,wqn k]),ih (k+1) (by omega) (by omega),if_pos l];congr 2;omega
   ·rw [qad (t:=(k:Int)) (by simp only [qc5,if_pos e2,qaa g2,qaa hx,vu7,vh4,l,if_false,vs4]),if_neg l];rfl
 have key:∀(m i k n:Nat),a.length - i=m→i≤a.length→k≤b.length→n≤i→qag (qcc a b) ((n:Int),(k:Int),(i:Int))=some ((n+qpf ltS (a.drop i) (b.drop k):Nat):Int):=by
  intro m
  induction m with
  | zero =>
   intro i k n hm hi hk hn;have e1:¬(i:Int) < (a.length:Int):=by omega
   rw [qad (t:=(n:Int)) (by simp only [qcc,if_neg e1]),vtg (l:=a) (by omega)];simp [qpf]
  | succ m ih =>
   intro i k n hm hi hk hn;have h1:i < a.length:=by omega
   have g1:a[i]?=some a[i]:=vtp h1;have e1:(i:Int) < (a.length:Int):=by omega
   have hin:=qyf i _ g1 _ k rfl hk;rw [qiq g1,q4f,vxi];have hk2:=q8j a[i] (b.drop k);rw [vty] at hk2;generalize hk':k+qyi a[i] (b.drop k)=k' at hin;have hle:k'≤b.length:=by omega
   by_cases h2:k' < b.length
   ·have g2:b[k']?=some b[k']:=vtp h2;have e2:(k':Int) < (b.length:Int):=by omega
    rw [qiq g2];by_cases he:b[k']=a[i]
    ·rw [qaf (s':=(((n+1:Nat):Int),((k'+1:Nat):Int),((i+1:Nat):Int))) (by
      simp only [qcc,if_pos e1,hin,vu7,if_pos e2,qaa g1,qaa g2,he,beq_self_eq_true,if_true,wqn i,qj8 (show k' < 4611686018427387904 by omega),wqn n]),
      ih (i+1) (k'+1) (n+1) (by omega) (by omega) (by omega) (by omega)]
     rw [he];simp only [qpf,vmu,if_false,vs4];congr 2;omega
    · -- the next one is greater
     have hng:ltS b[k'] a[i]=false:=by
      have aux:∀(v:List Str) (y:Str),v[qyi a[i] v]?=some y→ltS y a[i]=false:=by
       intro v
       induction v with
       | nil=>intro y h;simp at h
       | cons z v ihv =>
        intro y h;simp only [qyi] at h;by_cases hz:ltS z a[i]=true
        ·rw [if_pos hz] at h;exact ihv y (by simpa using h)
        ·rw [if_neg hz] at h;simp only [List.getElem?_cons_zero,vvd] at h;subst h;simpa using hz
      refine aux (b.drop k) _ ?_;rw [vto,hk'];exact g2
     have hgt:ltS a[i] b[k']=true:=by
      rcases vw2 (ltS a[i] b[k']) with h | h
      ·exact h
      ·exact absurd (vj2 hng h) he
     have hbe:(b[k'] == a[i])=false:=by simpa using he
     rw [qaf (s':=((n:Int),(k':Int),((i+1:Nat):Int))) (by
      simp only [qcc,if_pos e1,hin,vu7,if_pos e2,qaa g1,qaa g2,hbe,if_false,vs4,wqn i]),
      ih (i+1) k' n (by omega) (by omega) (by omega) (by omega)]
     simp only [qpf,hgt,if_true];rw [qiq g2]
   ·have e2:¬(k':Int) < (b.length:Int):=by omega
    rw [qaf (s':=((n:Int),(k':Int),((i+1:Nat):Int))) (by
     simp only [qcc,if_pos e1,hin,vu7,if_neg e2,if_false,vs4,wqn i]),
     ih (i+1) k' n (by omega) (by omega) (by omega) (by omega)]
    rw [vtg (l:=b) (by omega),q8h,q8h]
 have:=key _ 0 0 0 rfl (vww _) (vww _) (vuv _);simp only [vw7,vxj,Nat.zero_add] at this;simp only [qgu,this,vu7]
end Go.Proofs.YtmlegeeinnkhkaaGreat
namespace Go.Ab
inductive EdN {α:Type}:Nat→List α→List α→Prop
 | nil:EdN 0 [] []
 | keep {n:Nat} {a b:List α} {x:α}:EdN n a b→EdN n (a++[x]) (b++[x])
 | sub {n:Nat} {a b:List α} {x y:α}:EdN n a b→EdN (n+1) (a++[x]) (b++[y])
 | del {n:Nat} {a b:List α} {x:α}:EdN n a b→EdN (n+1) (a++[x]) b
 | ins {n:Nat} {a b:List α} {y:α}:EdN n a b→EdN (n+1) a (b++[y])
theorem EdN.len {α:Type} {n:Nat} {a b:List α} (h:EdN n a b):a.length≤b.length+n∧b.length≤a.length+n:=by
 induction h <;> simp only [vtx,vwa,vt0] at * <;> omega
def vrx {α:Type} (q:Nat) (w:List α):List (List α):=(vuf (w.length+1 - q)).map fun i=>(w.drop i).take q
theorem qnq {α:Type} (q:Nat) (w:List α) (x:α) (h:q≤w.length+1):vrx q (w++[x])=vrx q w++[(w++[x]).drop (w.length+1 - q)]:=by
 unfold vrx;rw [vtx,vwa,show w.length+1+1 - q=(w.length+1 - q)+1 by omega,vxw,vt4,vxp];congr 1
 ·apply vwc;intro i hi;rw [vwl] at hi;rw [List.drop_append_of_le_length (by omega),List.take_append_of_le_length (by rw [vty];omega)]
 ·congr 1;apply List.take_of_length_le;rw [vty,vtx,vwa];omega
def EdI {α:Type} (q n:Nat) (a b:List α):Prop :=
 q≤a.length+1∧q≤b.length+1∧∃(u v t:List α) (C X Y:List (List α)),a=u++t∧b=v++t∧t.length≤q - 1 ∧
  (vrx q a).Perm (C++X)∧(vrx q b).Perm (C++Y)∧X.length+(q - 1)≤n * q+t.length∧Y.length+(q - 1)≤n * q+t.length
theorem qnr {α:Type} {l C X:List α} (g:α) (h:l.Perm (C++X)):(l++[g]).Perm (C++(X++[g])):=by
 rw [←vtc];exact h.append_right _
theorem qzq {α:Type} {l C X:List α} (g:α) (h:l.Perm (C++X)):(l++[g]).Perm ((C++[g])++X):=by
 refine (h.append_right _).trans ?_;rw [vtc,vtc];exact (List.perm_append_comm).append_left C
theorem EdI.keep {α:Type} {q n:Nat} {a b:List α} (hq:1≤q) (x:α) (h:EdI q n a b):EdI q n (a++[x]) (b++[x]):=by
 obtain ⟨ha,hb,u,v,t,C,X,Y,ea,eb,ht,hX,hY,lX,lY⟩:=h;refine ⟨by rw [vtx];omega,by rw [vtx];omega,?_⟩;rw [qnq q a x ha,qnq q b x hb];by_cases hs:t.length=q - 1
 ·have e1:(a++[x]).drop (a.length+1 - q)=t++[x]:=by
   rw [ea,vtc];rw [show (u++t).length+1 - q=u.length by rw [vtx];omega,List.drop_left]
  have e2:(b++[x]).drop (b.length+1 - q)=t++[x]:=by
   rw [eb,vtc];rw [show (v++t).length+1 - q=v.length by rw [vtx];omega,List.drop_left]
  rw [e1,e2];refine ⟨u++(t++[x]).take 1,v++(t++[x]).take 1,(t++[x]).drop 1,C++[t++[x]],X,Y,?_,?_,?_,qzq _ hX,qzq _ hY,?_,?_⟩
  ·rw [vtc,vwp,ea,vtc]
  ·rw [vtc,vwp,eb,vtc]
  all_goals (rw [vty,vtx,vwa];omega)
 ·refine ⟨u,v,t++[x],C,X++[_],Y++[_],by rw [ea,vtc],by rw [eb,vtc],?_,qnr _ hX,qnr _ hY,?_,?_⟩
  all_goals (simp only [vtx,vwa];omega)
theorem EdI.keeps {α:Type} {q n:Nat} (hq:1≤q):∀(p:List α) {a b:List α},EdI q n a b→EdI q n (a++p) (b++p)
 | [],a,b,h=>by simpa using h
 | x :: p,a,b,h=>by
  have:=EdI.keeps hq p (h.keep hq x);simpa [vtc] using this
theorem EdI.sub {α:Type} {q n:Nat} {a b:List α} (hq:1≤q) (x y:α) (h:EdI q n a b):EdI q (n+1) (a++[x]) (b++[y]):=by
 obtain ⟨ha,hb,u,v,t,C,X,Y,ea,eb,ht,hX,hY,lX,lY⟩:=h;refine ⟨by rw [vtx];omega,by rw [vtx];omega,?_⟩;rw [qnq q a x ha,qnq q b y hb];refine ⟨a++[x],b++[y],[],C,X++[_],Y++[_],by simp,by simp,by simp,qnr _ hX,qnr _ hY,?_,?_⟩
 all_goals (simp only [vtx,vwa,vt0,vup,vu3];omega)
theorem EdI.del {α:Type} {q n:Nat} {a b:List α} (hq:1≤q) (x:α) (h:EdI q n a b):EdI q (n+1) (a++[x]) b:=by
 obtain ⟨ha,hb,u,v,t,C,X,Y,ea,eb,ht,hX,hY,lX,lY⟩:=h;refine ⟨by rw [vtx];omega,hb,?_⟩;rw [qnq q a x ha];refine ⟨a++[x],b,[],C,X++[_],Y,by simp,by simp,by simp,qnr _ hX,hY,?_,?_⟩
 all_goals (simp only [vtx,vwa,vt0,vup,vu3];omega)
theorem EdI.ins {α:Type} {q n:Nat} {a b:List α} (hq:1≤q) (y:α) (h:EdI q n a b):EdI q (n+1) a (b++[y]):=by
 obtain ⟨ha,hb,u,v,t,C,X,Y,ea,eb,ht,hX,hY,lX,lY⟩:=h;refine ⟨ha,by rw [vtx];omega,?_⟩;rw [qnq q b y hb];refine ⟨a,b++[y],[],C,X,Y++[_],by simp,by simp,by simp,hX,qnr _ hY,?_,?_⟩
 all_goals (simp only [vtx,vwa,vt0,vup,vu3];omega)
end Go.Ab
namespace Go.Proofs.YtmlegeeinnkhkaaGreat
open Go Go.Ab
end Go.Proofs.YtmlegeeinnkhkaaGreat
namespace Go.Ab
open Go
def dpN {α:Type} [DecidableEq α] (a b:List α):Nat→Nat→Nat
 | 0,k=>k
 | i+1,0=>i+1
 | i+1,k+1=>min (min (dpN a b i k+if a[i]?=b[k]? then 0 else 1) (dpN a b i (k+1)+1)) (dpN a b (i+1) k+1)
theorem vh7 {α:Type} [DecidableEq α] (a b:List α) (k:Nat):dpN a b 0 k=k:=by simp [dpN]
theorem q8k {α:Type} [DecidableEq α] (a b:List α):∀i k,dpN a b i k≤i+k
 | 0,k=>by simp [dpN]
 | i+1,0=>by simp [dpN]
 | i+1,k+1=>by
  have:=q8k a b i (k+1);simp only [dpN];omega
theorem qzr {α:Type} [DecidableEq α] (a b:List α):∀i k,i≤a.length→k≤b.length→EdN (dpN a b i k) (a.take i) (b.take k)
 | 0,0,_,_=>by simp only [dpN,vum];exact .nil
 | 0,k+1,hi,hk=>by
  have h:=qzr a b 0 k hi (by omega);have hx:b[k]?=some b[k]:=vtp (by omega);simp only [dpN,vum] at *;rw [vx4,hx];exact h.ins
 | i+1,0,hi,hk=>by
  have h:=qzr a b i 0 (by omega) hk;have hx:a[i]?=some a[i]:=vtp (by omega);have e:dpN a b i 0=i:=by cases i <;> simp [dpN]
  rw [e] at h;simp only [dpN,vum] at *;rw [vx4,hx];exact h.del
 | i+1,k+1,hi,hk=>by
  have h1:=qzr a b i k (by omega) (by omega);have h2:=qzr a b i (k+1) (by omega) hk;have h3:=qzr a b (i+1) k hi (by omega);have hx:a[i]?=some a[i]:=vtp (by omega);have hy:b[k]?=some b[k]:=vtp (by omega);have e1:a.take (i+1)=a.take i++[a[i]]:=by rw [vx4,hx];rfl
  have e2:b.take (k+1)=b.take k++[b[k]]:=by rw [vx4,hy];rfl
  have k1:EdN (dpN a b i k+if a[i]?=b[k]? then 0 else 1) (a.take (i+1)) (b.take (k+1)):=by
   rw [e1,e2];split
   ·rename_i h;rw [hx,hy] at h;rw [vwz h];exact h1.keep
   ·exact h1.sub
  have k2:EdN (dpN a b i (k+1)+1) (a.take (i+1)) (b.take (k+1)):=by rw [e1];exact h2.del
  have k3:EdN (dpN a b (i+1) k+1) (a.take (i+1)) (b.take (k+1)):=by
   rw [e2];exact h3.ins
  simp only [dpN];rcases vyb (dpN a b i k+if a[i]?=b[k]? then 0 else 1) (dpN a b i (k+1)+1) with c | c
  ·rw [vws c];rcases vyb (dpN a b i k+if a[i]?=b[k]? then 0 else 1) (dpN a b (i+1) k+1) with d | d
   ·rw [vws d];exact k1
   ·rw [vyc d];exact k3
  ·rw [vyc c];rcases vyb (dpN a b i (k+1)+1) (dpN a b (i+1) k+1) with d | d
   ·rw [vws d];exact k2
   ·rw [vyc d];exact k3
def qjz {α:Type} [DecidableEq α] (a b:List α) (i n:Nat):List Int:=(vuf n).map fun k=>((dpN a b i k:Nat):Int)
theorem q4g {α:Type} [DecidableEq α] (a b:List α) (i n:Nat):(qjz a b i n).length=n:=by simp [qjz]
theorem qs1 {α:Type} [DecidableEq α] {a b:List α} {i n k:Nat} (h:k < n):(qjz a b i n)[k]?=some ((dpN a b i k:Nat):Int):=by
 unfold qjz;rw [vts,vxn h];rfl
theorem qzs {α:Type} [DecidableEq α] (a b:List α) (i n:Nat):qjz a b i (n+1)=qjz a b i n++[((dpN a b i n:Nat):Int)]:=by
 unfold qjz;rw [vxw,vt4];rfl
end Go.Ab
namespace Go.Proofs.YtmlegeeinnkhkaaGreat
open Go Go.Ab
theorem veh {n:Nat} (h:n≤8000000000):qao n 8=true:=by
 unfold qao;simp only [decide_eq_true_eq];omega
theorem vat (b:List UInt8) (a:List UInt8) (hb:b.length≤1048576):qag (qch b) ([],0)=some (qjz a b 0 (b.length+1)):=by
 have key:∀(d k:Nat),k+d=b.length+1→qag (qch b) (qjz a b 0 k,(k:Int))=some (qjz a b 0 (b.length+1)):=by
  intro d
  induction d with
  | zero =>
   intro k hk;have e:k=b.length+1:=by omega
   subst e;have c:¬(((b.length+1:Nat):Int)≤(b.length:Int)):=by omega
   exact qad (by simp only [qch,if_neg c])
  | succ d ih =>
   intro k hk;have c:((k:Int)≤(b.length:Int)):=by omega
   have hr:qao ((qjz a b 0 k).length+1) 8=true:=veh (by rw [q4g];omega);rw [qaf (s':=(qjz a b 0 (k+1),((k+1:Nat):Int))) (by
    simp only [qch,if_pos c,hr,if_true,wqn k,qzs,vh7])]
   exact ih (k+1) (by omega)
 exact key (b.length+1) 0 (by omega)
theorem vry (x y:UInt8):((((x.toNat:Nat):Int) != ((y.toNat:Nat):Int))=true)↔¬x=y:=by
 rw [bne_iff_ne];constructor
 ·intro h e;exact h (by rw [e])
 ·intro h e;exact h (UInt8.toNat_inj.1 (by omega))
theorem min3 (x y z:Nat):(if ((z:Nat):Int) < (if ((y:Nat):Int) < ((x:Nat):Int) then ((y:Nat):Int) else ((x:Nat):Int)) then ((z:Nat):Int) else (if ((y:Nat):Int) < ((x:Nat):Int) then ((y:Nat):Int) else ((x:Nat):Int)))=((min (min x y) z:Nat):Int):=by
 split <;> split <;> omega
theorem vh8 (a b:List UInt8) (i:Nat) (hi:i < a.length) (ha:a.length≤1048576) (hb:b.length≤1048576) :
  qag (qci a b (qjz a b i (b.length+1)) (i:Int)) ([((i+1:Nat):Int)],0)=some (qjz a b (i+1) (b.length+1)):=by
 have key:∀(d k:Nat),k+d=b.length→qag (qci a b (qjz a b i (b.length+1)) (i:Int)) (qjz a b (i+1) (k+1),(k:Int))=some (qjz a b (i+1) (b.length+1)):=by
  intro d
  induction d with
  | zero =>
   intro k hk;have e:k=b.length:=by omega
   subst e;exact qad (by simp [qci])
  | succ d ih =>
   intro k hk;have hkb:k < b.length:=by omega
   have c:((k:Int) < (b.length:Int)):=by omega
   have hx:a[i]?=some a[i]:=vtp hi;have hy:b[k]?=some b[k]:=vtp hkb;have hr:qao ((qjz a b (i+1) (k+1)).length+1) 8=true:=veh (by rw [q4g];omega);have g1:idx (qjz a b i (b.length+1)) (k:Int)=some ((dpN a b i k:Nat):Int):=qaa (qs1 (by omega));have g2:idx (qjz a b i (b.length+1)) ((k+1:Nat):Int)=some ((dpN a b i (k+1):Nat):Int):=qaa (qs1 (by omega));have g3:idx (qjz a b (i+1) (k+1)) (k:Int)=some ((dpN a b (i+1) k:Nat):Int):=qaa (qs1 (by omega));have b1:=q8k a b i k;have b2:=q8k a b i (k+1);have b3:=q8k a b (i+1) k;have w:=wqn k;have w1:=qj8 (show dpN a b i k < 4611686018427387904 by omega);have w2:=qj8 (show dpN a b i (k+1) < 4611686018427387904 by omega);have w3:=qj8 (show dpN a b (i+1) k < 4611686018427387904 by omega);rw [qaf (s':=(qjz a b (i+1) (k+2),((k+1:Nat):Int))) (by
    simp only [qci,if_pos c,g1,qaa hx,qaa hy,vu7,w,g2,g3,hr,if_true,w1,w2,w3,min3];rw [qzs a b (i+1) (k+1)];by_cases h:a[i]=b[k]
    ·rw [if_neg (fun q=>(vry _ _).1 q h)];have e:dpN a b (i+1) (k+1)=min (min (dpN a b i k) (dpN a b i (k+1)+1)) (dpN a b (i+1) k+1):=by
      simp only [dpN,hx,hy,h,if_true,Nat.add_zero]
     rw [e]
    ·rw [if_pos ((vry _ _).2 h)];have e:dpN a b (i+1) (k+1)=min (min (dpN a b i k+1) (dpN a b i (k+1)+1)) (dpN a b (i+1) k+1):=by
      have:¬(some a[i]=some b[k]):=fun q=>h (vwz q)
      simp only [dpN,hx,hy,this,if_false]
     rw [e])]
   exact ih (k+1) (by omega)
 have:=key b.length 0 (by omega);have e:qjz a b (i+1) 1=[((i+1:Nat):Int)]:=by simp [qjz,dpN]
 rw [e] at this;exact this
theorem q64 (a b:List UInt8) (ha:a.length≤1048576) (hb:b.length≤1048576):qdn a b=some ((dpN a b a.length b.length:Nat):Int):=by
 have key:∀(d i:Nat),i+d=a.length→qag (qdf a b) (qjz a b i (b.length+1),(i:Int))=some (qjz a b a.length (b.length+1)):=by
  intro d
  induction d with
  | zero =>
   intro i hi;have e:i=a.length:=by omega
   subst e;exact qad (by simp [qdf])
  | succ d ih =>
   intro i hi;have c:((i:Int) < (a.length:Int)):=by omega
   rw [qaf (s':=(qjz a b (i+1) (b.length+1),((i+1:Nat):Int))) (by
    simp only [qdf,if_pos c,wqn i,vh8 a b i (by omega) ha hb,vu7])]
   exact ih (i+1) (by omega)
 have h:=key a.length 0 (by omega);simp only [vw7] at h;simp only [qdn,vat b a hb,vu7,h,qaa (qs1 (a:=a) (b:=b) (i:=a.length) (show b.length < b.length+1 by omega))]
end Go.Proofs.YtmlegeeinnkhkaaGreat
namespace Go.Ab
def sed {α:Type} [DecidableEq α]:List α→List α→Nat
 | [],b=>b.length
 | _ :: a,[]=>a.length+1
 | x :: a,y :: b=>if x=y then sed a b else 1+min (min (sed a b) (sed a (y :: b))) (sed (x :: a) b)
termination_by a b=>a.length+b.length
theorem qh2 {α:Type} [DecidableEq α] (b:List α):sed [] b=b.length:=by rw [sed]
theorem qgc {α:Type} [DecidableEq α] (a:List α):sed a []=a.length:=by cases a <;> rw [sed] <;> rfl
theorem qjp {α:Type} [DecidableEq α] (x:α) (a b:List α):sed (x :: a) (x :: b)=sed a b:=by rw [sed,if_pos rfl]
theorem qjs {α:Type} [DecidableEq α] {x y:α} (h:x≠y) (a b:List α):sed (x :: a) (y :: b)=1+min (min (sed a b) (sed a (y :: b))) (sed (x :: a) b):=by rw [sed,if_neg h]
theorem EdN.front {α:Type} {n:Nat} {a b:List α} (x:α) (h:EdN n a b):EdN n (x :: a) (x :: b):=by
 induction h with
 | nil=>exact (EdN.nil).keep (x:=x)
 | keep _ ih=>exact ih.keep
 | sub _ ih=>exact ih.sub
 | del _ ih=>exact ih.del
 | ins _ ih=>exact ih.ins
theorem EdN.subF {α:Type} {n:Nat} {a b:List α} (x y:α) (h:EdN n a b):EdN (n+1) (x :: a) (y :: b):=by
 induction h with
 | nil=>exact (EdN.nil).sub (x:=x) (y:=y)
 | keep _ ih=>exact ih.keep
 | sub _ ih=>exact ih.sub
 | del _ ih=>exact ih.del
 | ins _ ih=>exact ih.ins
theorem EdN.delF {α:Type} {n:Nat} {a b:List α} (x:α) (h:EdN n a b):EdN (n+1) (x :: a) b:=by
 induction h with
 | nil=>exact (EdN.nil).del (x:=x)
 | keep _ ih=>exact ih.keep
 | sub _ ih=>exact ih.sub
 | del _ ih=>exact ih.del
 | ins _ ih=>exact ih.ins
theorem EdN.insF {α:Type} {n:Nat} {a b:List α} (y:α) (h:EdN n a b):EdN (n+1) a (y :: b):=by
 induction h with
 | nil=>exact (EdN.nil).ins (y:=y)
 | keep _ ih=>exact ih.keep
 | sub _ ih=>exact ih.sub
 | del _ ih=>exact ih.del
 | ins _ ih=>exact ih.ins
theorem EdN.nil_any {α:Type}:∀b:List α,EdN b.length [] b
 | []=>.nil
 | y :: b=>(EdN.nil_any b).insF y
theorem EdN.any_nil {α:Type}:∀a:List α,EdN a.length a []
 | []=>.nil
 | y :: b=>(EdN.any_nil b).delF y
theorem vau (a b c:Nat):min (min a b) c=a∨min (min a b) c=b∨min (min a b) c=c:=by omega
theorem q8l {α:Type} [DecidableEq α]:∀a b:List α,EdN (sed a b) a b
 | [],b=>by rw [qh2];exact EdN.nil_any b
 | x :: a,[]=>by rw [qgc];exact EdN.any_nil (x :: a)
 | x :: a,y :: b=>by
  have h1:=q8l a b;have h2:=q8l a (y :: b);have h3:=q8l (x :: a) b;by_cases h:x=y
  ·subst h;rw [qjp];exact h1.front x
  ·rw [qjs h,Nat.add_comm];rcases vau (sed a b) (sed a (y :: b)) (sed (x :: a) b) with e | e | e
   ·rw [e];exact h1.subF x y
   ·rw [e];exact h2.delF x
   ·rw [e];exact h3.insF y
termination_by a b=>a.length+b.length
theorem q1h {α:Type} [DecidableEq α] (z:α):∀a b:List α,sed (a++[z]) b≤sed a b+1
 | [],b=>by
  induction b with
  | nil=>rw [vue,qgc,qh2];simp
  | cons y b ih =>
   rw [vue] at *;by_cases h:z=y
   ·subst h;rw [qjp,qh2,qh2,vv5];omega
   ·rw [qjs h];simp only [qh2,vv5] at *;omega
 | x :: a,[]=>by rw [qgc,qgc];simp
 | x :: a,y :: b=>by
  have h1:=q1h z a b;have h2:=q1h z a (y :: b);have h3:=q1h z (x :: a) b;rw [vvu] at *;by_cases h:x=y
  ·subst h;rw [qjp,qjp];exact h1
  ·rw [qjs h,qjs h];omega
termination_by a b=>a.length+b.length
theorem q1i {α:Type} [DecidableEq α] (z:α):∀a b:List α,sed a (b++[z])≤sed a b+1
 | [],b=>by rw [qh2,qh2];simp
 | x :: a,[]=>by
  rw [vue];by_cases h:x=z
  ·subst h;rw [qjp,qgc,qgc,vv5];omega
  ·rw [qjs h,qgc,qgc,vv5];omega
 | x :: a,y :: b=>by
  have h1:=q1i z a b;have h2:=q1i z a (y :: b);have h3:=q1i z (x :: a) b;rw [vvu] at *;by_cases h:x=y
  ·subst h;rw [qjp,qjp];exact h1
  ·rw [qjs h,qjs h];omega
termination_by a b=>a.length+b.length
theorem qs2 {α:Type} [DecidableEq α] (z:α):∀a b:List α,sed (a++[z]) (b++[z])≤sed a b
 | [],b=>by
  induction b with
  | nil=>rw [vue,qjp];exact vuv _
  | cons y b ih =>
   rw [vue] at *;rw [vvu];by_cases h:z=y
   ·subst h;rw [qjp,qh2,qh2,vv5];simp
   ·rw [qjs h];simp only [qh2,vv5] at *;omega
 | x :: a,[]=>by
  have h1:=qs2 z a [];rw [vue] at *;rw [vvu];by_cases h:x=z
  ·subst h;rw [qjp,qgc,qgc];simp
  ·rw [qjs h];simp only [qgc,vv5] at *;omega
 | x :: a,y :: b=>by
  have h1:=qs2 z a b;have h2:=qs2 z a (y :: b);have h3:=qs2 z (x :: a) b;rw [vvu,vvu] at *;by_cases h:x=y
  ·subst h;rw [qjp,qjp];exact h1
  ·rw [qjs h,qjs h];omega
termination_by a b=>a.length+b.length
theorem qxb {α:Type} [DecidableEq α] (z u:α):∀a b:List α,sed (a++[z]) (b++[u])≤sed a b+1
 | [],b=>by
  induction b with
  | nil =>
   rw [vue,vue];by_cases h:z=u
   ·subst h;rw [qjp];omega
   ·rw [qjs h];simp only [qh2];simp
  | cons y b ih =>
   rw [vue] at *;rw [vvu];by_cases h:z=y
   ·subst h;rw [qjp,qh2,qh2,vv5];simp
   ·rw [qjs h];simp only [qh2,vv5] at *;omega
 | x :: a,[]=>by
  have h1:=qxb z u a [];rw [vue] at *;rw [vvu];by_cases h:x=u
  ·subst h;rw [qjp,qgc,qgc];simp
  ·rw [qjs h];simp only [qgc,vv5] at *;omega
 | x :: a,y :: b=>by
  have h1:=qxb z u a b;have h2:=qxb z u a (y :: b);have h3:=qxb z u (x :: a) b;rw [vvu,vvu] at *;by_cases h:x=y
  ·subst h;rw [qjp,qjp];exact h1
  ·rw [qjs h,qjs h];omega
termination_by a b=>a.length+b.length
theorem vei {α:Type} [DecidableEq α] {n:Nat} {a b:List α} (h:EdN n a b):sed a b≤n:=by
 induction h with
 | nil=>rw [qh2];exact vuv _
 | keep _ ih=>exact vux (qs2 _ _ _) ih
 | sub _ ih=>exact vux (qxb _ _ _ _) (by omega)
 | del _ ih=>exact vux (q1h _ _ _) (by omega)
 | ins _ ih=>exact vux (q1i _ _ _) (by omega)
theorem qj0 {α:Type} {a u:List α} {x:α} {i:Nat} (hi:i≤a.length) (h:u++[x]=a.take i):∃j,i=j+1∧u=a.take j∧a[j]?=some x:=by
 have hl:=congrArg vxo h;rw [vtx,vt3,vwa] at hl;cases i with
 | zero=>omega
 | succ j =>
  have hx:a[j]?=some a[j]:=vtp (by omega);rw [vx4,hx] at h;have:=List.append_inj h (by rw [vt3];omega);refine ⟨j,rfl,this.1,?_⟩;rw [hx];simpa using this.2.symm
theorem vej {α:Type} [DecidableEq α] (a b:List α) {n:Nat} {u v:List α} (h:EdN n u v):∀i k,i≤a.length→k≤b.length→u=a.take i→v=b.take k→dpN a b i k≤n:=by
 induction h with
 | nil =>
  intro i k hi hk hu hv;have h1:=congrArg vxo hu;have h2:=congrArg vxo hv;rw [vt3] at h1 h2;simp only [vt0] at h1 h2;have:i=0:=by omega
  have:k=0:=by omega
  subst i;subst k;simp [dpN]
 | keep _ ih =>
  intro i k hi hk hu hv;obtain ⟨i,rfl,hu,hx⟩:=qj0 hi hu;obtain ⟨k,rfl,hv,hy⟩:=qj0 hk hv;have:=ih i k (by omega) (by omega) hu hv;simp only [dpN,hx,hy,if_true];omega
 | sub _ ih =>
  intro i k hi hk hu hv;obtain ⟨i,rfl,hu,hx⟩:=qj0 hi hu;obtain ⟨k,rfl,hv,hy⟩:=qj0 hk hv;have:=ih i k (by omega) (by omega) hu hv;have h2:(if a[i]?=b[k]? then 0 else 1)≤1:=by split <;> omega
  simp only [dpN];omega
 | del _ ih =>
  intro i k hi hk hu hv;obtain ⟨i,rfl,hu,hx⟩:=qj0 hi hu;have:=ih i k (by omega) hk hu hv;cases k with
  | zero=>cases i <;> simp only [dpN] at * <;> omega
  | succ k=>simp only [dpN];omega
 | ins _ ih =>
  intro i k hi hk hu hv;obtain ⟨k,rfl,hv,hx⟩:=qj0 hk hv;have:=ih i k hi (by omega) hu hv;cases i with
  | zero=>simp only [dpN] at *;omega
  | succ i=>simp only [dpN];omega
theorem vmv {α:Type} [DecidableEq α] (a b:List α):sed a b=dpN a b a.length b.length:=by
 have h1:=qzr a b a.length b.length (vuv _) (vuv _);rw [vx5,vx5] at h1;have h2:=vei h1;have h3:=vej a b (q8l a b) a.length b.length (vuv _) (vuv _) vx5.symm vx5.symm;omega
end Go.Ab
namespace Go.Ab
open Go
theorem qp6 {n:Int} (h1:0≤n) (h2:n≤18446744073709551615):vxe.wrap n=n:=by
 simp only [IntKind.wrap,IntKind.signed,IntKind.bits];simp only [Bool.false_and,vs4,if_false];rw [show ((2:Int) ^ 64)=18446744073709551616 from rfl];omega
theorem vh9 {a:Nat} (ha:a < 4294967296):vxd.wrap ((BitVec.ofInt 32 (a:Int) &&& (1#32)).toNat:Int)=((a % 2:Nat):Int):=by
 rw [bv_lt,BitVec.toNat_and,vp4 ha];congr 1;have:(1#32).toNat=1:=rfl;rw [this,Nat.and_one_is_mod]
theorem vrz {i:Nat} (h:i < 32):2 ^ i < 4294967296:=Nat.pow_lt_pow_right (by omega) h
theorem vib {i:Nat} (h:i < 32):vxd.wrap (1 * 2 ^ (min i 32))=((2 ^ i:Nat):Int):=by
 rw [vws (by omega),Int.one_mul];have:((2:Int) ^ i)=((2 ^ i:Nat):Int):=by simp
 rw [this];have h2:=vrz h;generalize 2 ^ i=p at h2 ⊢;exact q72 (by omega) (by omega)
theorem vmw (a i:Nat):(((a / 2 ^ i % 2:Nat):Int) == 1)=a.testBit i:=by
 rw [Nat.testBit_eq_decide_div_mod_eq,vw3];simp only [beq_iff_eq,decide_eq_true_eq];omega
theorem vmx {a:Nat} (ha:a < 4294967296) {i:Nat} (hi:i≤32):((vxd.wrap ((BitVec.ofInt 32 (vw5 (a:Int) (2 ^ (min i 32))) &&& (1#32)).toNat:Int)) == 1)=a.testBit i:=by
 rw [vws hi,q0y,vh9 (Nat.lt_of_le_of_lt (vx6 _ _) ha),vmw]
theorem vmy {a n:Nat} (h:∀i,n≤i→a.testBit i=false):a < 2 ^ n:=Nat.lt_pow_two_of_testBit a h
theorem vr0 {a n i:Nat} (h:a < 2 ^ n) (hi:n≤i):a.testBit i=false:=Nat.testBit_lt_two_pow (Nat.lt_of_lt_of_le h (Nat.pow_le_pow_right (by omega) hi))
end Go.Ab
namespace Go.Proofs.YtmlegeeinnkhkaaGreat
open Go Go.Ab
def qns (n d:Nat):Ratio:=⟨((n / vx7 n d:Nat):Int),((d / vx7 n d:Nat):Int)⟩
theorem dmod {b y d c:Nat} (h:c+b * d=y) (hc:c < b):y / b=d∧y % b=c:=(Nat.div_mod_unique (by omega)).2 ⟨h,hc⟩
theorem qs3 (n:Nat) (h:n < 4611686018427387904):qno (n:Int)=some (n:Int):=by
 simp only [qno];rw [if_neg (by omega),qp6 (by omega) (by omega)]
theorem qyj:∀(b a:Nat),qag qkc ((a:Int),(b:Int))=some ((vx7 a b:Nat):Int):=by
 intro b
 induction b using vwt with
 | ind b ih =>
  intro a;by_cases hb:b=0
  ·subst hb;rw [qad (t:=(a:Int)) (by simp [qkc]),vya]
  ·have h1:((b:Int) > 0):=by omega
   have h2:¬((b:Int)=0):=by omega
   have e:vxa (a:Int) (b:Int)=((a % b:Nat):Int):=by rw [vw8]
   rw [qaf (s':=((b:Int),((a % b:Nat):Int))) (by simp only [qkc,if_pos h1,if_neg h2,e]),ih (a % b) (vu0 _ (by omega)) b];rw [vx8 a b,Nat.gcd_rec b a,vx8]
theorem q1j (a b:Nat):qo9 (a:Int) (b:Int)=some ((vx7 a b:Nat):Int):=by
 simp only [qo9,qyj,vu7]
theorem vic (a b:Nat):vw9 (a:Int) (b:Int)=((a / b:Nat):Int):=Int.ofNat_tdiv a b
theorem qm3 (n d:Nat) (hn:n < 4611686018427387904) (hd:0 < d) (hd':d < 4611686018427387904):qi5 (n:Int) (d:Int)=some (qns n d,0):=by
 have hg:0 < vx7 n d:=vx9 _ hd;have h0:((d:Int) == 0)=false:=by simp;omega
 have hdn:n / vx7 n d≤n:=vx6 _ _;have hdd:d / vx7 n d≤d:=vx6 _ _;have hg0:¬((vx7 n d:Nat):Int)=0:=by omega
 have e1:(decide ((n:Int) < 0))=false:=by simp
 have e2:(decide ((d:Int) < 0))=false:=by simp
 simp only [qi5,h0,vs4,if_false,qs3 n hn,qs3 d hd',vu7,q1j,if_neg hg0,vic,e1,e2,qns];generalize n / vx7 n d=p at *;generalize d / vx7 n d=q at *;rw [qp6 (n:=(p:Int)) (by omega) (by omega),qp6 (n:=(q:Int)) (by omega) (by omega)];have c1:¬((p:Int) > 9223372036854775807):=by omega
 have c2:¬((q:Int) > 9223372036854775807):=by omega
 simp only [qvo,if_neg c1,if_neg c2,beq_self_eq_true,Bool.not_true,vs4,if_false,vu7];rw [qax (n:=(p:Int)) (by omega) (by omega),qax (n:=(q:Int)) (by omega) (by omega)]
theorem qxc (a:Nat) (h:a < 4611686018427387904):qcy ⟨0,(a:Int)⟩ ⟨0,(a:Int)⟩=some ⟨0,((2 * a:Nat):Int)⟩:=by
 have e1:vl1 (a:Int) (a:Int) 0=some (((2 * a:Nat):Int),0):=by
  unfold vl1;rw [if_pos (by omega)];congr 2 <;> omega
 have e2:vl1 0 0 0=some (0,0):=by decide
 simp only [qcy,e1,e2,vu7]
theorem vav (a b:Nat) (h:a < 9223372036854775808) (hb:b≤a):qfn ⟨0,(a:Int)⟩ ⟨0,(b:Int)⟩=some ⟨0,((a - b:Nat):Int)⟩:=by
 have e1:subF (a:Int) (b:Int) 0=some (((a - b:Nat):Int),0):=by
  unfold subF;rw [if_pos (by omega),if_neg (by omega)];congr 2;omega
 have e2:subF 0 0 0=some (0,0):=by decide
 simp only [qfn,e1,e2,vu7]
theorem qxd (a b:Nat):qcm ⟨0,(a:Int)⟩ ⟨0,(b:Int)⟩=some (decide (a < b)):=by
 simp only [qcm];rw [if_neg (by omega),if_pos (by rfl)];simp
theorem q65 (a b k:Nat) (hb:0 < b) (hk:64≤k) (hk':k < 128):qbm ⟨0,(a:Int)⟩ ⟨0,(b:Int)⟩ (⟨0,0⟩,⟨0,0⟩,(k:Int))=some (.next (⟨0,0⟩,⟨0,0⟩,(k:Int) - 1)):=by
 have h1:(k:Int)≥0:=by omega
 have h2:(k:Int)≥64:=by omega
 have h3:vxa (k:Int) 64=((k % 64:Nat):Int):=vw8 k 64;have h4:¬((k % 64:Nat):Int) < 0:=by omega
 have h5:qcy ⟨0,0⟩ ⟨0,0⟩=some ⟨0,0⟩:=qxc 0 (by omega);have h6:vxe.wrap ((0:Int)+(vxa (vw5 0 (2 ^ (min (((k % 64:Nat):Int)).toNat 64))) 2))=0:=by rw [Int.zero_fdiv];rfl
 have h7:qcm ⟨0,0⟩ ⟨0,(b:Int)⟩=some true:=by
  have:=qxd 0 b;rw [show decide (0 < b)=true by simp [hb]] at this;exact this
 have h8:vxc.wrap ((k:Int) - 1)=(k:Int) - 1:=qax (by omega) (by omega);simp only [qbm,if_pos h1,if_pos h2,h3,if_neg h4,h5,vu7,h6,h7,if_true,h8]
theorem q0y (a k:Nat):vw5 (a:Int) (2 ^ k)=((a / 2 ^ k:Nat):Int):=by
 have e:(2:Int) ^ k=((2 ^ k:Nat):Int):=by simp
 rw [e];exact (Int.ofNat_fdiv a (2 ^ k)).symm
theorem q66 (a b k:Nat) (ha:a < 4611686018427387904) (hb:0 < b) (hb':b < 2305843009213693952) (hk:k < 64) :
  qbm ⟨0,(a:Int)⟩ ⟨0,(b:Int)⟩ (⟨0,((a / 2 ^ (k+1) / b:Nat):Int)⟩,⟨0,((a / 2 ^ (k+1) % b:Nat):Int)⟩,(k:Int)) =
   some (.next (⟨0,((a / 2 ^ k / b:Nat):Int)⟩,⟨0,((a / 2 ^ k % b:Nat):Int)⟩,(k:Int) - 1)):=by
 have h1:(k:Int)≥0:=by omega
 have h2:¬(k:Int)≥64:=by omega
 have h3:vxa (k:Int) 64=(k:Int):=by
  have:vxa (k:Int) 64=((k % 64:Nat):Int):=vw8 k 64;rw [this];omega
 have h4:¬(k:Int) < 0:=by omega
 have hx:a / 2 ^ k=2 * (a / 2 ^ (k+1))+a / 2 ^ k % 2:=by
  rw [Nat.pow_succ,←Nat.div_div_eq_div_mul];omega
 have hy:a / 2 ^ k≤a:=vx6 _ _;have hbit:vxa (vw5 (a:Int) (2 ^ (min ((k:Int)).toNat 64))) 2=((a / 2 ^ k % 2:Nat):Int):=by
  rw [vxb,vws (by omega),q0y];exact vw8 _ 2
 have hbit2:a / 2 ^ k % 2 < 2:=vu0 _ (by omega);generalize a / 2 ^ k % 2=bit at *;generalize a / 2 ^ k=y at *;generalize a / 2 ^ (k+1)=x at *;have hr:x % b < b:=vu0 _ hb;have hq:x / b≤x:=vx6 _ _;have hm:=Nat.mod_add_div x b;have p1:=qxc (x % b) (by omega);have p2:=qxc (x / b) (by omega);have h6:vxe.wrap (((2 * (x % b):Nat):Int)+(bit:Int))=((2 * (x % b)+bit:Nat):Int):=by
  rw [←Int.natCast_add];exact qp6 (by omega) (by omega)
 have h7:vxe.wrap (((2 * (x / b):Nat):Int)+1)=((2 * (x / b)+1:Nat):Int):=by
  rw [qp6 (by omega) (by omega)];omega
 have h8:vxc.wrap ((k:Int) - 1)=(k:Int) - 1:=qax (by omega) (by omega);simp only [qbm,if_pos h1,if_neg h2,h3,if_neg h4,p1,p2,vu7,hbit,h6,h7,h8,qxd];have hmul:b * (2 * (x / b))=2 * (b * (x / b)):=by rw [Nat.mul_left_comm]
 by_cases hl:2 * (x % b)+bit < b
 ·obtain ⟨e1,e2⟩:=dmod (b:=b) (y:=y) (d:=2 * (x / b)) (c:=2 * (x % b)+bit) (by rw [hmul];omega) hl;simp only [hl,decide_true,if_true,e1,e2]
 ·obtain ⟨e1,e2⟩:=dmod (b:=b) (y:=y) (d:=2 * (x / b)+1) (c:=2 * (x % b)+bit - b) (by rw [Nat.mul_add,hmul,Nat.mul_one];omega) (by omega);have m1:=vav (2 * (x % b)+bit) b (by omega) (by omega);simp only [hl,decide_false,vs4,if_false,m1,vu7,e1,e2]
theorem q1k (a b:Nat) (ha:a < 4611686018427387904) (hb:0 < b) (hb':b < 2305843009213693952):qed ⟨0,(a:Int)⟩ ⟨0,(b:Int)⟩=some (⟨0,((a / b:Nat):Int)⟩,⟨0,((a % b:Nat):Int)⟩):=by
 have low:∀k:Nat,k≤64→qag (qbm ⟨0,(a:Int)⟩ ⟨0,(b:Int)⟩) (⟨0,((a / 2 ^ k / b:Nat):Int)⟩,⟨0,((a / 2 ^ k % b:Nat):Int)⟩,(k:Int) - 1)=some (⟨0,((a / b:Nat):Int)⟩,⟨0,((a % b:Nat):Int)⟩):=by
  intro k
  induction k with
  | zero =>
   intro _;rw [Nat.pow_zero,Nat.div_one];exact qad (by simp [qbm])
  | succ k ih =>
   intro hk;have e:((k+1:Nat):Int) - 1=(k:Int):=by omega
   rw [e,qaf (q66 a b k ha hb hb' (by omega))];exact ih (by omega)
 have hz:a / 2 ^ 64=0:=Nat.div_eq_of_lt (by omega);have high:∀k:Nat,k≤64→qag (qbm ⟨0,(a:Int)⟩ ⟨0,(b:Int)⟩) (⟨0,0⟩,⟨0,0⟩,((64+k:Nat):Int) - 1)=some (⟨0,((a / b:Nat):Int)⟩,⟨0,((a % b:Nat):Int)⟩):=by
  intro k
  induction k with
  | zero =>
   intro _;have:=low 64 (vuv _);rw [hz,Nat.zero_div,Nat.zero_mod] at this;exact this
  | succ k ih =>
   intro hk;have e:((64+(k+1):Nat):Int) - 1=((64+k:Nat):Int):=by omega
   rw [e,qaf (q65 a b (64+k) hb (by omega) (by omega))];exact ih (by omega)
 have:=high 64 (vuv _);simp only [qed];rw [show (127:Int)=((64+64:Nat):Int) - 1 by omega,this];rfl
theorem vaw:∀(b a:Nat),a < 2305843009213693952→b < 2305843009213693952→qag qfa (⟨0,(a:Int)⟩,⟨0,(b:Int)⟩)=some ⟨0,((vx7 a b:Nat):Int)⟩:=by
 intro b
 induction b using vwt with
 | ind b ih =>
  intro a ha hb;by_cases hz:b=0
  ·subst hz;rw [qad (t:=⟨0,(a:Int)⟩) (by simp [qfa,qgs]),vya]
  ·have h1:qgs ⟨0,(b:Int)⟩=some false:=by
    simp only [qgs];rw [if_pos (by rfl)];congr 1;simp;omega
   rw [qaf (s':=(⟨0,(b:Int)⟩,⟨0,((a % b:Nat):Int)⟩)) (by simp only [qfa,h1,vu7,vs4,if_false,q1k a b (by omega) (by omega) hb]),ih (a % b) (vu0 _ (by omega)) b hb (Nat.lt_trans (vu0 _ (by omega)) hb)];rw [vx8 a b,Nat.gcd_rec b a,vx8]
theorem q4h (n d:Nat) (hn:n < 2305843009213693952) (hd:0 < d) (hd':d < 2305843009213693952):qhr (n:Int) (d:Int)=some (qns n d,0):=by
 have hg:0 < vx7 n d:=vx9 _ hd;have hgd:vx7 n d≤d:=Nat.gcd_le_right _ hd;have h0:((d:Int) == 0)=false:=by simp;omega
 have hdn:n / vx7 n d≤n:=vx6 _ _;have hdd:d / vx7 n d≤d:=vx6 _ _;have e1:(decide ((n:Int) < 0))=false:=by simp
 have e2:(decide ((d:Int) < 0))=false:=by simp
 have s1:∀m:Nat,m < 2305843009213693952→qgt (m:Int)=some ⟨0,(m:Int)⟩:=by
  intro m hm;simp only [qgt];rw [if_neg (by omega),qp6 (by omega) (by omega)]
 have l1:∀m:Nat,m < 2305843009213693952→qcm ⟨0,9223372036854775807⟩ ⟨0,(m:Int)⟩=some false:=by
  intro m hm;have:=qxd 9223372036854775807 m;rw [show decide (9223372036854775807 < m)=false by simp;omega] at this;exact this
 simp only [qhr,h0,vs4,if_false,s1 n hn,s1 d hd',vu7,qit,vaw d n hn hd',q1k n _ (by omega) hg (by omega),q1k d _ (by omega) hg (by omega),l1 _ (show n / vx7 n d < 2305843009213693952 by omega),l1 _ (show d / vx7 n d < 2305843009213693952 by omega),e1,e2,beq_self_eq_true,Bool.not_true];simp only [qns];generalize n / vx7 n d=p at *;generalize d / vx7 n d=q at *;rw [qax (n:=(p:Int)) (by omega) (by omega),qax (n:=(q:Int)) (by omega) (by omega)]
theorem qt6 (n d:Nat) (hn:n < 2305843009213693952) (hd:0 < d) (hd':d < 2305843009213693952):qdx (n:Int) (d:Int)=some (qns n d):=by
 simp only [qdx,q4h n d hn hd hd',vu7];rfl
theorem q1l:∀a b:List UInt8,qrl a b < 0↔ltS a b=true
 | [],[]=>by simp [qrl,ltS,List.lt_irrefl]
 | [],y :: b=>by simp [qrl,ltS]
 | x :: a,[]=>by simp [qrl,ltS]
 | x :: a,y :: b=>by
  simp only [qrl,ltS,decide_eq_true_eq,vxh];by_cases h:x=y
  ·subst h;have:=q1l a b;simp only [ltS,decide_eq_true_eq] at this;simp [this,UInt8.lt_irrefl]
  ·rw [if_neg h,vru];simp only [h,false_and,or_false,UInt8.lt_iff_toNat_lt];omega
theorem vek (a b:List UInt8):0 < qrl a b↔ltS b a=true:=by
 rw [←q1l b a,q8g a b];omega
theorem drop1 {α:Type} (x:α) (l:List α):(((x :: l).drop 1).take ((x :: l).length - 1))=l:=by simp
theorem vel:∀(m:Nat) (a b:List Str) (n:Nat),a.length+b.length=m→n+a.length≤1000000→qag qca (a,b,(n:Int))=some ((n+qpf ltS a b:Nat):Int):=by
 intro m
 induction m using vwt with
 | ind m ih =>
  intro a b n hm hn;cases a with
  | nil=>rw [qad (t:=(n:Int)) (by simp [qca])];simp [qpf]
  | cons x a =>
   cases b with
   | nil=>rw [qad (t:=(n:Int)) (by simp [qca])];simp [qpf]
   | cons y b =>
    have c1:((x :: a).length:Int) > 0:=by simp only [vv5];omega
    have c2:((y :: b).length:Int) > 0:=by simp only [vv5];omega
    have c3:(1:Int)≤((x :: a).length:Int):=by simp only [vv5];omega
    have c4:(1:Int)≤((y :: b).length:Int):=by simp only [vv5];omega
    have g1:(x :: a)[0]?=some x:=rfl;have g2:(y :: b)[0]?=some y:=rfl;have w:=wqn n;have hB:qca (x :: a,y :: b,(n:Int))=if qrl x y < 0 then some (.next (a,y :: b,(n:Int))) else if qrl x y > 0 then some (.next (x :: a,b,(n:Int))) else some (.next (a,b,((n+1:Nat):Int))):=by
     simp only [qca,if_pos c1,if_pos c2,if_pos c3,if_pos c4,g1,g2,vu7,qsy,drop1,w]
    simp only [vv5] at hm hn;by_cases h1:qrl x y < 0
    ·rw [if_pos h1] at hB;have l1:=(q1l x y).1 h1;rw [qaf hB,ih _ (by simp only [vv5];omega) a (y :: b) n rfl (by omega)];simp only [qpf,l1,if_true]
    ·rw [if_neg h1] at hB;have l1:ltS x y=false:=by
      rcases vw2 (ltS x y) with h | h
      ·exact absurd ((q1l x y).2 h) h1
      ·exact h
     by_cases h2:qrl x y > 0
     ·rw [if_pos h2] at hB;have l2:=(vek x y).1 h2;rw [qaf hB,ih _ (by simp only [vv5];omega) (x :: a) b n rfl (by simp only [vv5];omega)];simp only [qpf,l1,l2,if_true,if_false,vs4]
     ·rw [if_neg h2] at hB;have l2:ltS y x=false:=by
       rcases vw2 (ltS y x) with h | h
       ·exact absurd ((vek x y).2 h) h2
       ·exact h
      rw [qaf hB,ih _ (by omega) a b (n+1) rfl (by omega)];simp only [qpf,l1,l2,if_false,vs4];congr 2;omega
theorem qyk (l:List Str) (f:Str→Option Bool) (p:Str→Bool) (hf:∀x∈l,f x=some (p x)) (hl:l.length≤1073741824):qb1 l f=some (q61 (l.findIdx? p)):=by
 have h:=qi7 l (qas l f) p
  (fun k x hx hk hp=>by simp [qas,qaj hx,qaa hx,hf x (vt9 hx),hp,qbj hk (show l.length≤4611686018427387904 by omega)])
  (fun k x hx hp=>by simp [qas,qaj hx,qaa hx,hf x (vt9 hx),hp])
  (by simp [qas])
 simp only [qb1,h,vu7];cases l.findIdx? p <;> rfl
theorem qyl (l:List Int) (f:Int→Option Bool) (p:Int→Bool) (hf:∀x∈l,f x=some (p x)) (hl:l.length≤1073741824):qei l f=some (q61 (l.findIdx? p)):=by
 have h:=qi7 l (qb3 l f) p
  (fun k x hx hk hp=>by simp [qb3,qaj hx,qaa hx,hf x (vt9 hx),hp,qbj hk (show l.length≤4611686018427387904 by omega)])
  (fun k x hx hp=>by simp [qb3,qaj hx,qaa hx,hf x (vt9 hx),hp])
  (by simp [qb3])
 simp only [qei,h,vu7];cases l.findIdx? p <;> rfl
theorem qym (l:List (List Similar)) (f:List Similar→Option Bool) (p:List Similar→Bool) (hf:∀x∈l,f x=some (p x)) (hl:l.length≤1073741824):qcp l f=some (q61 (l.findIdx? p)):=by
 have h:=qi7 l (qbg l f) p
  (fun k x hx hk hp=>by simp [qbg,qaj hx,qaa hx,hf x (vt9 hx),hp,qbj hk (show l.length≤4611686018427387904 by omega)])
  (fun k x hx hp=>by simp [qbg,qaj hx,qaa hx,hf x (vt9 hx),hp])
  (by simp [qbg])
 simp only [qcp,h,vu7];cases l.findIdx? p <;> rfl
theorem qyn (l:List Similar) (f:Similar→Option Bool) (p:Similar→Bool) (hf:∀x∈l,f x=some (p x)) (hl:l.length≤1073741824):qb9 l f=some (q61 (l.findIdx? p)):=by
 have h:=qi7 l (qa7 l f) p
  (fun k x hx hk hp=>by simp [qa7,qaj hx,qaa hx,hf x (vt9 hx),hp,qbj hk (show l.length≤4611686018427387904 by omega)])
  (fun k x hx hp=>by simp [qa7,qaj hx,qaa hx,hf x (vt9 hx),hp])
  (by simp [qa7])
 simp only [qb9,h,vu7];cases l.findIdx? p <;> rfl
theorem qj1 (l:List Int) (f:Int→Option Bool) (p:Int→Bool) (hf:∀x∈l,f x=some (p x)) (hl:l.length≤1073741824):qa2 l f=some (l.any p):=by
 simp only [qa2,qyl l f p hf hl,vu7];exact congrArg some (qvp p l)
theorem qt7 (l:List Similar) (f:Similar→Option Bool) (p:Similar→Bool) (hf:∀x∈l,f x=some (p x)) (hl:l.length≤1073741824):qbh l f=some (l.any p):=by
 simp only [qbh,qyn l f p hf hl,vu7];exact congrArg some (qvp p l)
theorem vem (a b:Str) (ha:a.length≤200) (hb:b.length≤200):qcv [a,b]=some false:=by
 simp only [qcv,qb8,qyk [a,b] (fun y=>qco y) (fun x=>decide ((x.length:Int) > 200)) (fun _ _=>rfl) (by simp),vu7];have h1:¬((a.length:Int) > 200):=by omega
 have h2:¬((b.length:Int) > 200):=by omega
 simp [vxk,h1,h2,q61]
def qu4 (a b:Str) (i j:Nat):List Int:=(vuf (b.length+1)).map fun k=>if j≤k then ((sed (a.drop i) (b.drop k):Nat):Int) else 0
def qu5 (a b:Str) (i j:Nat):List (List Int):=(vuf (a.length+1)).map fun k=>if i < k then qu4 a b k 0 else if i=k then qu4 a b k j else vuh (b.length+1) 0
theorem ven {α:Type} [DecidableEq α]:∀a b:List α,sed a b≤a.length+b.length
 | [],b=>by rw [qh2];simp
 | x :: a,[]=>by rw [qgc];simp
 | x :: a,y :: b=>by
  have h1:=ven a b;have h2:=ven a (y :: b);by_cases h:x=y
  ·subst h;rw [qjp];simp only [vv5];omega
  ·rw [qjs h];simp only [vv5] at *;omega
termination_by a b=>a.length+b.length
theorem q1m (a b:Str) (i j:Nat):(qu4 a b i j).length=b.length+1:=by simp [qu4]
theorem qp7 (a b:Str) (i j:Nat):(qu5 a b i j).length=a.length+1:=by simp [qu5]
theorem qmp {a b:Str} {i j k:Nat} (h:k≤b.length):(qu4 a b i j)[k]?=some (if j≤k then ((sed (a.drop i) (b.drop k):Nat):Int) else 0):=by
 simp only [qu4,vts,vxn (show k < b.length+1 by omega),vvc]
theorem qmq {a b:Str} {i j k:Nat} (h:k≤a.length):(qu5 a b i j)[k]?=some (if i < k then qu4 a b k 0 else if i=k then qu4 a b k j else vuh (b.length+1) 0):=by
 simp only [qu5,vts,vxn (show k < a.length+1 by omega),vvc]
theorem vid (a b:Str) (i:Nat):qu4 a b i (b.length+1)=vuh (b.length+1) 0:=by
 refine vtj fun k=>?_
 by_cases h:k≤b.length
 ·rw [qmp h,vtu,if_neg (by omega),if_pos (by omega)]
 ·simp only [qu4,vts,vtq (show (vuf (b.length+1)).length≤k by simp;omega),vtu];rw [if_neg (by omega)];rfl
theorem vie {a b:Str} {i j:Nat} (h:j≤b.length):(qu4 a b i (j+1)).set j ((sed (a.drop i) (b.drop j):Nat):Int)=qu4 a b i j:=by
 refine vtj fun k=>?_
 rw [vv1];by_cases hk:k≤b.length
 ·rw [qmp hk,qmp hk,q1m];by_cases e:j=k
  ·subst e;simp;omega
  ·rw [if_neg e];congr 1;by_cases hjk:j≤k
   ·rw [if_pos hjk,if_pos (by omega)]
   ·rw [if_neg hjk,if_neg (by omega)]
 ·have h1:(qu4 a b i (j+1))[k]?=none:=vtq (by rw [q1m];omega);have h2:(qu4 a b i j)[k]?=none:=vtq (by rw [q1m];omega);rw [if_neg (by omega),h1,h2]
theorem vif {a b:Str} {i j:Nat} (hi:i≤a.length) (h:j≤b.length):(qu5 a b i (j+1)).set i (qu4 a b i j)=qu5 a b i j:=by
 refine vtj fun k=>?_
 rw [vv1];by_cases hk:k≤a.length
 ·rw [qmq hk,qmq hk,qp7];by_cases e:i=k
  ·subst e;simp;omega
  ·rw [if_neg e];simp [e]
 ·have h1:(qu5 a b i (j+1))[k]?=none:=vtq (by rw [qp7];omega);have h2:(qu5 a b i j)[k]?=none:=vtq (by rw [qp7];omega);rw [if_neg (by omega),h1,h2]
theorem veo {a b:Str} {i:Nat}:qu5 a b (i+1) 0=qu5 a b i (b.length+1):=by
 refine vtj fun k=>?_
 by_cases hk:k≤a.length
 ·rw [qmq hk,qmq hk];congr 1;by_cases h1:i+1 < k
  ·rw [if_pos h1,if_pos (by omega)]
  ·rw [if_neg h1];by_cases h2:i+1=k
   ·subst h2;rw [if_pos rfl,if_pos (by omega)]
   ·rw [if_neg h2,if_neg (by omega)];by_cases h3:i=k
    ·rw [if_pos h3,vid]
    ·rw [if_neg h3]
 ·have h1:(qu5 a b (i+1) 0)[k]?=none:=vtq (by rw [qp7];omega);have h2:(qu5 a b i (b.length+1))[k]?=none:=vtq (by rw [qp7];omega);rw [h1,h2]
theorem q8m {α:Type} (l:List α):l.drop l.length=[]:=List.drop_length
theorem vax (a b:Str) (ha:a.length≤200) (hb:b.length≤200) (i:Nat) (hi:i≤a.length):∀(j:Nat),j≤b.length+1→qag (qa8 a b (i:Int)) (qu5 a b i j,(j:Int) - 1)=some (qu5 a b i 0):=by
 intro j
 induction j with
 | zero=>intro _;exact qad (by simp [qa8])
 | succ j ih =>
  intro hj;have hj':j≤b.length:=by omega
  have e0:(((j+1:Nat):Int) - 1)=(j:Int):=by omega
  have c0:(j:Int)≥0:=by omega
  have gi:idx (qu5 a b i (j+1)) (i:Int)=some (qu4 a b i (j+1)):=by
   rw [qaa (qmq hi)];simp
  have gj:∀v,(qu4 a b i (j+1))[j]?=some v→idx (qu4 a b i (j+1)) (j:Int)=some v:=fun v h=>qaa h
  have gj0:idx (qu4 a b i (j+1)) (j:Int)=some 0:=by rw [qaa (qmp hj'),if_neg (by omega)]
  have wj:vxc.wrap ((j:Int) - 1)=(j:Int) - 1:=qax (by omega) (by omega);have wi:=wqn i;have wj1:=wqn j;rw [e0];refine (qaf (s':=(qu5 a b i j,(j:Int) - 1)) ?_).trans (ih (by omega));have key:∀v:Int,v=((sed (a.drop i) (b.drop j):Nat):Int)→(qu5 a b i (j+1)).set (i:Int).toNat ((qu4 a b i (j+1)).set (j:Int).toNat v)=qu5 a b i j:=by
   intro v hv;rw [hv,vxb,vxb,vie hj',vif hi hj']
  by_cases h1:i=a.length
  ·have c1:((i:Int) == (a.length:Int))=true:=by simp [h1]
   have hv:vxc.wrap ((b.length:Int) - (j:Int))=((sed (a.drop i) (b.drop j):Nat):Int):=by
    rw [qax (by omega) (by omega),h1,q8m,qh2,vty];omega
   simp only [qa8,if_pos c0,c1,if_true,gi,vu7,gj0,key _ hv,wj]
  ·have c1:((i:Int) == (a.length:Int))=false:=by simp;omega
   by_cases h2:j=b.length
   ·have c2:((j:Int) == (b.length:Int))=true:=by simp [h2]
    have hv:vxc.wrap ((a.length:Int) - (i:Int))=((sed (a.drop i) (b.drop j):Nat):Int):=by
     rw [qax (by omega) (by omega),h2,q8m,qgc,vty];omega
    simp only [qa8,if_pos c0,c1,c2,if_true,vs4,if_false,gi,vu7,gj0,key _ hv,wj]
   ·have c2:((j:Int) == (b.length:Int))=false:=by simp;omega
    have hia:i < a.length:=by omega
    have hjb:j < b.length:=by omega
    have ga:a[i]?=some a[i]:=vtp hia;have gb:b[j]?=some b[j]:=vtp hjb;have da:=qiq ga;have db:=qiq gb;have gi1:idx (qu5 a b i (j+1)) ((i+1:Nat):Int)=some (qu4 a b (i+1) 0):=by
     rw [qaa (qmq (show i+1≤a.length by omega))];simp
    have r1:idx (qu4 a b (i+1) 0) ((j+1:Nat):Int)=some ((sed (a.drop (i+1)) (b.drop (j+1)):Nat):Int):=by
     rw [qaa (qmp (show j+1≤b.length by omega))];simp
    have r2:idx (qu4 a b (i+1) 0) (j:Int)=some ((sed (a.drop (i+1)) (b.drop j):Nat):Int):=by
     rw [qaa (qmp hj')];simp
    have r3:idx (qu4 a b i (j+1)) ((j+1:Nat):Int)=some ((sed (a.drop i) (b.drop (j+1)):Nat):Int):=by
     rw [qaa (qmp (show j+1≤b.length by omega))];simp
    by_cases h:a[i]=b[j]
    ·have c3:(((a[i].toNat:Nat):Int) == ((b[j].toNat:Nat):Int))=true:=by simp [h]
     have hv:((sed (a.drop (i+1)) (b.drop (j+1)):Nat):Int)=((sed (a.drop i) (b.drop j):Nat):Int):=by
      rw [da,db,h,qjp]
     simp only [qa8,if_pos c0,c1,c2,c3,if_true,vs4,if_false,qaa ga,qaa gb,gi,vu7,gj0,wi,wj1,gi1,r1,key _ hv,wj]
    ·have c3:(((a[i].toNat:Nat):Int) == ((b[j].toNat:Nat):Int))=false:=by
      rw [beq_eq_false_iff_ne];exact fun e=>h (UInt8.toNat_inj.1 (by omega))
     have hle:=ven (a.drop i) (b.drop j);simp only [vty] at hle;have hs:sed (a.drop i) (b.drop j)=1+min (min (sed (a.drop (i+1)) (b.drop (j+1))) (sed (a.drop (i+1)) (b.drop j))) (sed (a.drop i) (b.drop (j+1))):=by
      rw [da,db,qjs h,←da,←db]
     have hv:vxc.wrap (1+(if ((sed (a.drop i) (b.drop (j+1)):Nat):Int) < (if ((sed (a.drop (i+1)) (b.drop j):Nat):Int) < ((sed (a.drop (i+1)) (b.drop (j+1)):Nat):Int) then ((sed (a.drop (i+1)) (b.drop j):Nat):Int) else ((sed (a.drop (i+1)) (b.drop (j+1)):Nat):Int)) then ((sed (a.drop i) (b.drop (j+1)):Nat):Int) else (if ((sed (a.drop (i+1)) (b.drop j):Nat):Int) < ((sed (a.drop (i+1)) (b.drop (j+1)):Nat):Int) then ((sed (a.drop (i+1)) (b.drop j):Nat):Int) else ((sed (a.drop (i+1)) (b.drop (j+1)):Nat):Int))))=((sed (a.drop i) (b.drop j):Nat):Int):=by
      rw [min3,hs];rw [hs] at hle;generalize min (min (sed (a.drop (i+1)) (b.drop (j+1))) (sed (a.drop (i+1)) (b.drop j))) (sed (a.drop i) (b.drop (j+1)))=m at *;rw [qax (by omega) (by omega)];omega
     simp only [qa8,if_pos c0,c1,c2,c3,if_true,vs4,if_false,qaa ga,qaa gb,gi,vu7,gj0,wi,wj1,gi1,r1,r2,r3,key _ hv,wj]
theorem vay (a b:Str) (ha:a.length≤200) (hb:b.length≤200):∀(i:Nat),i≤a.length+1→qag (qcw a b) (qu5 a b i 0,(i:Int) - 1)=some (qu5 a b 0 0):=by
 intro i
 induction i with
 | zero=>intro _;exact qad (by simp [qcw])
 | succ i ih =>
  intro hi;have e0:(((i+1:Nat):Int) - 1)=(i:Int):=by omega
  have c0:(i:Int)≥0:=by omega
  have wi:vxc.wrap ((i:Int) - 1)=(i:Int) - 1:=qax (by omega) (by omega);have hin:=vax a b ha hb i (by omega) (b.length+1) (vuv _);rw [←veo,show (((b.length+1:Nat):Int) - 1)=(b.length:Int) by omega] at hin;rw [e0];refine (qaf (s':=(qu5 a b i 0,(i:Int) - 1)) ?_).trans (ih (by omega));simp only [qcw,if_pos c0,hin,vu7,wi]
theorem vep {α:Type} {x y:α} {n k:Nat} (h:k < n):(vuh k y++vuh (n - k) x).set k y=vuh (k+1) y++vuh (n - (k+1)) x:=by
 rw [show n - k=(n - (k+1))+1 by omega,vxx,vx1 _ _ (by simp),vt1,Nat.sub_self,List.set_cons_zero,vxy,vtc];rfl
theorem ver (a b:Str) (ha:a.length≤200) (hb:b.length≤200):qag (qb2 a b) (vuh (a.length+1) [],0)=some (qu5 a b (a.length+1) 0):=by
 have w1:vxc.wrap ((a.length:Int)+1)=((a.length+1:Nat):Int):=qj8 (by omega);have w2:vxc.wrap ((b.length:Int)+1)=((b.length+1:Nat):Int):=qj8 (by omega);have hroom:qao (b.length+1) 8=true:=veh (by omega);have h0:(0:Int)≤((b.length+1:Nat):Int):=by omega
 have key:∀(d k:Nat),k+d=a.length+1→qag (qb2 a b) (vuh k (vuh (b.length+1) (0:Int))++vuh (a.length+1 - k) [],(k:Int))=some (vuh (a.length+1) (vuh (b.length+1) (0:Int))):=by
  intro d
  induction d with
  | zero =>
   intro k hk;obtain rfl:k=a.length+1:=by omega
   have c:¬(((a.length+1:Nat):Int) < (((vuh (a.length+1) ([]:List Int)).length:Nat):Int)):=by simp
   exact qad (by simp only [qb2,w1,vxb,if_neg c,Nat.sub_self,vxz,vtd])
  | succ d ih =>
   intro k hk;have c:((k:Int) < (((vuh (a.length+1) ([]:List Int)).length:Nat):Int)):=by simp;omega
   have g:idx (vuh k (vuh (b.length+1) (0:Int))++vuh (a.length+1 - k) []) (k:Int)=some []:=by
    refine qaa ?_;rw [List.getElem?_append,vt1,if_neg (by omega),vtu,if_pos (by omega)]
   refine (qaf (s':=(vuh (k+1) (vuh (b.length+1) (0:Int))++vuh (a.length+1 - (k+1)) [],((k+1:Nat):Int))) ?_).trans (ih (k+1) (by omega));simp only [qb2,w1,w2,vxb,if_pos c,if_pos h0,hroom,if_true,g,vu7,wqn k,vep (show k < a.length+1 by omega)]
 have h:=key (a.length+1) 0 (by omega);simp only [vxz,vue,Nat.sub_zero,vw7] at h;rw [h];congr 1;refine vtj fun k=>?_
 by_cases hk:k≤a.length
 ·rw [qmq hk,vtu,if_pos (by omega),if_neg (by omega),if_neg (by omega)]
 ·have h2:(qu5 a b (a.length+1) 0)[k]?=none:=vtq (by rw [qp7];omega);rw [h2,vtu,if_neg (by omega)]
theorem q4i (a b:Str) (ha:a.length≤200) (hb:b.length≤200):qe0 a b=some (((sed a b:Nat):Int),0):=by
 have w1:vxc.wrap ((a.length:Int)+1)=((a.length+1:Nat):Int):=qj8 (by omega);have h0:(0:Int)≤((a.length+1:Nat):Int):=by omega
 have hroom:qao (a.length+1) 24=true:=by
  unfold qao;simp only [decide_eq_true_eq];omega
 have ho:=vay a b ha hb (a.length+1) (vuv _);rw [show (((a.length+1:Nat):Int) - 1)=(a.length:Int) by omega] at ho;have hd:qeh a b=some (qu5 a b 0 0):=by
  simp only [qeh,w1,vxb,if_pos h0,hroom,if_true,ver a b ha hb,vu7,ho]
 have g1:(qu5 a b 0 0)[0]?=some (qu4 a b 0 0):=by rw [qmq (vww _)];simp
 have g2:(qu4 a b 0 0)[0]?=some ((sed a b:Nat):Int):=by rw [qmp (vww _)];simp
 simp only [qe0,vem a b ha hb,vu7,vs4,if_false,hd,g1,g2]
theorem q4j (a b:Str) (ha:a.length≤200) (hb:b.length≤200):qdn a b=some ((sed a b:Nat):Int):=by
 rw [q64 a b (by omega) (by omega),vmv]
end Go.Proofs.YtmlegeeinnkhkaaGreat

/- -/
import Derived.Lib.TrailingZeros
import Derived.Lib.Repeat
import Derived.Test.YtijpapagpebllaaGreatDoorA3
import Derived.Test.YtijpapagpebllaaGreatDoorA2
set_option linter.unusedVariables false
set_option linter.unusedSimpArgs false
open Bool renaming and_eq_true->v5i,eq_false_or_eq_true->v9x,eq_iff_iff->v9y,false_and->v9z,false_eq_true->v5k
open Int renaming fdiv->v90,natCast_zero->v91,tmod->v92,toNat_natCast->v93
open Go.IntKind renaming bits->v94,i32->v95,i64->v96,signed->v97,u32->v9p,u64->v98,u8->v99,wrap->uaa
open Go.Lib renaming compareBytes->uab,ctzFrom_spec->uac
open List renaming Pairwise->uad,append_assoc->v5r,cons->v5t,cons_append->v8g,drop_drop->uae,ext_getElem?->v5y,filter_append->uaf,filter_cons->uag,filter_eq_nil_iff->uah,filter_nil->uai,foldl_cons->uaj,getD->uak,getElem?_drop->v51,getElem?_eq_getElem->v52,getElem?_eq_none->v54,getElem?_eq_some_iff->v56,getElem?_map->v8n,getElem?_range->ual,getElem?_set->uam,length->uan,length_cons->v8r,length_map->v6d,length_range->uao,length_set->v6f,map_congr_left->v8u,mem_append->v6k,mem_filter->v80,mem_map->v81,mem_of_getElem?->v6m,mem_range->v83,nil_append->v6r,range->v6s,replicate->v6u
open Nat renaming eq_of_testBit_eq->uap,le_refl->v7a,lt_of_le_of_lt->uaq,lt_of_lt_of_le->v7d,min_eq_left->v9b,pow_le_pow_right->uar,testBit_and->uas,testBit_lt_two_pow->uat,testBit_succ->uau,testBit_two_pow->uav,testBit_two_pow_mul_add->uaw,testBit_xor->uax,zero_le->v9f
open Option renaming bind_some->v7m,map_some->v7r
noncomputable section
namespace Go.Proofs.YtijpapagpebllaaGreatDoor
open Go Go.Ab
structure Value where
 Kind:Int
 Num:Int
 Str:List UInt8
 deriving DecidableEq
structure Drossref03_Recipe where
 Attrs:Int
 Gap:Int
 Rows:List (List Int)
 deriving DecidableEq
structure Row where
 ID:Int
 Values:List Value
 deriving DecidableEq
structure Table where
 Name:List UInt8
 Attrs:List (List UInt8)
 Rows:List Row
 deriving DecidableEq
structure Drossref09_Dep where
 L:Int
 R:Int
 deriving DecidableEq
structure FD where
 Lhs:Int
 Rhs:Int
 deriving DecidableEq
structure Drossref45_Case where
 T:Drossref03_Recipe
 F:List Drossref09_Dep
 deriving DecidableEq
structure CellRef where
 ID:Int
 Attr:Int
 deriving DecidableEq
structure Instance where
 Weights:List Int
 Edges:List (List Int)
 deriving DecidableEq
structure Hitset_search where
 in_:Instance
 marks:List Int
 left:Int
 deriving DecidableEq
structure Hitset_best where
 l:List Int
 weight:Int
 deriving DecidableEq
structure Share where
 Edge:Int
 Amount:Int
 deriving DecidableEq
structure Update_entries where
 n:Int
 parent:List Int
 known:List (Option Value)
 deriving DecidableEq
structure Node where
 Vertex:Int
 Shares:List Share
 deriving DecidableEq
structure Update where
 Cells:List CellRef
 Table:Table
 Cores:List (List CellRef)
 Proof:List Node
 deriving DecidableEq
structure Term where
 Var:Int
 Attr:Int
 Value:Value
 deriving DecidableEq
structure Atom where
 Left:Term
 Op:Int
 Right:Term
 deriving DecidableEq
structure Denial where
 Vars:Int
 Atoms:List Atom
 deriving DecidableEq
structure Cell where
 Any:Bool
 Value:Value
 deriving DecidableEq
structure CFD where
 Lhs:List Int
 Rhs:Int
 Pattern:List Cell
 deriving DecidableEq
structure OD where
 Lhs:List Int
 Rhs:List Int
 deriving DecidableEq
structure IND where
 From:List UInt8
 Lhs:List Int
 To:List UInt8
 Rhs:List Int
 deriving DecidableEq
structure Constraint where
 Name:List UInt8
 Table:List UInt8
 Kind:Int
 FD:FD
 MVD:YtijpapagpebllaaGreatDoor.FD
 IND:IND
 CFD:CFD
 OD:OD
 Denial:Denial
 deriving DecidableEq
structure Arr3_int64 where
 x0:Int
 x1:Int
 x2:Int
 deriving DecidableEq
structure Hypergraph where
 Vertices:List Int
 Edges:List (List Int)
 deriving DecidableEq
structure Repair where
 Deleted:List Int
 Weight:Int
 Proof:List Node
 deriving DecidableEq
structure Database where
 Tables:List Table
 deriving DecidableEq
structure Partition where
 Rows:Int
 Classes:List (List Int)
 deriving DecidableEq
structure Violation where
 Constraint:Int
 Rows:List Int
 deriving DecidableEq
def qc5(A:Int):Option (Value) :=
 if((v92 A 12)==0)=true then
 some (Value.mk 1 0 [])
 else
 if((v92 A 12)==1)=true then
 some (Value.mk 1 1 [])
 else
 if((v92 A 12)==2)=true then
 some (Value.mk 1 2 [])
 else
 if((v92 A 12)==3)=true then
 some (Value.mk 0 0 [])
 else
 if((v92 A 12)==4)=true then
 some (Value.mk 2 0 [97])
 else
 if((v92 A 12)==5)=true then
 some (Value.mk 2 0 [98])
 else
 if((v92 A 12)==6)=true then
 some (Value.mk 2 0 [])
 else
 if((v92 A 12)==7)=true then
 some (Value.mk 3 1 [])
 else
 if((v92 A 12)==8)=true then
 some (Value.mk 1 (-1) [])
 else
 if((v92 A 12)==9)=true then
 some (Value.mk 2 0 [97,98])
 else
 if((v92 A 12)==10)=true then
 some (Value.mk 3 2 [])
 else
 some (Value.mk 1 7 [])
def qgq(E:Drossref03_Recipe)(H:Int)(A:Int):(List Value×Int)->Option (LS (List Value×Int) (List Value)):=fun(r1,k2) =>
 if k2<H then
 (idx E.Rows A).bind fun(I:List Int) =>
 if k2<(I.length:Int) then
 (idx I k2).bind fun(M:Int) =>
 (qc5 M).bind fun(O:Value) =>
 if qa8 (r1.length+1) 32=true then
 some (.next ((r1++[O]),(v96.wrap (k2+1))))
 else none
 else
 (qc5 0).bind fun(J:Value) =>
 if qa8 (r1.length+1) 32=true then
 some (.next ((r1++[J]),(v96.wrap (k2+1))))
 else none
 else
 some (.done r1)
def qgr(A:Drossref03_Recipe)(E:Int):(List Row×Int)->Option (LS (List Row×Int) (List Row)):=fun(t_76,i_77) =>
 if i_77<(A.Rows.length:Int) then
 (qah (qgq A E i_77) ([],0)).bind (fun H =>
 if qa8 (t_76.length+1) 32=true then
 some (.next ((t_76++[(Row.mk (v96.wrap (1+(v96.wrap (i_77*(v96.wrap (1+(v96.wrap (v92 A.Gap 3)))))))) H)]),(v96.wrap (i_77+1))))
 else none)
 else
 some (.done t_76)
def qjf(H:Drossref03_Recipe)(A:Int):Option (Table) :=
 if(0:Int)<=A then
 if A<=8 then
 (some ([[97],[98],[99],[100],[101],[102],[103],[104]]:List (List UInt8))).bind fun(E:List (List UInt8)) =>
 if qa8 ((E.take A.toNat).length) 16=true then
 (qah (qgr H A) ([],0)).bind (fun I =>
 some (Table.mk [114] (E.take A.toNat) I))
 else none
 else none
 else none
def qgs(A:Int):(Int×Int)->Option (LS (Int×Int) (Int)):=fun(s2,i3) =>
 if i3<A then
 if i3<32 then
 if i3<0 then none else
 some (.next ((v9p.wrap ((BitVec.ofInt 32 s2|||(BitVec.ofInt 32 (v9p.wrap (1*2^(min (i3).toNat 32))))).toNat:Int)),(v96.wrap (i3+1))))
 else
 some (.done s2)
 else
 some (.done s2)
def qjg(E:Int):Option (Int) :=
 (qah (qgs E) (0,0)).bind (fun A =>
 some A)
def qgt(J:List Drossref09_Dep)(A:Int):(List FD×Int)->Option (LS (List FD×Int) (List FD)):=fun(o3,i4) =>
 if i4<(J.length:Int) then
 (idx J i4).bind fun(E:Drossref09_Dep) =>
 if qa8 (o3.length+1) 8=true then
 some (.next ((o3++[(FD.mk (v9p.wrap ((BitVec.ofInt 32 (v9p.wrap E.L)&&&(BitVec.ofInt 32 A)).toNat:Int)) (v9p.wrap ((BitVec.ofInt 32 (v9p.wrap E.R)&&&(BitVec.ofInt 32 A)).toNat:Int)))]),(v96.wrap (i4+1))))
 else none
 else
 some (.done o3)
def qjh(E:Int)(V:List Drossref09_Dep):Option (List FD) :=
 (qjg E).bind fun(A:Int) =>
 (qah (qgt V A) ([],0)).bind (fun H =>
 some H)
def qj3(A:Drossref45_Case):Option (Table×List FD×Bool) :=
 if(A.T.Rows.length:Int)>4 then
 some ((Table.mk [] [] []),[],false)
 else
 if(v96.wrap ((A.T.Rows.length:Int)*(v96.wrap (v92 A.T.Attrs 4))))>9 then
 some ((Table.mk [] [] []),[],false)
 else
 if(A.F.length:Int)>3 then
 some ((Table.mk [] [] []),[],false)
 else
 (qjf A.T (v96.wrap (v92 A.T.Attrs 4))).bind fun(H:Table) =>
 (qjh (v96.wrap (v92 A.T.Attrs 4)) A.F).bind fun(E:List FD) =>
 some (H,E,true)
def qhk(H:List UInt8):Int->Option (LS (Int) ((Unit)⊕(Bool))):=fun E =>
 if E<(H.length:Int) then
 (idx H E).bind fun(A:UInt8) =>
 (show Option (Bool) from
 if((A.toNat:Nat):Int)>=97 then
 if((A.toNat:Nat):Int)<=122 then
 some true
 else
 if((A.toNat:Nat):Int)>=65 then
 if((A.toNat:Nat):Int)<=90 then
 some true
 else
 some (((A.toNat:Nat):Int)==95)
 else
 some (((A.toNat:Nat):Int)==95)
 else
 if((A.toNat:Nat):Int)>=65 then
 if((A.toNat:Nat):Int)<=90 then
 some true
 else
 some (((A.toNat:Nat):Int)==95)
 else
 some (((A.toNat:Nat):Int)==95)).bind (fun I =>
 if I=true then
 some (.next (v96.wrap (E+1)))
 else
 if(E==0)=true then
 some (.done (.inr false))
 else
 if((A.toNat:Nat):Int)<48 then
 some (.done (.inr false))
 else
 if((A.toNat:Nat):Int)>57 then
 some (.done (.inr false))
 else
 some (.next (v96.wrap (E+1))))
 else
 some (.done (.inl ()))
def qk9(A:List UInt8):Option (Bool) :=
 if(A==[])=true then
 some false
 else
 if(A.length:Int)>24 then
 some false
 else
 if(A==[110,117,108,108])=true then
 some false
 else
 (qah (qhk A) 0).bind (fun o=>match o with
 |.inl () =>
 some true
 |.inr r2 =>
 some r2)
def qcz(E:List (List UInt8))(H:List UInt8):Int->Option (LS (Int) ((Unit)⊕(Int))):=fun A =>
 if A<(E.length:Int) then
 (idx E A).bind fun(I:List UInt8) =>
 if(H==I)=true then
 some (.done (.inr A))
 else
 some (.next (v96.wrap (A+1)))
 else
 some (.done (.inl ()))
def qfu(E:List (List UInt8))(A:List UInt8):Option (Int) :=
 (qah (qcz E A) 0).bind (fun o=>match o with
 |.inl () =>
 some (-1)
 |.inr r3 =>
 some r3)
def qd0(H:List (List UInt8))(E:List UInt8):Option (Bool) :=
 (qfu H E).bind fun(A:Int) =>
 some (decide (A>=0))
def qb9(E:List Value)(H:Value->Option (Bool)):Int->Option (LS (Int) ((Unit)⊕(Int))):=fun A =>
 if A<(E.length:Int) then
 (idx E A).bind fun(I:Value) =>
 (H I).bind fun(J:Bool) =>
 if J=true then
 some (.done (.inr A))
 else
 some (.next (v96.wrap (A+1)))
 else
 some (.done (.inl ()))
def qd1(E:List Value)(A:Value->Option (Bool)):Option (Int) :=
 (qah (qb9 E A) 0).bind (fun o=>match o with
 |.inl () =>
 some (-1)
 |.inr r3 =>
 some r3)
def qc2(H:List Value)(E:Value->Option (Bool)):Option (Bool) :=
 (qd1 H E).bind fun(A:Int) =>
 some (decide (A>=0))
def qk1(A:Value):Option (Bool) :=
 if(A.Kind==0)=true then
 if(A.Num==0)=true then
 some (A.Str==[])
 else
 some false
 else
 if(A.Kind==1)=true then
 some (A.Str==[])
 else
 if(A.Kind==2)=true then
 if(A.Num==0)=true then
 some (decide ((A.Str.length:Int)<=200))
 else
 some false
 else
 if(A.Kind==3)=true then
 if A.Num>=1 then
 some (A.Str==[])
 else
 some false
 else
 some false
def qd5(A:Value):Option (Bool) :=
 (qk1 A).bind fun(E:Bool) =>
 some (!E)
def qhl(J:List Value):Option (Bool) :=
 (qc2 J (fun(E:Value)=>qd5 E)).bind fun(A:Bool) =>
 some (!A)
def qiy(E:Table):Int->Option (LS (Int) ((Unit)⊕(Int))):=fun A =>
 if A<(E.Attrs.length:Int) then
 (idx E.Attrs A).bind fun(H:List UInt8) =>
 (qk9 H).bind fun(I:Bool) =>
 if I=true then
 if(0:Int)<=A then
 if A<=(E.Attrs.length:Int) then
 (qd0 (E.Attrs.take (A.toNat)) H).bind fun(J:Bool) =>
 if J=true then
 some (.done (.inr 1))
 else
 some (.next (v96.wrap (A+1)))
 else none
 else none
 else
 some (.done (.inr 1))
 else
 some (.done (.inl ()))
def qkm(E:Table):(Int×Int)->Option (LS (Int×Int) ((Unit)⊕(Int))):=fun(l2,t3) =>
 if t3<(E.Rows.length:Int) then
 (idx E.Rows t3).bind fun(A:Row) =>
 if A.ID<=l2 then
 some (.done (.inr 1))
 else
 if((A.Values.length:Int) != (E.Attrs.length:Int))=true then
 some (.done (.inr 6))
 else
 (qhl A.Values).bind fun(H:Bool) =>
 if H=true then
 some (.next (A.ID,(v96.wrap (t3+1))))
 else
 some (.done (.inr 1))
 else
 some (.done (.inl ()))
def qg4(A:Table):Option (Int) :=
 (qk9 A.Name).bind fun(E:Bool) =>
 if E=true then
 if(A.Attrs.length:Int)>16 then
 some 3
 else
 if(A.Rows.length:Int)>1000 then
 some 3
 else
 (qah (qiy A) 0).bind (fun o=>match o with
 |.inl () =>
 (qah (qkm A) (0,0)).bind (fun o=>match o with
 |.inl () =>
 some 0
 |.inr r3 =>
 some r3)
 |.inr r4 =>
 some r4)
 else
 some 1
def qc6(E:Int)(H:List FD):Int->Option (LS (Int) ((Unit)⊕(Int))):=fun A =>
 if A<(H.length:Int) then
 (idx H A).bind fun(I:FD) =>
 if E<0 then none else
 if((v90 (v9p.wrap ((BitVec.ofInt 32 I.Lhs|||(BitVec.ofInt 32 I.Rhs)).toNat:Int)) (2^(min (E).toNat 32))) != 0)=true then
 some (.done (.inr 1))
 else
 some (.next (v96.wrap (A+1)))
 else
 some (.done (.inl ()))
def qgu(A:Int)(E:List FD):Option (Int) :=
 if A<0 then
 some 7
 else
 if A>16 then
 some 7
 else
 if(E.length:Int)>64 then
 some 3
 else
 (qah (qc6 A E) 0).bind (fun o=>match o with
 |.inl () =>
 some 0
 |.inr r3 =>
 some r3)
def qbo(E:List Int):Int->Option (LS (Int) ((Unit)⊕(Int))):=fun A =>
 if A<(E.length:Int) then
 (idx E A).bind fun(H:Int) =>
 if(H != 0)=true then
 some (.done (.inr H))
 else
 some (.next (v96.wrap (A+1)))
 else
 some (.done (.inl ()))
def qla(A:List Int):Option (Int) :=
 (qah (qbo A) 0).bind (fun o=>match o with
 |.inl () =>
 some 0
 |.inr r2 =>
 some r2)
def qdl(x1:Int):Option (Bool) :=
 some (x1 != x1)
def qd6(x1:Int)(A:Int):Option (Int) :=
 (qdl x1).bind fun(H:Bool) =>
 (qdl A).bind fun(E:Bool) =>
 if H=true then
 if E=true then
 some 0
 else
 some (-1)
 else
 if E=true then
 some 1
 else
 if x1<A then
 some (-1)
 else
 if x1>A then
 some 1
 else
 some 0
def qif(x1:Int):Option (Bool) :=
 some (x1 != x1)
def qhm(x1:Int)(A:Int):Option (Int) :=
 (qif x1).bind fun(H:Bool) =>
 (qif A).bind fun(E:Bool) =>
 if H=true then
 if E=true then
 some 0
 else
 some (-1)
 else
 if E=true then
 some 1
 else
 if x1<A then
 some (-1)
 else
 if x1>A then
 some 1
 else
 some 0
def qam(I:CellRef)(A:CellRef):Option (Int) :=
 (qd6 I.ID A.ID).bind fun(H:Int) =>
 (qhm I.Attr A.Attr).bind fun(E:Int) =>
 (qla [H,E]).bind fun(J:Int) =>
 some J
def qfh(J:List CellRef):Int->Option (LS (Int) ((Unit)⊕(Bool))):=fun A =>
 if A<(J.length:Int) then
 (idx J (v96.wrap (A-1))).bind fun(H:CellRef) =>
 (idx J A).bind fun(E:CellRef) =>
 (qam H E).bind fun(I:Int) =>
 if I>=0 then
 none
 else
 some (.next (v96.wrap (A+1)))
 else
 some (.done (.inl ()))
def qkn(J:List CellRef):Option (Bool) :=
 (qah (qfh J) 1).bind (fun o=>match o with
 |.inl () =>
 some true
 |.inr r2 =>
 some r2)
def qcj(E:List Row)(H:Row->Option (Bool)):Int->Option (LS (Int) ((Unit)⊕(Int))):=fun A =>
 if A<(E.length:Int) then
 (idx E A).bind fun(I:Row) =>
 (H I).bind fun(J:Bool) =>
 if J=true then
 some (.done (.inr A))
 else
 some (.next (v96.wrap (A+1)))
 else
 some (.done (.inl ()))
def qdt(E:List Row)(A:Row->Option (Bool)):Option (Int) :=
 (qah (qcj E A) 0).bind (fun o=>match o with
 |.inl () =>
 some (-1)
 |.inr r3 =>
 some r3)
def qm7(A:Row)(E:Int):Option (Bool) :=
 some (A.ID==E)
def qqp(H:Table)(I:Int):Option (Int×Bool) :=
 (qdt H.Rows (fun(E:Row)=>qm7 E I)).bind fun(A:Int) =>
 some ((if 0>A then 0 else A),(decide (A>=0)))
def qji(I:Table)(H:List CellRef):Int->Option (LS (Int) ((Unit)⊕(Int))):=fun E =>
 if E<(H.length:Int) then
 (idx H E).bind fun(A:CellRef) =>
 (qqp I A.ID).bind fun(J:Int×Bool) =>
 if J.2=true then
 if A.Attr<0 then
 none
 else
 if A.Attr>=(I.Attrs.length:Int) then
 none
 else
 some (.next (v96.wrap (E+1)))
 else
 none
 else
 some (.done (.inl ()))
def qh9(A:Table)(H:List FD)(E:List CellRef):Option (Int) :=
 (qg4 A).bind fun(I:Int) =>
 if(I != 0)=true then
 none
 else
 (qgu (A.Attrs.length:Int) H).bind fun(M:Int) =>
 if(M != 0)=true then
 none
 else
 if(v96.wrap ((A.Rows.length:Int)*(A.Attrs.length:Int)))>60 then
 none
 else
 (qkn E).bind fun(J:Bool) =>
 if J=true then
 (qah (qji A E) 0).bind (fun o=>match o with
 |.inl () =>
 some 0
 |.inr r7 =>
 some r7)
 else
 none
def qbq(x1:List CellRef)(A:CellRef)(I:CellRef->CellRef->Option (Int)):(Int×Int)->Option (LS (Int×Int) (Int)):=fun(i4,j5) =>
 if i4<j5 then
 (idx x1 (v96.wrap (v90 (v98.wrap (v96.wrap (i4+j5))) (2^(min 1 64))))).bind fun(E:CellRef) =>
 (I E A).bind fun(H:Int) =>
 if H<0 then
 some (.next ((v96.wrap ((v96.wrap (v90 (v98.wrap (v96.wrap (i4+j5))) (2^(min 1 64))))+1)),j5))
 else
 some (.next (i4,(v96.wrap (v90 (v98.wrap (v96.wrap (i4+j5))) (2^(min 1 64))))))
 else
 some (.done i4)
def qaw(x1:List CellRef)(E:CellRef)(H:CellRef->CellRef->Option (Int)):Option (Int×Bool) :=
 (qah (qbq x1 E H) (0,(x1.length:Int))).bind (fun A =>
 if A<(x1.length:Int) then
 (idx x1 A).bind fun(J:CellRef) =>
 (H J E).bind fun(I:Int) =>
 some (A,(I==0))
 else
 some (A,false))
def qhn(E:List (List CellRef)):(Int×Int)->Option (LS (Int×Int) (Int)):=fun(s2,t3) =>
 if t3<(E.length:Int) then
 (idx E t3).bind fun(A:List CellRef) =>
 if(v96.wrap (s2+(A.length:Int)))<0 then
 none
 else
 some (.next ((v96.wrap (s2+(A.length:Int))),(v96.wrap (t3+1))))
 else
 some (.done s2)
def qho(E:List (List CellRef)):(List CellRef×Int)->Option (LS (List CellRef×Int) (List CellRef)):=fun(n2,t3) =>
 if t3<(E.length:Int) then
 (idx E t3).bind fun(A:List CellRef) =>
 if qa8 (n2.length+A.length) 16=true then
 some (.next ((n2++A),(v96.wrap (t3+1))))
 else none
 else
 some (.done n2)
def qek(E:List (List CellRef)):Option (List CellRef) :=
 (qah (qhn E) (0,0)).bind (fun A =>
 if 0<=A then
 if A<=1000000000000 then
 (qah (qho E) (([]:List CellRef),0)).bind (fun H =>
 some H)
 else none
 else none)
def vgi(x:Int):Option (Int):=if 0<=x/\x<13 then some (if x=0 then 0 else if x<2 then 1 else if x<4 then 2 else if x<8 then 3 else 4) else none
def vp1(x1:Int):Option (Int) :=
 (vgi x1).bind fun(A:Int) =>
 some A
def qck(E:List (List CellRef)):(Int×Int)->Option (LS (Int×Int) (Int)):=fun(s2,t3) =>
 if t3<(E.length:Int) then
 (idx E t3).bind fun(A:List CellRef) =>
 if(v96.wrap (s2+(A.length:Int)))<0 then
 none
 else
 some (.next ((v96.wrap (s2+(A.length:Int))),(v96.wrap (t3+1))))
 else
 some (.done s2)
def qcl(E:List (List CellRef)):(List CellRef×Int)->Option (LS (List CellRef×Int) (List CellRef)):=fun(n2,t3) =>
 if t3<(E.length:Int) then
 (idx E t3).bind fun(A:List CellRef) =>
 if qa8 (n2.length+A.length) 16=true then
 some (.next ((n2++A),(v96.wrap (t3+1))))
 else none
 else
 some (.done n2)
def qeq(J:List CellRef)(A:Int):(List CellRef×Int×Int)->Option (LS (List CellRef×Int×Int) (List CellRef×Int)):=fun(s3,k4,k5) =>
 if k5<(((J.length-A.toNat):Nat):Int) then
 (idx ((s3.drop A.toNat).take (J.length-A.toNat)) k5).bind fun(E:CellRef) =>
 (idx ((s3.drop A.toNat).take (J.length-A.toNat)) (v96.wrap (k5-1))).bind fun(H:CellRef) =>
 if((E.ID==H.ID)&&(E.Attr==H.Attr))=true then
 some (.next (s3,k4,(v96.wrap (k5+1))))
 else
 (idx s3 k4).bind fun(I:CellRef) =>
 some (.next ((s3.set k4.toNat E),(v96.wrap (k4+1)),(v96.wrap (k5+1))))
 else
 some (.done (s3,k4))
def qcv(J:List CellRef):Int->Option (LS (Int) ((Unit)⊕(List CellRef))):=fun A =>
 if A<((J.length:Nat):Int) then
 (idx J A).bind fun(I:CellRef) =>
 (idx J (v96.wrap (A-1))).bind fun(H:CellRef) =>
 if((I.ID==H.ID)&&(I.Attr==H.Attr))=true then
 if 0<=A then
 if A<=((J.length:Nat):Int) then
 (qah (qeq J A) (J,A,1)).bind (fun(s5,k6) =>
 if 0<=k6 then
 if k6<=((s5.length:Nat):Int) then
 if(0:Int)<=k6 then
 if k6<=((((((s5.take k6.toNat)).length+((v6u (s5.length-k6.toNat) (CellRef.mk 0 0))).length)+((s5.drop (k6.toNat+(s5.length-k6.toNat)))).length):Nat):Int) then
 (some ((((s5.take k6.toNat)++(v6u (s5.length-k6.toNat) (CellRef.mk 0 0)))++(s5.drop (k6.toNat+(s5.length-k6.toNat)))):List CellRef)).bind fun(E:List CellRef) =>
 if k6.toNat<=E.length then
 (some (E.take k6.toNat:List CellRef)).bind fun(M:List CellRef) =>
 some (.done (.inr M))
 else none
 else none
 else none
 else none
 else none)
 else none
 else none
 else
 some (.next (v96.wrap (A+1)))
 else
 some (.done (.inl ()))
def qcw(A:List CellRef):(List Int×Int)->Option (LS (List Int×Int) (List Int)):=fun(i2,t3) =>
 if t3<((A.length:Nat):Int) then
 if qa8 (i2.length+1) 8=true then
 some (.next ((i2++[1]),(v96.wrap (t3+1))))
 else none
 else
 some (.done i2)
def qer(I:List CellRef)(x2:List CellRef):(List Int×Int)->Option (LS (List Int×Int) (List Int)):=fun(e3,t4) =>
 if t4<(x2.length:Int) then
 (idx x2 t4).bind fun(E:CellRef) =>
 (qaw I E (fun(H:CellRef) (A:CellRef)=>qam H A)).bind fun(J:Int×Bool) =>
 if qa8 (e3.length+1) 8=true then
 some (.next ((e3++[J.1]),(v96.wrap (t4+1))))
 else none
 else
 some (.done e3)
def qcx(A:List (List CellRef))(E:List CellRef):(List (List Int)×Int)->Option (LS (List (List Int)×Int) (List (List Int))):=fun(i3,t4) =>
 if t4<(A.length:Int) then
 (idx A t4).bind fun(H:List CellRef) =>
 (qah (qer E H) ([],0)).bind (fun I =>
 if qa8 (i3.length+1) 24=true then
 some (.next ((i3++[I]),(v96.wrap (t4+1))))
 else none)
 else
 some (.done i3)
def qko(H:List (List CellRef)):Option (Instance×List CellRef) :=
 (qah (qck H) (0,0)).bind (fun J =>
 if 0<=J then
 if J<=1000000000000 then
 (qah (qcl H) (([]:List CellRef),0)).bind (fun V =>
 (qxt (fun(O:CellRef) (U:CellRef)=>qam O U) V).bind fun(A:List CellRef) =>
 (show Option (List CellRef) from
 if((A.length:Nat):Int)<2 then
 some A
 else
 (qah (qcv A) 1).bind (fun o=>match o with
 |.inl () =>
 some A
 |.inr t7 =>
 some t7)).bind (fun E =>
 (qah (qcw E) ([],0)).bind (fun M =>
 (qah (qcx H E) ([],0)).bind (fun I =>
 some ((Instance.mk M I),E)))))
 else none
 else none)
def qjj(H:Instance):Int->Option (LS (Int) ((Unit)⊕(Int))):=fun A =>
 if A<(H.Weights.length:Int) then
 (idx H.Weights A).bind fun(E:Int) =>
 if E<1 then
 none
 else
 if E>1000000 then
 none
 else
 some (.next (v96.wrap (A+1)))
 else
 some (.done (.inl ()))
def qhp(E:Instance)(x2:List Int):(Int×Int)->Option (LS (Int×Int) ((Unit)⊕(Int))):=fun(l3,t4) =>
 if t4<(x2.length:Int) then
 (idx x2 t4).bind fun(A:Int) =>
 if A<=l3 then
 none
 else
 if A>=(E.Weights.length:Int) then
 none
 else
 some (.next (A,(v96.wrap (t4+1))))
 else
 some (.done (.inl ()))
def qjk(E:Instance):Int->Option (LS (Int) ((Unit)⊕(Int))):=fun A =>
 if A<(E.Edges.length:Int) then
 (idx E.Edges A).bind fun(H:List Int) =>
 (qah (qhp E H) ((-1),0)).bind (fun o=>match o with
 |.inl () =>
 if((H.length:Int)==0)=true then
 none
 else
 some (.next (v96.wrap (A+1)))
 |.inr r4 =>
 some (.done (.inr r4)))
 else
 some (.done (.inl ()))
def qgv(A:Instance):Option (Int) :=
 if(A.Weights.length:Int)>200 then
 none
 else
 if(A.Edges.length:Int)>2000 then
 none
 else
 (qah (qjj A) 0).bind (fun o=>match o with
 |.inl () =>
 (qah (qjk A) 0).bind (fun o=>match o with
 |.inl () =>
 some 0
 |.inr r2 =>
 some r2)
 |.inr r3 =>
 some r3)
def qjl(I:Int)(H:Int)(A:Instance):Option (Int) :=
 (idx A.Weights H).bind fun(J:Int) =>
 (idx A.Weights I).bind fun(E:Int) =>
 some (v96.wrap (J-E))
def qcm(E:List Int)(H:Int->Option (Bool)):Int->Option (LS (Int) ((Unit)⊕(Int))):=fun A =>
 if A<(E.length:Int) then
 (idx E A).bind fun(I:Int) =>
 (H I).bind fun(J:Bool) =>
 if J=true then
 some (.done (.inr A))
 else
 some (.next (v96.wrap (A+1)))
 else
 some (.done (.inl ()))
def qfb(E:List Int)(A:Int->Option (Bool)):Option (Int) :=
 (qah (qcm E A) 0).bind (fun o=>match o with
 |.inl () =>
 some (-1)
 |.inr r3 =>
 some r3)
def qcn(H:List Int)(E:Int->Option (Bool)):Option (Bool) :=
 (qfb H E).bind fun(A:Int) =>
 some (decide (A>=0))
def qhq(H:Int)(E:List Int):Option (Bool) :=
 (idx E H).bind fun(A:Int) =>
 some (A==1)
def q8g(x1:Int)(A:Int):Option (Bool) :=
 (qif x1).bind fun(E:Bool) =>
 if E=true then
 (qif A).bind fun(H:Bool) =>
 if H=true then
 some (decide (x1<A))
 else
 some true
 else
 some (decide (x1<A))
def qlk(E:List Int)(H:Int)(A:Int):Unit->Option (LS (Unit) (Unit)):=fun() =>
 if A>H then
 (idx E A).bind fun(M:Int) =>
 (idx E (v96.wrap (A-1))).bind fun(J:Int) =>
 (q8g M J).bind fun(I:Bool) =>
 if I=true then
 none
 else
 some (.done ())
 else
 some (.done ())
def qll(E:List Int)(I:Int)(H:Int):Int->Option (LS (Int) (Unit)):=fun A =>
 if A<H then
 (qah (qlk E I A) ()).bind (fun() =>
 some (.next (v96.wrap (A+1))))
 else
 some (.done ())
def qmj(E:List Int)(A:Int)(H:Int):Option (Unit) :=
 (qah (qll E A H) (v96.wrap (A+1))).bind (fun() =>
 some ())
def qn3(E:List Int)(H:Int)(A:Int):Unit->Option (LS (Unit) (Unit)):=fun() =>
 if(v96.wrap (A-H))<=12 then
 (qmj E H A).bind fun(I:Unit) =>
 some (.done ())
 else
 none
def qp3(E:List Int)(A:Int)(H:Int)(J:Int):Option (Unit) :=
 (qah (qn3 E A H) ()).bind (fun I =>
 some I)
def slices_Sort_int(x1:List Int):Option (Unit) :=
 (vp1 (v98.wrap (x1.length:Int))).bind fun(A:Int) =>
 (qp3 x1 0 (x1.length:Int) A).bind fun(E:Unit) =>
 some ()
def qf5(H:Int)(x2:List Int):(List (List Int)×Int)->Option (LS (List (List Int)×Int) (List (List Int))):=fun(a3,t4) =>
 if t4<(x2.length:Int) then
 (idx x2 t4).bind fun(E:Int) =>
 (idx a3 E).bind fun(A:List Int) =>
 if qa8 (A.length+1) 8=true then
 some (.next ((a3.set E.toNat (A++[H])),(v96.wrap (t4+1))))
 else none
 else
 some (.done a3)
def qf6(E:Instance):(List Int×List (List Int)×Int)->Option (LS (List Int×List (List Int)×Int) (List Int×List (List Int))):=fun(r2,a3,t4) =>
 if t4<(E.Edges.length:Int) then
 (idx E.Edges t4).bind fun(A:List Int) =>
 (idx r2 t4).bind fun(I:Int) =>
 (qah (qf5 t4 A) (a3,0)).bind (fun H =>
 some (.next ((r2.set t4.toNat (A.length:Int)),H,(v96.wrap (t4+1)))))
 else
 some (.done (r2,a3))
def qf7(A:Instance):(List Int×Int)->Option (LS (List Int×Int) (List Int)):=fun(o2,t3) =>
 if t3<((A.Weights.length:Nat):Int) then
 (idx o2 t3).bind fun(E:Int) =>
 some (.next ((o2.set t3.toNat t3),(v96.wrap (t3+1))))
 else
 some (.done o2)
def qqq(J:Instance)(H:Int):(List Int×Int)->Option (LS (List Int×Int) (List Int)):=fun(d3,j4) =>
 if j4>H then
 (idx d3 j4).bind fun(E:Int) =>
 (idx d3 (v96.wrap (j4-1))).bind fun(A:Int) =>
 (qjl E A J).bind fun(I:Int) =>
 if I<0 then
 (idx (d3.set j4.toNat A) (v96.wrap (j4-1))).bind fun(M:Int) =>
 some (.next (((d3.set j4.toNat A).set (v96.wrap (j4-1)).toNat E),(v96.wrap (j4-1))))
 else
 some (.done d3)
 else
 some (.done d3)
def qqr(I:Instance)(E:Int)(A:Int):(List Int×Int)->Option (LS (List Int×Int) (List Int)):=fun(d4,i5) =>
 if i5<A then
 (qah (qqq I E) (d4,i5)).bind (fun H =>
 some (.next (H,(v96.wrap (i5+1)))))
 else
 some (.done d4)
def qj4(E:Instance)(O:List Int):(List Int×Int×Int)->Option (LS (List Int×Int×Int) (List Int×Int)):=fun(d3,a4,b5) =>
 if b5<=((O.length:Nat):Int) then
 (qah (qqr E a4 b5) (d3,(v96.wrap (a4+1)))).bind (fun A =>
 if A.length=d3.length then
 some (.next (A,b5,(v96.wrap (b5+20))))
 else none)
 else
 some (.done (d3,a4))
def qhr(J:Instance)(H:Int):(List Int×Int)->Option (LS (List Int×Int) (List Int)):=fun(d3,j4) =>
 if j4>H then
 (idx d3 j4).bind fun(E:Int) =>
 (idx d3 (v96.wrap (j4-1))).bind fun(A:Int) =>
 (qjl E A J).bind fun(I:Int) =>
 if I<0 then
 (idx (d3.set j4.toNat A) (v96.wrap (j4-1))).bind fun(M:Int) =>
 some (.next (((d3.set j4.toNat A).set (v96.wrap (j4-1)).toNat E),(v96.wrap (j4-1))))
 else
 some (.done d3)
 else
 some (.done d3)
def qfi(H:Instance)(O:List Int)(A:Int):(List Int×Int)->Option (LS (List Int×Int) (List Int)):=fun(d4,i5) =>
 if i5<((O.length:Nat):Int) then
 (qah (qhr H A) (d4,i5)).bind (fun E =>
 some (.next (E,(v96.wrap (i5+1)))))
 else
 some (.done d4)
def qqs(U:List Int)(A:Int):Unit->Option (LS (Unit) (Unit)):=fun() =>
 if(v96.wrap (2*A))<=((U.length:Nat):Int) then
 none
 else
 some (.done ())
def qj5(U:List Int):Int->Option (LS (Int) (Unit)):=fun A =>
 if A<((U.length:Nat):Int) then
 (qah (qqs U A) ()).bind (fun() =>
 if(v96.wrap (0+A))<((U.length:Nat):Int) then
 none
 else
 some (.next (v96.wrap (A*2))))
 else
 some (.done ())
def qfj(I:List (List Int))(x2:Int)(E:List Int):(List Int×Int)->Option (LS (List Int×Int) (List Int)):=fun(r4,t5) =>
 if t5<((E.length:Nat):Int) then
 (idx I x2).bind fun(H:List Int) =>
 (idx H t5).bind fun(A:Int) =>
 if t5<((E.length:Nat):Int) then
 (idx r4 A).bind fun(J:Int) =>
 some (.next ((r4.set A.toNat (v96.wrap (J-1))),(v96.wrap (t5+1))))
 else none
 else
 some (.done r4)
def qfk(I:List (List Int))(J:List Int):(List Int×List Int×Int)->Option (LS (List Int×List Int×Int) (List Int)):=fun(r3,o4,t5) =>
 if t5<((J.length:Nat):Int) then
 (idx J t5).bind fun(A:Int) =>
 (idx I A).bind fun(H:List Int) =>
 (qcn H (fun(O:Int)=>qhq O r3)).bind fun(M:Bool) =>
 if M=true then
 if qa8 (o4.length+1) 8=true then
 some (.next (r3,(o4++[A]),(v96.wrap (t5+1))))
 else none
 else
 (qah (qfj I A H) (r3,0)).bind (fun E =>
 some (.next (E,o4,(v96.wrap (t5+1)))))
 else
 some (.done o4)
def qls(A:Instance):Option (List Int×Int) :=
 (qgv A).bind fun(J:Int) =>
 if(J != 0)=true then
 some ([],J)
 else
 if 0<=(A.Edges.length:Int) then
 if qa8 A.Edges.length 8=true then
 if 0<=(A.Weights.length:Int) then
 if qa8 A.Weights.length 24=true then
 (qah (qf6 A) ((v6u A.Edges.length 0),(v6u A.Weights.length ([]:List Int)),0)).bind (fun(r3,a4) =>
 if qa8 A.Weights.length 8=true then
 (qah (qf7 A) ((v6u A.Weights.length 0),0)).bind (fun E =>
 (qah (qj4 A E) (E,0,20)).bind (fun(d6,a7) =>
 (qah (qfi A E a7) (d6,(v96.wrap (a7+1)))).bind (fun H =>
 if H.length=d6.length then
 (qah (qj5 E) 20).bind (fun() =>
 if H.length=E.length then
 if H.length=E.length then
 (qah (qfk a4 H) (r3,[],0)).bind (fun M =>
 (q0v M).bind fun(I:List Int) =>
 some (I,0))
 else none
 else none)
 else none)))
 else none)
 else none
 else none
 else none
 else none
def qd7(E:List Int)(H:Int):Int->Option (LS (Int) ((Unit)⊕(Int))):=fun A =>
 if A<(E.length:Int) then
 (idx E A).bind fun(I:Int) =>
 if(H==I)=true then
 some (.done (.inr A))
 else
 some (.next (v96.wrap (A+1)))
 else
 some (.done (.inl ()))
def qil(E:List Int)(A:Int):Option (Int) :=
 (qah (qd7 E A) 0).bind (fun o=>match o with
 |.inl () =>
 some (-1)
 |.inr r3 =>
 some r3)
def qfv(H:List Int)(E:Int):Option (Bool) :=
 (qil H E).bind fun(A:Int) =>
 some (decide (A>=0))
def qim(E:Instance)(V:List Int):(Int×Int)->Option (LS (Int×Int) ((Int)⊕(Int×Int))):=fun(s3,t4) =>
 if t4<(V.length:Int) then
 (idx V t4).bind fun(A:Int) =>
 if A<0 then
 none
 else
 if A>=(E.Weights.length:Int) then
 none
 else
 if(0:Int)<=t4 then
 if t4<=(V.length:Int) then
 (qfv (V.take (t4.toNat)) A).bind fun(I:Bool) =>
 if I=true then
 none
 else
 (idx E.Weights A).bind fun(H:Int) =>
 some (.next ((v96.wrap (s3+H)),(v96.wrap (t4+1))))
 else none
 else none
 else
 some (.done (.inl s3))
def qlt(A:Instance)(V:List Int):Option (Int×Int) :=
 (qgv A).bind fun(E:Int) =>
 if(E != 0)=true then
 none
 else
 (qah (qim A V) (0,0)).bind (fun o=>match o with
 |.inl s4 =>
 some (s4,0)
 |.inr r5 =>
 some r5)
def qa9(E:List (List Int))(H:(List Int)->Option (Bool)):Int->Option (LS (Int) ((Unit)⊕(Int))):=fun A =>
 if A<(E.length:Int) then
 (idx E A).bind fun(I:List Int) =>
 (H I).bind fun(J:Bool) =>
 if J=true then
 some (.done (.inr A))
 else
 some (.next (v96.wrap (A+1)))
 else
 some (.done (.inl ()))
def qcg(E:List (List Int))(A:(List Int)->Option (Bool)):Option (Int) :=
 (qah (qa9 E A) 0).bind (fun o=>match o with
 |.inl () =>
 some (-1)
 |.inr r3 =>
 some r3)
def qce(H:List (List Int))(E:(List Int)->Option (Bool)):Option (Bool) :=
 (qcg H E).bind fun(A:Int) =>
 some (decide (A>=0))
def qd8(A:Int)(I:Hitset_search)(H:Int):Option (Bool) :=
 (idx I.marks A).bind fun(E:Int) =>
 some (E==H)
def qbd(A:Hitset_search)(H:List Int)(I:Int):Option (Bool) :=
 (qcn H (fun(E:Int)=>qd8 E A I)).bind fun(J:Bool) =>
 some J
def qct(A:List Int)(E:Hitset_search):Option (Bool) :=
 (qbd E A 1).bind fun(H:Bool) =>
 if H=true then
 some false
 else
 (qbd E A 0).bind fun(I:Bool) =>
 some (!I)
def qdm(A:Hitset_search):Option (Bool) :=
 (qce A.in_.Edges (fun(H:List Int)=>qct H A)).bind fun(E:Bool) =>
 some E
def qgw(l:List Int):Option (List Int):=if qa8 l.length 8=true then some l else none
def qco(I:Hitset_search)(x2:List Int):(List Int×Int×Int)->Option (LS (List Int×Int×Int) (List Int×Int)):=fun(c3,b4,t5) =>
 if t5<(x2.length:Int) then
 (idx x2 t5).bind fun(A:Int) =>
 (idx I.marks A).bind fun(J:Int) =>
 if(J != 0)=true then
 some (.next (c3,b4,(v96.wrap (t5+1))))
 else
 (idx c3 A).bind fun(E:Int) =>
 if b4<0 then
 some (.next ((c3.set A.toNat (v96.wrap (E+1))),A,(v96.wrap (t5+1))))
 else
 (idx (c3.set A.toNat (v96.wrap (E+1))) A).bind fun(M:Int) =>
 (idx (c3.set A.toNat (v96.wrap (E+1))) b4).bind fun(H:Int) =>
 if M>H then
 some (.next ((c3.set A.toNat (v96.wrap (E+1))),A,(v96.wrap (t5+1))))
 else
 some (.next ((c3.set A.toNat (v96.wrap (E+1))),b4,(v96.wrap (t5+1))))
 else
 some (.done (c3,b4))
def qdn(A:Hitset_search):(List Int×Int×Int)->Option (LS (List Int×Int×Int) (Int)):=fun(c2,b3,t4) =>
 if t4<(A.in_.Edges.length:Int) then
 (idx A.in_.Edges t4).bind fun(E:List Int) =>
 (qbd A E 1).bind fun(H:Bool) =>
 if H=true then
 some (.next (c2,b3,(v96.wrap (t4+1))))
 else
 (qah (qco A E) (c2,b3,0)).bind (fun(c7,b8) =>
 some (.next (c7,b8,(v96.wrap (t4+1)))))
 else
 some (.done b3)
def qdu(A:Hitset_search):Option (Int) :=
 if 0<=(A.marks.length:Int) then
 if qa8 A.marks.length 8=true then
 (qah (qdn A) ((v6u A.marks.length 0),(-1),0)).bind (fun E =>
 some E)
 else none
 else none
def qes(J:List Int)(M:List Int)(E:List Int):(Int×Int)->Option (LS (Int×Int) (Int)):=fun(a4,t5) =>
 if t5<(E.length:Int) then
 (idx E t5).bind fun(A:Int) =>
 (idx J A).bind fun(I:Int) =>
 if(I==0)=true then
 (idx M A).bind fun(H:Int) =>
 some (.next ((if H<a4 then H else a4),(v96.wrap (t5+1))))
 else
 some (.next (a4,(v96.wrap (t5+1))))
 else
 some (.done a4)
def qet(x1:List Int)(H:Int):(List Int×Int)->Option (LS (List Int×Int) (List Int)):=fun(r3,t4) =>
 if t4<(x1.length:Int) then
 (idx x1 t4).bind fun(A:Int) =>
 (idx r3 A).bind fun(E:Int) =>
 some (.next ((r3.set A.toNat (v96.wrap (E-H))),(v96.wrap (t4+1))))
 else
 some (.done r3)
def qdo(E:Instance)(J:List Int)(O:Int):(List Int×List Share×Int×Int)->Option (LS (List Int×List Share×Int×Int) (List Share×Int)):=fun(r4,o5,s6,t7) =>
 if t7<(E.Edges.length:Int) then
 (idx E.Edges t7).bind fun(I:List Int) =>
 (qbd (Hitset_search.mk E J (v96.wrap (O-1))) I 1).bind fun(M:Bool) =>
 if M=true then
 some (.next (r4,o5,s6,(v96.wrap (t7+1))))
 else
 (qah (qes J r4 I) (1000000,0)).bind (fun A =>
 if(A==0)=true then
 some (.next (r4,o5,s6,(v96.wrap (t7+1))))
 else
 (qah (qet I A) (r4,0)).bind (fun H =>
 if qa8 (o5.length+1) 16=true then
 some (.next (H,(o5++[(Share.mk t7 A)]),(v96.wrap (s6+A)),(v96.wrap (t7+1))))
 else none))
 else
 some (.done (o5,s6))
def qeu(A:List Int):(List Int×Int)->Option (LS (List Int×Int) (List Int)):=fun(b2,t3) =>
 if t3<((A.length:Nat):Int) then
 (idx A t3).bind fun(E:Int) =>
 if(E==1)=true then
 if qa8 (b2.length+1) 8=true then
 some (.next ((b2++[t3]),(v96.wrap (t3+1))))
 else none
 else
 some (.next (b2,(v96.wrap (t3+1))))
 else
 some (.done b2)
def qfl(E:Instance)(J:(List Int×Int×Hitset_best×Int)->Option (Bool×Hitset_best×List Int×Int)):(List Int×Int×Hitset_best×Int)->Option (Bool×Hitset_best×List Int×Int):=fun(s3,s4,b5,w6) =>
 if(v96.wrap (s4-1))>=0 then
 (qdm (Hitset_search.mk E s3 (v96.wrap (s4-1)))).bind fun(M:Bool) =>
 if M=true then
 some (true,b5,s3,(v96.wrap (s4-1)))
 else
 if qa8 E.Weights.length 8=true then
 (qah (qdo E s3 s4) (E.Weights,[],0,0)).bind (fun(o8,s9) =>
 if(v96.wrap (w6+s9))>=b5.weight then
 some (true,b5,s3,(v96.wrap (s4-1)))
 else
 (qdu (Hitset_search.mk E s3 (v96.wrap (s4-1)))).bind fun(A:Int) =>
 if A<0 then
 (qah (qeu s3) ([],0)).bind (fun H =>
 some (true,(Hitset_best.mk H w6),s3,(v96.wrap (s4-1))))
 else
 (idx s3 A).bind fun(O:Int) =>
 (idx E.Weights A).bind fun(I:Int) =>
 (J ((s3.set A.toNat 1),(v96.wrap (s4-1)),b5,(v96.wrap (w6+I)))).bind (fun(o:Bool×Hitset_best×List Int×Int)=>match o with
 |(t14,b15,b16,b17) =>
 (idx b16 A).bind fun(U:Int) =>
 (show Option (List Int×Int×Bool×Hitset_best) from
 if t14=true then
 (J ((b16.set A.toNat 2),b17,b15,w6)).bind (fun(o:Bool×Hitset_best×List Int×Int)=>match o with
 |(t19,b20,b21,b22) =>
 some (b21,b22,t19,b20))
 else
 some ((b16.set A.toNat 2),b17,false,b15)).bind (fun(s23,s24,o25,b26) =>
 (idx s23 A).bind fun(V:Int) =>
 some (o25,b26,(s23.set A.toNat 0),s24))))
 else none
 else
 some (false,b5,s3,(v96.wrap (s4-1)))
def qg5(A:Instance)(H:Int):Option (List Int×Int×Int) :=
 (qls A).bind fun(E:List Int×Int) =>
 if(E.2 != 0)=true then
 some ([],0,E.2)
 else
 if H<1 then
 some ([],0,1)
 else
 (qlt A E.1).bind fun(I:Int×Int) =>
 if 0<=(A.Weights.length:Int) then
 if qa8 A.Weights.length 8=true then
 (q8a (qfl A) 64 ((v6u A.Weights.length 0),H,(Hitset_best.mk E.1 I.1),0)).bind (fun(o:Bool×Hitset_best×List Int×Int)=>match o with
 |(t5,b6,b7,b8) =>
 if t5=true then
 some (b6.l,b6.weight,0)
 else
 some ([],0,13))
 else none
 else none
def qd2(x1:Update_entries):Int->Option (LS (Int) (Int)):=fun A =>
 (idx x1.parent A).bind fun(E:Int) =>
 if(E != A)=true then
 some (.next E)
 else
 some (.done A)
def qbn(x1:Update_entries)(E:Int):Option (Int) :=
 (qah (qd2 x1) E).bind (fun A =>
 some A)
def qgx(I:List UInt8)(A:List UInt8):Option (Int) :=
 some (uab I A)
def qjm(I:List UInt8)(A:List UInt8):Option (Int) :=
 (qgx I A).bind fun(E:Int) =>
 some E
def qfd(I:Value)(A:Value):Option (Int) :=
 (qhm I.Kind A.Kind).bind fun(J:Int) =>
 (qd6 I.Num A.Num).bind fun(E:Int) =>
 (qjm I.Str A.Str).bind fun(M:Int) =>
 (qla [J,E,M]).bind fun(H:Int) =>
 some H
def qfw(x1:Update_entries)(M:Int)(V:Int):Option (Bool) :=
 (qbn x1 M).bind fun(E:Int) =>
 (qbn x1 V).bind fun(J:Int) =>
 if(E==J)=true then
 some true
 else
 (idx x1.known E).bind fun(H:Option Value) =>
 if H.isSome=true then
 (H).bind fun(O:Value) =>
 (idx x1.known J).bind fun(I:Option Value) =>
 if I.isSome=true then
 (I).bind fun(U:Value) =>
 (qfd O U).bind fun(A:Int) =>
 some (A==0)
 else
 some false
 else
 some false
def qdp(x1:Update_entries)(H:Int)(I:Int)(J:Int):Int->Option (LS (Int) ((Unit)⊕(Bool))):=fun A =>
 if A<x1.n then
 if A<0 then none else
 if((v9p.wrap ((BitVec.ofInt 32 (v90 J (2^(min (A).toNat 32)))&&&(1#32)).toNat:Int))==1)=true then
 (qfw x1 (v96.wrap ((v96.wrap (H*x1.n))+A)) (v96.wrap ((v96.wrap (I*x1.n))+A))).bind fun(E:Bool) =>
 if E=true then
 some (.next (v96.wrap (A+1)))
 else
 some (.done (.inr false))
 else
 some (.next (v96.wrap (A+1)))
 else
 some (.done (.inl ()))
def qcb(x1:Update_entries)(E:Int)(A:Int)(H:Int):Option (Bool) :=
 (qah (qdp x1 E A H) 0).bind (fun o=>match o with
 |.inl () =>
 some true
 |.inr r5 =>
 some r5)
def qf8(M:Table)(I:List CellRef)(E:Row):(List Int×List (Option Value)×Int)->Option (LS (List Int×List (Option Value)×Int) (List Int×List (Option Value))):=fun(x4,x5,t6) =>
 if t6<(M.Attrs.length:Int) then
 if qa8 (x4.length+1) 8=true then
 (qaw I (CellRef.mk E.ID t6) (fun(J:CellRef) (O:CellRef)=>qam J O)).bind fun(H:Int×Bool) =>
 if H.2=true then
 if qa8 (x5.length+1) 8=true then
 some (.next ((x4++[((x4.length:Nat):Int)]),(x5++[none]),(v96.wrap (t6+1))))
 else none
 else
 (idx E.Values t6).bind fun(A:Value) =>
 if qa8 (x5.length+1) 8=true then
 some (.next ((x4++[((x4.length:Nat):Int)]),(x5++[(some A)]),(v96.wrap (t6+1))))
 else none
 else none
 else
 some (.done (x4,x5))
def qe7(A:Table)(H:List CellRef):(List Int×List (Option Value)×Int)->Option (LS (List Int×List (Option Value)×Int) (List Int×List (Option Value))):=fun(x3,x4,t5) =>
 if t5<(A.Rows.length:Int) then
 (idx A.Rows t5).bind fun(E:Row) =>
 (qah (qf8 A H E) (x3,x4,0)).bind (fun(x7,x8) =>
 some (.next (x7,x8,(v96.wrap (t5+1)))))
 else
 some (.done (x3,x4))
def qev(J:Table)(x2:List (Option Value))(x3:FD)(t4:Int)(t5:Int):(List Int×Int)->Option (LS (List Int×Int) ((List Int)⊕(List Int))):=fun(x6,t7) =>
 if t7<(J.Attrs.length:Int) then
 if t7<0 then none else
 if((v9p.wrap ((BitVec.ofInt 32 (v90 x3.Rhs (2^(min (t7).toNat 32)))&&&(1#32)).toNat:Int))==1)=true then
 (qbn (Update_entries.mk (J.Attrs.length:Int) x6 x2) (v96.wrap ((v96.wrap (t4*(J.Attrs.length:Int)))+t7))).bind fun(A:Int) =>
 (qbn (Update_entries.mk (J.Attrs.length:Int) x6 x2) (v96.wrap ((v96.wrap (t5*(J.Attrs.length:Int)))+t7))).bind fun(E:Int) =>
 (show Option (Bool) from
 (idx x2 A).bind fun(M:Option Value) =>
 if M.isSome=true then
 (M).bind fun(g11:Value) =>
 (idx x2 E).bind fun(I:Option Value) =>
 if I.isSome=true then
 (I).bind fun(g13:Value) =>
 some true
 else
 some false
 else
 some false).bind (fun t14 =>
 if t14=true then
 (idx x2 A).bind fun(O:Option Value) =>
 (O).bind fun(Z:Value) =>
 (idx x2 E).bind fun(U:Option Value) =>
 (U).bind fun(W:Value) =>
 (qfd Z W).bind fun(V:Int) =>
 if(V==0)=true then
 some (.next (x6,(v96.wrap (t7+1))))
 else
 some (.done (.inr x6))
 else
 (idx x2 A).bind fun(H:Option Value) =>
 if H.isSome=true then
 (H).bind fun(g21:Value) =>
 (idx x6 E).bind fun(x22:Int) =>
 if((x6.set E.toNat A)).length=x6.length then
 some (.next ((x6.set E.toNat A),(v96.wrap (t7+1))))
 else none
 else
 (idx x6 A).bind fun(x23:Int) =>
 if((x6.set A.toNat E)).length=x6.length then
 some (.next ((x6.set A.toNat E),(v96.wrap (t7+1))))
 else none)
 else
 some (.next (x6,(v96.wrap (t7+1))))
 else
 some (.done (.inl x6))
def qew(E:Table)(x2:List (Option Value))(H:FD)(A:Int):(List Int×Bool×Int)->Option (LS (List Int×Bool×Int) ((List Int×Bool)⊕(List Int))):=fun(x5,a6,t7) =>
 if t7<A then
 (qcb (Update_entries.mk (E.Attrs.length:Int) x5 x2) A t7 H.Lhs).bind fun(J:Bool) =>
 if J=true then
 (qcb (Update_entries.mk (E.Attrs.length:Int) x5 x2) A t7 H.Rhs).bind fun(I:Bool) =>
 if I=true then
 some (.next (x5,a6,(v96.wrap (t7+1))))
 else
 (qah (qev E x2 H A t7) (x5,0)).bind (fun o=>match o with
 |.inl x10 =>
 some (.next (x10,true,(v96.wrap (t7+1))))
 |.inr b11 =>
 some (.done (.inr b11)))
 else
 some (.next (x5,a6,(v96.wrap (t7+1))))
 else
 some (.done (.inl (x5,a6)))
def qex(A:Table)(x2:List (Option Value))(E:FD):(List Int×Bool×Int)->Option (LS (List Int×Bool×Int) ((List Int×Bool)⊕(List Int))):=fun(x4,a5,t6) =>
 if t6<(A.Rows.length:Int) then
 (qah (qew A x2 E t6) (x4,a5,0)).bind (fun o=>match o with
 |.inl (x7,a8) =>
 some (.next (x7,a8,(v96.wrap (t6+1))))
 |.inr b9 =>
 some (.done (.inr b9)))
 else
 some (.done (.inl (x4,a5)))
def qey(H:Table)(A:List FD)(E:List (Option Value)):(List Int×Bool×Int)->Option (LS (List Int×Bool×Int) ((List Int×Bool)⊕(List Int))):=fun(x4,a5,t6) =>
 if t6<(A.length:Int) then
 (idx A t6).bind fun(I:FD) =>
 (qah (qex H E I) (x4,a5,0)).bind (fun o=>match o with
 |.inl (x8,a9) =>
 some (.next (x8,a9,(v96.wrap (t6+1))))
 |.inr b10 =>
 some (.done (.inr b10)))
 else
 some (.done (.inl (x4,a5)))
def qez(H:Table)(A:List FD)(E:List (Option Value)):(List Int×Bool)->Option (LS (List Int×Bool) ((List Int)⊕(List Int))):=fun(x4,a5) =>
 if a5=true then
 (qah (qey H A E) (x4,false,0)).bind (fun o=>match o with
 |.inl (x6,a7) =>
 some (.next (x6,a7))
 |.inr b8 =>
 some (.done (.inr b8)))
 else
 some (.done (.inl x4))
def qgy(A:Table)(E:List FD)(H:List CellRef):Option (Bool) :=
 (qah (qe7 A H) ([],[],0)).bind (fun(x4,x5) =>
 (qah (qez A E x5) (x4,true)).bind (fun o=>match o with
 |.inl b6 =>
 if b6.length=x4.length then
 some true
 else none
 |.inr b7 =>
 if b7.length=x4.length then
 some false
 else none))
def qdd(E:List (List Node)):(Int×Int)->Option (LS (Int×Int) (Int)):=fun(s2,t3) =>
 if t3<(E.length:Int) then
 (idx E t3).bind fun(A:List Node) =>
 if(v96.wrap (s2+(A.length:Int)))<0 then
 none
 else
 some (.next ((v96.wrap (s2+(A.length:Int))),(v96.wrap (t3+1))))
 else
 some (.done s2)
def qde(E:List (List Node)):(List Node×Int)->Option (LS (List Node×Int) (List Node)):=fun(n2,t3) =>
 if t3<(E.length:Int) then
 (idx E t3).bind fun(A:List Node) =>
 if qa8 (n2.length+A.length) 32=true then
 some (.next ((n2++A),(v96.wrap (t3+1))))
 else none
 else
 some (.done n2)
def qe0(E:List (List Node)):Option (List Node) :=
 (qah (qdd E) (0,0)).bind (fun A =>
 if 0<=A then
 if A<=1000000000000 then
 (qah (qde E) (([]:List Node),0)).bind (fun H =>
 some H)
 else none
 else none)
def qsg(J:List Int)(M:List Int)(E:List Int):(Int×Int)->Option (LS (Int×Int) (Int)):=fun(a4,t5) =>
 if t5<(E.length:Int) then
 (idx E t5).bind fun(A:Int) =>
 (idx J A).bind fun(I:Int) =>
 if(I==0)=true then
 (idx M A).bind fun(H:Int) =>
 some (.next ((if H<a4 then H else a4),(v96.wrap (t5+1))))
 else
 some (.next (a4,(v96.wrap (t5+1))))
 else
 some (.done a4)
def qsh(x1:List Int)(H:Int):(List Int×Int)->Option (LS (List Int×Int) (List Int)):=fun(r3,t4) =>
 if t4<(x1.length:Int) then
 (idx x1 t4).bind fun(A:Int) =>
 (idx r3 A).bind fun(E:Int) =>
 some (.next ((r3.set A.toNat (v96.wrap (E-H))),(v96.wrap (t4+1))))
 else
 some (.done r3)
def qns(E:Instance)(J:List Int)(O:Int):(List Int×List Share×Int×Int)->Option (LS (List Int×List Share×Int×Int) (List Share×Int)):=fun(r4,o5,s6,t7) =>
 if t7<(E.Edges.length:Int) then
 (idx E.Edges t7).bind fun(I:List Int) =>
 (qbd (Hitset_search.mk E J (v96.wrap (O-1))) I 1).bind fun(M:Bool) =>
 if M=true then
 some (.next (r4,o5,s6,(v96.wrap (t7+1))))
 else
 (qah (qsg J r4 I) (1000000,0)).bind (fun A =>
 if(A==0)=true then
 some (.next (r4,o5,s6,(v96.wrap (t7+1))))
 else
 (qah (qsh I A) (r4,0)).bind (fun H =>
 if qa8 (o5.length+1) 16=true then
 some (.next (H,(o5++[(Share.mk t7 A)]),(v96.wrap (s6+A)),(v96.wrap (t7+1))))
 else none))
 else
 some (.done (o5,s6))
def qhs(E:Instance)(J:(List Int×Int×Int)->Option (List Node×Int×List Int×Int)):(List Int×Int×Int)->Option (List Node×Int×List Int×Int):=fun(s3,s4,b5) =>
 if(v96.wrap (s4-1))>=0 then
 if b5<=0 then
 some ([(Node.mk (-1) [])],0,s3,(v96.wrap (s4-1)))
 else
 (qdm (Hitset_search.mk E s3 (v96.wrap (s4-1)))).bind fun(O:Bool) =>
 if O=true then
 some ([(Node.mk (-1) [])],0,s3,(v96.wrap (s4-1)))
 else
 if qa8 E.Weights.length 8=true then
 (qah (qns E s3 s4) (E.Weights,[],0,0)).bind (fun(o7,s8) =>
 if s8>=b5 then
 some ([(Node.mk (-1) o7)],0,s3,(v96.wrap (s4-1)))
 else
 (qdu (Hitset_search.mk E s3 (v96.wrap (s4-1)))).bind fun(A:Int) =>
 if A<0 then
 some ([],11,s3,(v96.wrap (s4-1)))
 else
 (idx s3 A).bind fun(U:Int) =>
 (idx E.Weights A).bind fun(I:Int) =>
 (J ((s3.set A.toNat 1),(v96.wrap (s4-1)),(v96.wrap (b5-I)))).bind (fun(o:List Node×Int×List Int×Int)=>match o with
 |(t12,t13,b14,b15) =>
 if(t13 != 0)=true then
 some ([],t13,b14,b15)
 else
 (idx b14 A).bind fun(V:Int) =>
 (J ((b14.set A.toNat 2),b15,b5)).bind (fun(o:List Node×Int×List Int×Int)=>match o with
 |(t17,t18,b19,b20) =>
 if(t18 != 0)=true then
 some ([],t18,b19,b20)
 else
 (idx b19 A).bind fun(M:Int) =>
 (qe0 [[(Node.mk A [])],t12,t17]).bind fun(H:List Node) =>
 some (H,0,(b19.set A.toNat 0),b20))))
 else none
 else
 some ([],13,s3,(v96.wrap (s4-1)))
def qjn(A:Instance)(E:Int)(H:Int):Option (List Node×Int) :=
 (qgv A).bind fun(I:Int) =>
 if(I != 0)=true then
 some ([],I)
 else
 if H<1 then
 some ([],1)
 else
 if E<(-1000000000000000) then
 some ([],7)
 else
 if E>1000000000000000 then
 some ([],7)
 else
 if 0<=(A.Weights.length:Int) then
 if qa8 A.Weights.length 8=true then
 (q8a (qhs A) 64 ((v6u A.Weights.length 0),H,E)).bind (fun(o:List Node×Int×List Int×Int)=>match o with
 |(t5,t6,b7,b8) =>
 some (t5,t6))
 else none
 else none
def qig(l:List (List UInt8)):Option (List (List UInt8)):=if qa8 l.length 16=true then some l else none
def qu8(M:Table)(I:List CellRef)(E:Row):(List Int×List (Option Value)×Int)->Option (LS (List Int×List (Option Value)×Int) (List Int×List (Option Value))):=fun(x4,x5,t6) =>
 if t6<(M.Attrs.length:Int) then
 if qa8 (x4.length+1) 8=true then
 (qaw I (CellRef.mk E.ID t6) (fun(J:CellRef) (O:CellRef)=>qam J O)).bind fun(H:Int×Bool) =>
 if H.2=true then
 if qa8 (x5.length+1) 8=true then
 some (.next ((x4++[((x4.length:Nat):Int)]),(x5++[none]),(v96.wrap (t6+1))))
 else none
 else
 (idx E.Values t6).bind fun(A:Value) =>
 if qa8 (x5.length+1) 8=true then
 some (.next ((x4++[((x4.length:Nat):Int)]),(x5++[(some A)]),(v96.wrap (t6+1))))
 else none
 else none
 else
 some (.done (x4,x5))
def qp4(A:Table)(H:List CellRef):(List Int×List (Option Value)×Int)->Option (LS (List Int×List (Option Value)×Int) (List Int×List (Option Value))):=fun(x3,x4,t5) =>
 if t5<(A.Rows.length:Int) then
 (idx A.Rows t5).bind fun(E:Row) =>
 (qah (qu8 A H E) (x3,x4,0)).bind (fun(x7,x8) =>
 some (.next (x7,x8,(v96.wrap (t5+1)))))
 else
 some (.done (x3,x4))
def qsi(J:Table)(x2:List (Option Value))(x3:FD)(t4:Int)(t5:Int):(List Int×Int)->Option (LS (List Int×Int) ((List Int)⊕(List Int))):=fun(x6,t7) =>
 if t7<(J.Attrs.length:Int) then
 if t7<0 then none else
 if((v9p.wrap ((BitVec.ofInt 32 (v90 x3.Rhs (2^(min (t7).toNat 32)))&&&(1#32)).toNat:Int))==1)=true then
 (qbn (Update_entries.mk (J.Attrs.length:Int) x6 x2) (v96.wrap ((v96.wrap (t4*(J.Attrs.length:Int)))+t7))).bind fun(A:Int) =>
 (qbn (Update_entries.mk (J.Attrs.length:Int) x6 x2) (v96.wrap ((v96.wrap (t5*(J.Attrs.length:Int)))+t7))).bind fun(E:Int) =>
 (show Option (Bool) from
 (idx x2 A).bind fun(M:Option Value) =>
 if M.isSome=true then
 (M).bind fun(g11:Value) =>
 (idx x2 E).bind fun(I:Option Value) =>
 if I.isSome=true then
 (I).bind fun(g13:Value) =>
 some true
 else
 some false
 else
 some false).bind (fun t14 =>
 if t14=true then
 (idx x2 A).bind fun(O:Option Value) =>
 (O).bind fun(Z:Value) =>
 (idx x2 E).bind fun(U:Option Value) =>
 (U).bind fun(W:Value) =>
 (qfd Z W).bind fun(V:Int) =>
 if(V==0)=true then
 some (.next (x6,(v96.wrap (t7+1))))
 else
 some (.done (.inr x6))
 else
 (idx x2 A).bind fun(H:Option Value) =>
 if H.isSome=true then
 (H).bind fun(g21:Value) =>
 (idx x6 E).bind fun(x22:Int) =>
 if((x6.set E.toNat A)).length=x6.length then
 some (.next ((x6.set E.toNat A),(v96.wrap (t7+1))))
 else none
 else
 (idx x6 A).bind fun(x23:Int) =>
 if((x6.set A.toNat E)).length=x6.length then
 some (.next ((x6.set A.toNat E),(v96.wrap (t7+1))))
 else none)
 else
 some (.next (x6,(v96.wrap (t7+1))))
 else
 some (.done (.inl x6))
def qsj(E:Table)(x2:List (Option Value))(H:FD)(A:Int):(List Int×Bool×Int)->Option (LS (List Int×Bool×Int) ((List Int×Bool)⊕(List Int))):=fun(x5,a6,t7) =>
 if t7<A then
 (qcb (Update_entries.mk (E.Attrs.length:Int) x5 x2) A t7 H.Lhs).bind fun(J:Bool) =>
 if J=true then
 (qcb (Update_entries.mk (E.Attrs.length:Int) x5 x2) A t7 H.Rhs).bind fun(I:Bool) =>
 if I=true then
 some (.next (x5,a6,(v96.wrap (t7+1))))
 else
 (qah (qsi E x2 H A t7) (x5,0)).bind (fun o=>match o with
 |.inl x10 =>
 some (.next (x10,true,(v96.wrap (t7+1))))
 |.inr b11 =>
 some (.done (.inr b11)))
 else
 some (.next (x5,a6,(v96.wrap (t7+1))))
 else
 some (.done (.inl (x5,a6)))
def qsk(A:Table)(x2:List (Option Value))(E:FD):(List Int×Bool×Int)->Option (LS (List Int×Bool×Int) ((List Int×Bool)⊕(List Int))):=fun(x4,a5,t6) =>
 if t6<(A.Rows.length:Int) then
 (qah (qsj A x2 E t6) (x4,a5,0)).bind (fun o=>match o with
 |.inl (x7,a8) =>
 some (.next (x7,a8,(v96.wrap (t6+1))))
 |.inr b9 =>
 some (.done (.inr b9)))
 else
 some (.done (.inl (x4,a5)))
def qsl(H:Table)(A:List FD)(E:List (Option Value)):(List Int×Bool×Int)->Option (LS (List Int×Bool×Int) ((List Int×Bool)⊕(List Int))):=fun(x4,a5,t6) =>
 if t6<(A.length:Int) then
 (idx A t6).bind fun(I:FD) =>
 (qah (qsk H E I) (x4,a5,0)).bind (fun o=>match o with
 |.inl (x8,a9) =>
 some (.next (x8,a9,(v96.wrap (t6+1))))
 |.inr b10 =>
 some (.done (.inr b10)))
 else
 some (.done (.inl (x4,a5)))
def qnt(H:Table)(A:List FD)(E:List (Option Value)):(List Int×Bool)->Option (LS (List Int×Bool) ((List Int)⊕(List Int))):=fun(x4,a5) =>
 if a5=true then
 (qah (qsl H A E) (x4,false,0)).bind (fun o=>match o with
 |.inl (x6,a7) =>
 some (.next (x6,a7))
 |.inr b8 =>
 some (.done (.inr b8)))
 else
 some (.done (.inl x4))
def qf9(x1:Row):((List (Int×Bool))×Int)->Option (LS ((List (Int×Bool))×Int) ((List (Int×Bool)))):=fun(u2,t3) =>
 if t3<(x1.Values.length:Int) then
 (idx x1.Values t3).bind fun(A:Value) =>
 if(A.Kind==3)=true then
 some (.next ((qnx u2 A.Num true),(v96.wrap (t3+1))))
 else
 some (.next (u2,(v96.wrap (t3+1))))
 else
 some (.done u2)
def qga(A:Table):((List (Int×Bool))×Int)->Option (LS ((List (Int×Bool))×Int) ((List (Int×Bool)))):=fun(u2,t3) =>
 if t3<(A.Rows.length:Int) then
 (idx A.Rows t3).bind fun(E:Row) =>
 (qah (qf9 E) (u2,0)).bind (fun H =>
 some (.next (H,(v96.wrap (t3+1)))))
 else
 some (.done u2)
def qgb(E:List (Int×Bool)):Int->Option (LS (Int) (Int)):=fun A =>
 if((qg3 E A).getD false)=true then
 some (.next (v96.wrap (A+1)))
 else
 some (.done A)
def qgc(M:Table)(x2:List (Option Value))(U:List Int)(V:List (Int×Bool))(Z:Int):(Int×(List (Int×Value))×List Value×Int)->Option (LS (Int×(List (Int×Value))×List Value×Int) (Int×(List (Int×Value))×List Value)):=fun(n6,n7,r8,t9) =>
 if t9<(M.Attrs.length:Int) then
 (qbn (Update_entries.mk (M.Attrs.length:Int) U x2) (v96.wrap ((v96.wrap (Z*(M.Attrs.length:Int)))+t9))).bind fun(A:Int) =>
 (show Option (Bool) from
 (idx x2 A).bind fun(H:Option Value) =>
 if H.isSome=true then
 (H).bind fun(W:Value) =>
 some true
 else
 some false).bind (fun O =>
 if O=true then
 (idx x2 A).bind fun(I:Option Value) =>
 (I).bind fun(J:Value) =>
 if qa8 (r8.length+1) 32=true then
 some (.next (n6,n7,(r8++[J]),(v96.wrap (t9+1))))
 else none
 else
 if(qg3 n7 A).isSome=true then
 if qa8 (r8.length+1) 32=true then
 some (.next (n6,n7,(r8++[((qg3 n7 A).getD (Value.mk 0 0 []))]),(v96.wrap (t9+1))))
 else none
 else
 (qah (qgb V) (v96.wrap (n6+1))).bind (fun E =>
 if qa8 (r8.length+1) 32=true then
 some (.next (E,(qnx n7 A (Value.mk 3 E [])),(r8++[((qg3 (qnx n7 A (Value.mk 3 E [])) A).getD (Value.mk 0 0 []))]),(v96.wrap (t9+1))))
 else none))
 else
 some (.done (n6,n7,r8))
def qgd(A:Table)(x2:List (Option Value))(E:List Int)(H:List (Int×Bool)):(List Row×Int×(List (Int×Value))×Int)->Option (LS (List Row×Int×(List (Int×Value))×Int) (List Row)):=fun(o5,n6,n7,t8) =>
 if t8<(A.Rows.length:Int) then
 (idx A.Rows t8).bind fun(I:Row) =>
 (qah (qgc A x2 E H t8) (n6,n7,[],0)).bind (fun(n10,n11,r12) =>
 if qa8 (o5.length+1) 32=true then
 some (.next ((o5++[(Row.mk I.ID r12)]),n10,n11,(v96.wrap (t8+1))))
 else none)
 else
 some (.done o5)
def qmk(A:Table)(H:List FD)(J:List CellRef):Option (Table×Int) :=
 (qh9 A H J).bind fun(I:Int) =>
 if(I != 0)=true then
 some ((Table.mk [] [] []),I)
 else
 (qah (qp4 A J) ([],[],0)).bind (fun(x5,x6) =>
 (qah (qnt A H x6) (x5,true)).bind (fun o=>match o with
 |.inl b7 =>
 if b7.length=x5.length then
 (qah (qga A) ([],0)).bind (fun O =>
 (qig A.Attrs).bind fun(M:List (List UInt8)) =>
 (qah (qgd A x6 b7 O) ([],0,[],0)).bind (fun E =>
 some ((Table.mk A.Name M E),0)))
 else none
 |.inr b11 =>
 if b11.length=x5.length then
 some ((Table.mk [] [] []),15)
 else none))
def qj6(H:Table)(I:List CellRef)(A:Row):(List CellRef×Int)->Option (LS (List CellRef×Int) (List CellRef)):=fun(o4,t5) =>
 if t5<(H.Attrs.length:Int) then
 (qaw I (CellRef.mk A.ID t5) (fun(J:CellRef) (E:CellRef)=>qam J E)).bind fun(M:Int×Bool) =>
 if M.2=true then
 some (.next (o4,(v96.wrap (t5+1))))
 else
 if qa8 (o4.length+1) 16=true then
 some (.next ((o4++[(CellRef.mk A.ID t5)]),(v96.wrap (t5+1))))
 else none
 else
 some (.done o4)
def qlu(A:Table)(E:List CellRef):(List CellRef×Int)->Option (LS (List CellRef×Int) (List CellRef)):=fun(o3,t4) =>
 if t4<(A.Rows.length:Int) then
 (idx A.Rows t4).bind fun(I:Row) =>
 (qah (qj6 A E I) (o3,0)).bind (fun H =>
 some (.next (H,(v96.wrap (t4+1)))))
 else
 some (.done o3)
def qml(H:Table)(A:List CellRef):Option (List CellRef) :=
 (qah (qlu H A) ([],0)).bind (fun E =>
 some E)
def qge(A:Table)(E:List FD)(J:List CellRef):Option (Bool) :=
 (qml A J).bind fun(H:List CellRef) =>
 (qgy A E H).bind fun(I:Bool) =>
 some (!I)
def qoi(J:List CellRef)(A:Int):Option (List CellRef) :=
 if(0:Int)<=A then
 if A<=(J.length:Int) then
 if 0<=(v96.wrap (A+1)) then
 if(v96.wrap (A+1))<=(J.length:Int) then
 (qek [(J.take (A.toNat)),((J.drop (v96.wrap (A+1)).toNat).take (J.length-(v96.wrap (A+1)).toNat))]).bind fun(E:List CellRef) =>
 some E
 else none
 else none
 else none
 else none
def qiz(H:Table)(E:List FD):(List CellRef×Int)->Option (LS (List CellRef×Int) (List CellRef)):=fun(l3,i4) =>
 if i4<(l3.length:Int) then
 (qoi l3 i4).bind fun(A:List CellRef) =>
 (qge H E A).bind fun(I:Bool) =>
 if I=true then
 some (.next (A,i4))
 else
 some (.next (l3,(v96.wrap (i4+1))))
 else
 some (.done l3)
def qmm(E:Table)(A:List FD)(H:List CellRef):Option (List CellRef) :=
 (qah (qiz E A) (H,0)).bind (fun I =>
 some I)
def qa3(H:List CellRef)(I:List CellRef)(O:CellRef->CellRef->Option (Int)):Int->Option (LS (Int) ((Unit)⊕(Int))):=fun A =>
 if A<(H.length:Int) then
 (idx H A).bind fun(M:CellRef) =>
 if A>=(I.length:Int) then
 some (.done (.inr 1))
 else
 (idx I A).bind fun(J:CellRef) =>
 (O M J).bind fun(E:Int) =>
 if(E != 0)=true then
 some (.done (.inr E))
 else
 some (.next (v96.wrap (A+1)))
 else
 some (.done (.inl ()))
def qdy(E:List CellRef)(A:List CellRef)(H:CellRef->CellRef->Option (Int)):Option (Int) :=
 (qah (qa3 E A H) 0).bind (fun o=>match o with
 |.inl () =>
 if(E.length:Int)<(A.length:Int) then
 some (-1)
 else
 some 0
 |.inr r4 =>
 some r4)
def qbk(I:List CellRef)(E:List CellRef):Option (Int) :=
 (qdy I E (fun(H:CellRef) (A:CellRef)=>qam H A)).bind fun(J:Int) =>
 some J
def qpe(E:List (List CellRef)):(Int×Int)->Option (LS (Int×Int) (Int)):=fun(s2,t3) =>
 if t3<((E.length:Nat):Int) then
 (idx E t3).bind fun(A:List CellRef) =>
 if(v96.wrap (s2+(A.length:Int)))<0 then
 none
 else
 some (.next ((v96.wrap (s2+(A.length:Int))),(v96.wrap (t3+1))))
 else
 some (.done s2)
def qpf(E:List (List CellRef)):(List CellRef×Int)->Option (LS (List CellRef×Int) (List CellRef)):=fun(n2,t3) =>
 if t3<((E.length:Nat):Int) then
 (idx E t3).bind fun(A:List CellRef) =>
 if qa8 (n2.length+A.length) 16=true then
 some (.next ((n2++A),(v96.wrap (t3+1))))
 else none
 else
 some (.done n2)
def qpg(J:List CellRef)(A:Int):(List CellRef×Int×Int)->Option (LS (List CellRef×Int×Int) (List CellRef×Int)):=fun(s3,k4,k5) =>
 if k5<(((J.length-A.toNat):Nat):Int) then
 (idx ((s3.drop A.toNat).take (J.length-A.toNat)) k5).bind fun(E:CellRef) =>
 (idx ((s3.drop A.toNat).take (J.length-A.toNat)) (v96.wrap (k5-1))).bind fun(H:CellRef) =>
 if((E.ID==H.ID)&&(E.Attr==H.Attr))=true then
 some (.next (s3,k4,(v96.wrap (k5+1))))
 else
 (idx s3 k4).bind fun(I:CellRef) =>
 some (.next ((s3.set k4.toNat E),(v96.wrap (k4+1)),(v96.wrap (k5+1))))
 else
 some (.done (s3,k4))
def qph(J:List CellRef):Int->Option (LS (Int) ((Unit)⊕(List CellRef))):=fun A =>
 if A<((J.length:Nat):Int) then
 (idx J A).bind fun(I:CellRef) =>
 (idx J (v96.wrap (A-1))).bind fun(H:CellRef) =>
 if((I.ID==H.ID)&&(I.Attr==H.Attr))=true then
 if 0<=A then
 if A<=((J.length:Nat):Int) then
 (qah (qpg J A) (J,A,1)).bind (fun(s5,k6) =>
 if 0<=k6 then
 if k6<=((s5.length:Nat):Int) then
 if(0:Int)<=k6 then
 if k6<=((((((s5.take k6.toNat)).length+((v6u (s5.length-k6.toNat) (CellRef.mk 0 0))).length)+((s5.drop (k6.toNat+(s5.length-k6.toNat)))).length):Nat):Int) then
 (some ((((s5.take k6.toNat)++(v6u (s5.length-k6.toNat) (CellRef.mk 0 0)))++(s5.drop (k6.toNat+(s5.length-k6.toNat)))):List CellRef)).bind fun(E:List CellRef) =>
 if k6.toNat<=E.length then
 (some (E.take k6.toNat:List CellRef)).bind fun(M:List CellRef) =>
 some (.done (.inr M))
 else none
 else none
 else none
 else none
 else none)
 else none
 else none
 else
 some (.next (v96.wrap (A+1)))
 else
 some (.done (.inl ()))
def qoj(A:List CellRef):(List Int×Int)->Option (LS (List Int×Int) (List Int)):=fun(i2,t3) =>
 if t3<((A.length:Nat):Int) then
 if qa8 (i2.length+1) 8=true then
 some (.next ((i2++[1]),(v96.wrap (t3+1))))
 else none
 else
 some (.done i2)
def qok(I:List CellRef)(x2:List CellRef):(List Int×Int)->Option (LS (List Int×Int) (List Int)):=fun(e3,t4) =>
 if t4<(x2.length:Int) then
 (idx x2 t4).bind fun(E:CellRef) =>
 (qaw I E (fun(H:CellRef) (A:CellRef)=>qam H A)).bind fun(J:Int×Bool) =>
 if qa8 (e3.length+1) 8=true then
 some (.next ((e3++[J.1]),(v96.wrap (t4+1))))
 else none
 else
 some (.done e3)
def qol(A:List (List CellRef))(E:List CellRef):(List (List Int)×Int)->Option (LS (List (List Int)×Int) (List (List Int))):=fun(i3,t4) =>
 if t4<((A.length:Nat):Int) then
 (idx A t4).bind fun(H:List CellRef) =>
 (qah (qok E H) ([],0)).bind (fun I =>
 if qa8 (i3.length+1) 24=true then
 some (.next ((i3++[I]),(v96.wrap (t4+1))))
 else none)
 else
 some (.done i3)
def qc8(E:List CellRef)(A:List Int×Int×Int):(List CellRef×Int)->Option (LS (List CellRef×Int) (List CellRef)):=fun(u3,t4) =>
 if t4<(A.1.length:Int) then
 (idx A.1 t4).bind fun(I:Int) =>
 (idx E I).bind fun(H:CellRef) =>
 if qa8 (u3.length+1) 16=true then
 some (.next ((u3++[H]),(v96.wrap (t4+1))))
 else none
 else
 some (.done u3)
def qc9(U:Table)(f2:List FD)(b3:Int):(List CellRef×List (List CellRef))->Option (LS (List CellRef×List (List CellRef)) (Update×Int)):=fun(u4,u5) =>
 (qah (qpe u5) (0,0)).bind (fun s6 =>
 if 0<=s6 then
 if s6<=1000000000000 then
 (qah (qpf u5) (([]:List CellRef),0)).bind (fun n7 =>
 (qxt (fun(y8:CellRef) (y9:CellRef)=>qam y8 y9) n7).bind fun(E:List CellRef) =>
 (show Option (List CellRef) from
 if((E.length:Nat):Int)<2 then
 some E
 else
 (qah (qph E) 1).bind (fun o=>match o with
 |.inl () =>
 some E
 |.inr t11 =>
 some t11)).bind (fun H =>
 (qah (qoj H) ([],0)).bind (fun J =>
 (qah (qol u5 H) ([],0)).bind (fun M =>
 (qg5 (Instance.mk J M) b3).bind fun(I:List Int×Int×Int) =>
 if(I.2.2 != 0)=true then
 some (.done ((Update.mk [] (Table.mk [] [] []) [] []),13))
 else
 (qah (qc8 H I) ([],0)).bind (fun A =>
 (qgy U f2 A).bind fun(Z:Bool) =>
 if Z=true then
 (qjn (Instance.mk J M) I.2.1 b3).bind fun(O:List Node×Int) =>
 if(O.2 != 0)=true then
 some (.done ((Update.mk [] (Table.mk [] [] []) [] []),13))
 else
 (qmk U f2 A).bind fun(V:Table×Int) =>
 some (.done ((Update.mk A V.1 u5 O.1),0))
 else
 (qml U A).bind fun(W:List CellRef) =>
 (qmm U f2 W).bind fun(r21:List CellRef) =>
 if qa8 (u5.length+1) 24=true then
 (qxt (fun(y22:List CellRef) (y23:List CellRef)=>qbk y22 y23) (u5++[r21])).bind fun(l24:List (List CellRef)) =>
 some (.next (A,l24))
 else none)))))
 else none
 else none)
def qi0(I:Table)(A:List FD)(H:Int):Option (Update×Int) :=
 (qh9 I A []).bind fun(E:Int) =>
 if(E != 0)=true then
 some ((Update.mk [] (Table.mk [] [] []) [] []),E)
 else
 if H<1 then
 some ((Update.mk [] (Table.mk [] [] []) [] []),1)
 else
 (qah (qc9 I A H) ([],([]:List (List CellRef)))).bind (fun J =>
 some J)
def qhf(x:Int):Option Int:=if 0<=x/\x<4294967296 then some (tz32 x.toNat) else none
def qgz:(Int×List Int)->Option (LS (Int×List Int) (List Int)):=fun(s1,o2) =>
 if(s1 != 0)=true then
 (qhf s1).bind fun(A:Int) =>
 if qa8 (o2.length+1) 8=true then
 some (.next ((v9p.wrap ((BitVec.ofInt 32 s1&&&(BitVec.ofInt 32 (v9p.wrap (s1-1)))).toNat:Int)),(o2++[A])))
 else none
 else
 some (.done o2)
def qfx(A:Int):Option (List Int) :=
 (qah qgz (A,[])).bind (fun O =>
 some O)
def qwt(A:Int)(E:Int):Option (Term) :=
 some (Term.mk A E (Value.mk 0 0 []))
def qom(U:Int)(A:Int):Option (Atom) :=
 (qwt 1 A).bind fun(H:Term) =>
 (qwt 2 A).bind fun(E:Term) =>
 some (Atom.mk H U E)
def qgf(A:List Int):(List Atom×Int)->Option (LS (List Atom×Int) (List Atom)):=fun(d2,t3) =>
 if t3<(A.length:Int) then
 (idx A t3).bind fun(E:Int) =>
 (qom 1 E).bind fun(H:Atom) =>
 if qa8 (d2.length+1) 104=true then
 some (.next ((d2++[H]),(v96.wrap (t3+1))))
 else none
 else
 some (.done d2)
def qin(J:FD)(E:List Int):(List Denial×Int)->Option (LS (List Denial×Int) (List Denial)):=fun(o3,t4) =>
 if t4<(E.length:Int) then
 (idx E t4).bind fun(I:Int) =>
 (qfx J.Lhs).bind fun(H:List Int) =>
 (qah (qgf H) ([],0)).bind (fun A =>
 (qom 2 I).bind fun(M:Atom) =>
 if qa8 (A.length+1) 104=true then
 if qa8 (o3.length+1) 32=true then
 some (.next ((o3++[(Denial.mk 2 (A++[M]))]),(v96.wrap (t4+1))))
 else none
 else none)
 else
 some (.done o3)
def qlv(J:Int)(A:FD):Option (List Denial×Int) :=
 (qgu J [A]).bind fun(E:Int) =>
 if(E != 0)=true then
 some ([],E)
 else
 (qfx (v9p.wrap ((BitVec.ofInt 32 A.Rhs &&& ~~~ (BitVec.ofInt 32 A.Lhs)).toNat:Int))).bind fun(H:List Int) =>
 (qah (qin A H) ([],0)).bind (fun I =>
 some (I,0))
def qcf(E:List Atom)(H:Atom->Option (Bool)):Int->Option (LS (Int) ((Unit)⊕(Int))):=fun A =>
 if A<(E.length:Int) then
 (idx E A).bind fun(I:Atom) =>
 (H I).bind fun(J:Bool) =>
 if J=true then
 some (.done (.inr A))
 else
 some (.next (v96.wrap (A+1)))
 else
 some (.done (.inl ()))
def qel(E:List Atom)(A:Atom->Option (Bool)):Option (Int) :=
 (qah (qcf E A) 0).bind (fun o=>match o with
 |.inl () =>
 some (-1)
 |.inr r3 =>
 some r3)
def qdf(H:List Atom)(E:Atom->Option (Bool)):Option (Bool) :=
 (qel H E).bind fun(A:Int) =>
 some (decide (A>=0))
def qgg(E:Int)(H:Int)(A:Term):Option (Bool) :=
 if(A.Var==0)=true then
 if(A.Attr==0)=true then
 (qk1 A.Value).bind fun(I:Bool) =>
 some I
 else
 some false
 else
 if A.Var>0 then
 if A.Var<=H then
 if A.Attr>=0 then
 if A.Attr<E then
 some ((A.Value.Kind==0)&&((A.Value.Num==0)&&(A.Value.Str==[])))
 else
 some false
 else
 some false
 else
 some false
 else
 some false
def qi1(I:Atom)(A:Int)(E:Denial):Option (Bool) :=
 if I.Op<1 then
 some true
 else
 if I.Op>4 then
 some true
 else
 (qgg A E.Vars I.Left).bind fun(H:Bool) =>
 if H=true then
 (qgg A E.Vars I.Right).bind fun(J:Bool) =>
 some (!J)
 else
 some true
def qm8(E:Int)(Z:Denial):Option (Bool) :=
 if Z.Vars<1 then
 some false
 else
 if Z.Vars>3 then
 some false
 else
 if(Z.Atoms.length:Int)>20 then
 some false
 else
 (qdf Z.Atoms (fun(A:Atom)=>qi1 A E Z)).bind fun(H:Bool) =>
 some (!H)
def qda(E:Table)(A:Constraint):Option (List Denial×Int) :=
 if(A.Table==E.Name)=true then
 if A.Kind<1 then
 some ([],1)
 else
 if A.Kind>6 then
 some ([],1)
 else
 if(A.Kind==2)=true then
 none
 else
 if(A.Kind==3)=true then
 none
 else
 if(A.Kind==1)=true then
 if(E.Attrs.length:Int)<0 then none else
 if((v90 (v9p.wrap ((BitVec.ofInt 32 A.FD.Lhs|||(BitVec.ofInt 32 A.FD.Rhs)).toNat:Int)) (2^(min ((E.Attrs.length:Int)).toNat 32))) != 0)=true then
 some ([],1)
 else
 (qlv (E.Attrs.length:Int) A.FD).bind fun(H:List Denial×Int) =>
 some (H.1,H.2)
 else
 none
 else
 some ([],1)
def qbl(E:List Int)(I:List Int):Int->Option (LS (Int) ((Unit)⊕(Int))):=fun A =>
 if A<(E.length:Int) then
 (idx E A).bind fun(M:Int) =>
 if A>=(I.length:Int) then
 some (.done (.inr 1))
 else
 (idx I A).bind fun(J:Int) =>
 (qd6 M J).bind fun(H:Int) =>
 if(H != 0)=true then
 some (.done (.inr H))
 else
 some (.next (v96.wrap (A+1)))
 else
 some (.done (.inl ()))
def qae(E:List Int)(A:List Int):Option (Int) :=
 (qah (qbl E A) 0).bind (fun o=>match o with
 |.inl () =>
 if(E.length:Int)<(A.length:Int) then
 some (-1)
 else
 some 0
 |.inr r3 =>
 some r3)
def qkp(A:Table)(Z:Denial):Option (Int) :=
 (qg4 A).bind fun(E:Int) =>
 if(E != 0)=true then
 some E
 else
 (qm8 (A.Attrs.length:Int) Z).bind fun(H:Bool) =>
 if H=true then
 if(Z.Vars==3)=true then
 if(A.Rows.length:Int)>200 then
 some 3
 else
 some 0
 else
 some 0
 else
 some 1
def qb5(H:List Row)(E:Row->Option (Bool)):Option (Bool) :=
 (qdt H E).bind fun(A:Int) =>
 some (decide (A>=0))
def qn8(I:List Row)(A:Term):Option (Value) :=
 if(A.Var==0)=true then
 some A.Value
 else
 (idx I (v96.wrap (A.Var-1))).bind fun(H:Row) =>
 (idx H.Values A.Attr).bind fun(E:Value) =>
 some E
def qd9(I:List Row)(V:List Atom):Int->Option (LS (Int) ((Unit)⊕(Bool))):=fun E =>
 if E<(V.length:Int) then
 (idx V E).bind fun(A:Atom) =>
 (qn8 I A.Left).bind fun(M:Value) =>
 (qn8 I A.Right).bind fun(J:Value) =>
 (qfd M J).bind fun(H:Int) =>
 if(A.Op==1)=true then
 if(H==0)=true then
 some (.next (v96.wrap (E+1)))
 else
 some (.done (.inr false))
 else
 if(A.Op==2)=true then
 if(H != 0)=true then
 some (.next (v96.wrap (E+1)))
 else
 some (.done (.inr false))
 else
 if(A.Op==3)=true then
 if H<0 then
 some (.next (v96.wrap (E+1)))
 else
 some (.done (.inr false))
 else
 if(A.Op==4)=true then
 if H<=0 then
 some (.next (v96.wrap (E+1)))
 else
 some (.done (.inr false))
 else
 some (.done (.inr false))
 else
 some (.done (.inl ()))
def qio(A:List Row)(V:List Atom):Option (Bool) :=
 (qah (qd9 A V) 0).bind (fun o=>match o with
 |.inl () =>
 some true
 |.inr r3 =>
 some r3)
def qg6(x1:Row)(A:Row):Option (Bool) :=
 some (x1.ID==A.ID)
def qkq(x1:Int)(A:Int):Option (Bool) :=
 (qdl x1).bind fun(E:Bool) =>
 if E=true then
 (qdl A).bind fun(H:Bool) =>
 if H=true then
 some (decide (x1<A))
 else
 some true
 else
 some (decide (x1<A))
def qdv(J:List Row):(List Int×Int)->Option (LS (List Int×Int) (List Int)):=fun(l2,t3) =>
 if t3<(J.length:Int) then
 (idx J t3).bind fun(A:Row) =>
 if qa8 (l2.length+1) 8=true then
 some (.next ((l2++[A.ID]),(v96.wrap (t3+1))))
 else none
 else
 some (.done l2)
def qdw(O:Table)(Z:Denial)(H:List Row):((List (Arr3_int64×Bool))×List (List Int)×Int)->Option (LS ((List (Arr3_int64×Bool))×List (List Int)×Int) ((List (Arr3_int64×Bool))×List (List Int))):=fun(f4,f5,t6) =>
 if t6<(O.Rows.length:Int) then
 (idx O.Rows t6).bind fun(M:Row) =>
 (qb5 H (fun(V:Row)=>qg6 V M)).bind fun(U:Bool) =>
 if U=true then
 some (.next (f4,f5,(v96.wrap (t6+1))))
 else
 if H.length<=1000000000 then
 if qa8 (H.length+1) 32=true then
 (some ((H++[M]):List Row)).bind fun(E:List Row) =>
 if((E.length:Int)==Z.Vars)=true then
 (qio E Z.Atoms).bind fun(J:Bool) =>
 if J=true then
 (qah (qdv E) ([],0)).bind (fun I =>
 (q0v I).bind fun(A:List Int) =>
 if((qg3 f4 (Arr3_int64.mk (A.getD 0 0) (A.getD 1 0) (A.getD 2 0))).getD false)=true then
 if((f5.length:Nat):Int)<=20000 then
 some (.next (f4,f5,(v96.wrap (t6+1))))
 else
 none
 else
 if qa8 (f5.length+1) 24=true then
 if(((f5.length+1):Nat):Int)<=20000 then
 some (.next ((qnx f4 (Arr3_int64.mk (A.getD 0 0) (A.getD 1 0) (A.getD 2 0)) true),(f5++[A]),(v96.wrap (t6+1))))
 else
 none
 else none)
 else
 some (.next (f4,f5,(v96.wrap (t6+1))))
 else
 none
 else none
 else none
 else
 some (.done (f4,f5))
def qdx(H:Table)(Z:Denial)(E:List Row):((List (Arr3_int64×Bool))×List (List Int)×Int)->Option (LS ((List (Arr3_int64×Bool))×List (List Int)×Int) ((List (Arr3_int64×Bool))×List (List Int))):=fun(f4,f5,t6) =>
 if t6<(H.Rows.length:Int) then
 (idx H.Rows t6).bind fun(I:Row) =>
 (qb5 E (fun(M:Row)=>qg6 M I)).bind fun(J:Bool) =>
 if J=true then
 some (.next (f4,f5,(v96.wrap (t6+1))))
 else
 if E.length<=1000000000 then
 if qa8 (E.length+1) 32=true then
 (some ((E++[I]):List Row)).bind fun(A:List Row) =>
 if((A.length:Int)==Z.Vars)=true then
 none
 else
 (qah (qdw H Z A) (f4,f5,0)).bind (fun(f11,b12) =>
 some (.next (f11,b12,(v96.wrap (t6+1)))))
 else none
 else none
 else
 some (.done (f4,f5))
def qea(H:Table)(Z:Denial):Option (List (List Int)×Int) :=
 (qkp H Z).bind fun(I:Int) =>
 if(I != 0)=true then
 some ([],I)
 else
 (some ([]:List (Arr3_int64×Bool))).bind fun(O:List (Arr3_int64×Bool)) =>
 (some (([]:List Row):List Row)).bind fun(E:List Row) =>
 if((E.length:Int)==Z.Vars)=true then
 none
 else
 (qah (qdx H Z E) (O,[],0)).bind (fun(f6,b7) =>
 (qxt (fun(M:List Int) (J:List Int)=>qae M J) b7).bind fun(A:List (List Int)) =>
 some (A,0))
def qc0(H:Table)(E:List Denial×Int):(List (List Int)×Int)->Option (LS (List (List Int)×Int) ((List (List Int))⊕(List (List Int)×Int))):=fun(o3,t4) =>
 if t4<(E.1.length:Int) then
 (idx E.1 t4).bind fun(I:Denial) =>
 (qea H I).bind fun(A:List (List Int)×Int) =>
 if(A.2 != 0)=true then
 some (.done (.inr ([],A.2)))
 else
 if qa8 (o3.length+A.1.length) 24=true then
 some (.next ((o3++A.1),(v96.wrap (t4+1))))
 else none
 else
 some (.done (.inl o3))
def qfy(H:Table)(E:Constraint):Option (List (List Int)×Int) :=
 (qda H E).bind fun(A:List Denial×Int) =>
 if(A.2 != 0)=true then
 some ([],A.2)
 else
 if(E.Kind==4)=true then
 none
 else
 if(E.Kind==5)=true then
 none
 else
 (qah (qc0 H A) ([],0)).bind (fun o=>match o with
 |.inl o4 =>
 some (o4,0)
 |.inr r5 =>
 some r5)
def qfe(J:List Int):Option (Arr3_int64) :=
 some (Arr3_int64.mk (J.getD 0 0) (J.getD 1 0) (J.getD 2 0))
def qbt(E:List (List Int)):(Int×Int)->Option (LS (Int×Int) (Int)):=fun(s2,t3) =>
 if t3<(E.length:Int) then
 (idx E t3).bind fun(A:List Int) =>
 if(v96.wrap (s2+(A.length:Int)))<0 then
 none
 else
 some (.next ((v96.wrap (s2+(A.length:Int))),(v96.wrap (t3+1))))
 else
 some (.done s2)
def qbu(E:List (List Int)):(List Int×Int)->Option (LS (List Int×Int) (List Int)):=fun(n2,t3) =>
 if t3<(E.length:Int) then
 (idx E t3).bind fun(A:List Int) =>
 if qa8 (n2.length+A.length) 8=true then
 some (.next ((n2++A),(v96.wrap (t3+1))))
 else none
 else
 some (.done n2)
def qbj(E:List (List Int)):Option (List Int) :=
 (qah (qbt E) (0,0)).bind (fun A =>
 if 0<=A then
 if A<=1000000000000 then
 (qah (qbu E) (([]:List Int),0)).bind (fun H =>
 some H)
 else none
 else none)
def qay(J:List Int)(E:List (Arr3_int64×Bool)):Int->Option (LS (Int) ((Unit)⊕(Bool))):=fun A =>
 if A<(J.length:Int) then
 if(J.length:Int)>1 then
 if 0<=A then
 if A<=(v96.wrap (A+1)) then
 if(v96.wrap (A+1))<=(J.length:Int) then
 (qfe ((J.drop A.toNat).take ((v96.wrap (A+1)).toNat-A.toNat))).bind fun(H:Arr3_int64) =>
 if((qg3 E H).getD false)=true then
 some (.done (.inr true))
 else
 if(J.length:Int)>2 then
 if(0:Int)<=A then
 if A<=(J.length:Int) then
 if 0<=(v96.wrap (A+1)) then
 (qbj [(J.take (A.toNat)),((J.drop (v96.wrap (A+1)).toNat).take (J.length-(v96.wrap (A+1)).toNat))]).bind fun(U:List Int) =>
 (qfe U).bind fun(M:Arr3_int64) =>
 if((qg3 E M).getD false)=true then
 some (.done (.inr true))
 else
 some (.next (v96.wrap (A+1)))
 else none
 else none
 else none
 else
 some (.next (v96.wrap (A+1)))
 else none
 else none
 else none
 else
 if(J.length:Int)>2 then
 if(0:Int)<=A then
 if A<=(J.length:Int) then
 if 0<=(v96.wrap (A+1)) then
 if(v96.wrap (A+1))<=(J.length:Int) then
 (qbj [(J.take (A.toNat)),((J.drop (v96.wrap (A+1)).toNat).take (J.length-(v96.wrap (A+1)).toNat))]).bind fun(I:List Int) =>
 (qfe I).bind fun(O:Arr3_int64) =>
 if((qg3 E O).getD false)=true then
 some (.done (.inr true))
 else
 some (.next (v96.wrap (A+1)))
 else none
 else none
 else none
 else none
 else
 some (.next (v96.wrap (A+1)))
 else
 some (.done (.inl ()))
def qbw(J:List Int)(A:List (Arr3_int64×Bool)):Option (Bool) :=
 (qah (qay J A) 0).bind (fun o=>match o with
 |.inl () =>
 some false
 |.inr r3 =>
 some r3)
def qg0(E:List Int)(I:List Int):Int->Option (LS (Int) ((Unit)⊕(Bool))):=fun A =>
 if A<(E.length:Int) then
 (idx E A).bind fun(J:Int) =>
 (idx I A).bind fun(H:Int) =>
 if(J != H)=true then
 some (.done (.inr false))
 else
 some (.next (v96.wrap (A+1)))
 else
 some (.done (.inl ()))
def qe1(E:List Int)(A:List Int):Option (Bool) :=
 if((E.length:Int) != (A.length:Int))=true then
 some false
 else
 (qah (qg0 E A) 0).bind (fun o=>match o with
 |.inl () =>
 some true
 |.inr r3 =>
 some r3)
def qeb(I:List (List Int)):((List (Arr3_int64×Bool))×Int)->Option (LS ((List (Arr3_int64×Bool))×Int) ((List (Arr3_int64×Bool)))):=fun(s2,t3) =>
 if t3<(I.length:Int) then
 (idx I t3).bind fun(A:List Int) =>
 (qfe A).bind fun(E:Arr3_int64) =>
 some (.next ((qnx s2 E true),(v96.wrap (t3+1))))
 else
 some (.done s2)
def qfz(I:List (List Int))(E:List (Arr3_int64×Bool)):(List (List Int)×Int)->Option (LS (List (List Int)×Int) (List (List Int))):=fun(o3,t4) =>
 if t4<(I.length:Int) then
 (idx I t4).bind fun(A:List Int) =>
 (qfe A).bind fun(O:Arr3_int64) =>
 (show Option (Bool) from
 if((qg3 E O).getD false)=true then
 (qbw A E).bind fun(J:Bool) =>
 some (!J)
 else
 some false).bind (fun M =>
 if M=true then
 (qgw A).bind fun(H:List Int) =>
 if qa8 (o3.length+1) 24=true then
 some (.next ((o3++[H]),(v96.wrap (t4+1))))
 else none
 else
 some (.next (o3,(v96.wrap (t4+1)))))
 else
 some (.done o3)
def qdb(J:List (List Int))(A:Int):(List (List Int)×Int×Int)->Option (LS (List (List Int)×Int×Int) (List (List Int)×Int)):=fun(s3,k4,k5) =>
 if k5<(((J.length-A.toNat):Nat):Int) then
 (idx ((s3.drop A.toNat).take (J.length-A.toNat)) k5).bind fun(E:List Int) =>
 (idx ((s3.drop A.toNat).take (J.length-A.toNat)) (v96.wrap (k5-1))).bind fun(H:List Int) =>
 (qe1 E H).bind fun(I:Bool) =>
 if I=true then
 some (.next (s3,k4,(v96.wrap (k5+1))))
 else
 (idx s3 k4).bind fun(M:List Int) =>
 some (.next ((s3.set k4.toNat E),(v96.wrap (k4+1)),(v96.wrap (k5+1))))
 else
 some (.done (s3,k4))
def qec(J:List (List Int)):Int->Option (LS (Int) ((Unit)⊕(List (List Int)))):=fun A =>
 if A<((J.length:Nat):Int) then
 (idx J A).bind fun(M:List Int) =>
 (idx J (v96.wrap (A-1))).bind fun(I:List Int) =>
 (qe1 M I).bind fun(O:Bool) =>
 if O=true then
 if 0<=A then
 if A<=((J.length:Nat):Int) then
 (qah (qdb J A) (J,A,1)).bind (fun(s6,k7) =>
 if 0<=k7 then
 if k7<=((s6.length:Nat):Int) then
 if(0:Int)<=k7 then
 if k7<=((((((s6.take k7.toNat)).length+((v6u (s6.length-k7.toNat) ([]:List Int))).length)+((s6.drop (k7.toNat+(s6.length-k7.toNat)))).length):Nat):Int) then
 (some ((((s6.take k7.toNat)++(v6u (s6.length-k7.toNat) ([]:List Int)))++(s6.drop (k7.toNat+(s6.length-k7.toNat)))):List (List Int))).bind fun(E:List (List Int)) =>
 if k7.toNat<=E.length then
 (some (E.take k7.toNat:List (List Int))).bind fun(H:List (List Int)) =>
 some (.done (.inr H))
 else none
 else none
 else none
 else none
 else none)
 else none
 else none
 else
 some (.next (v96.wrap (A+1)))
 else
 some (.done (.inl ()))
def qgh(I:List (List Int)):Option (List (List Int)) :=
 (qah (qeb I) ([],0)).bind (fun H =>
 (qah (qfz I H) ([],0)).bind (fun M =>
 (qxt (fun(E:List Int) (J:List Int)=>qae E J) M).bind fun(A:List (List Int)) =>
 if((A.length:Nat):Int)<2 then
 some A
 else
 (qah (qec A) 1).bind (fun o=>match o with
 |.inl () =>
 some A
 |.inr t7 =>
 some t7)))
def qfm(H:Table)(V:List Constraint):Int->Option (LS (Int) ((Unit)⊕(Hypergraph×Int))):=fun A =>
 if A<(V.length:Int) then
 (idx V A).bind fun(I:Constraint) =>
 (qda H I).bind fun(E:List Denial×Int) =>
 if(E.2 != 0)=true then
 some (.done (.inr ((Hypergraph.mk [] []),E.2)))
 else
 some (.next (v96.wrap (A+1)))
 else
 some (.done (.inl ()))
def qht(E:Table)(V:List Constraint):(List (List Int)×Int)->Option (LS (List (List Int)×Int) ((List (List Int))⊕(Hypergraph×Int))):=fun(a3,t4) =>
 if t4<(V.length:Int) then
 (idx V t4).bind fun(H:Constraint) =>
 (qfy E H).bind fun(A:List (List Int)×Int) =>
 if(A.2 != 0)=true then
 some (.done (.inr ((Hypergraph.mk [] []),A.2)))
 else
 if qa8 (a3.length+A.1.length) 24=true then
 some (.next ((a3++A.1),(v96.wrap (t4+1))))
 else none
 else
 some (.done (.inl a3))
def qhu(A:Table):(List Int×Int)->Option (LS (List Int×Int) (List Int)):=fun(h2,t3) =>
 if t3<(A.Rows.length:Int) then
 (idx A.Rows t3).bind fun(E:Row) =>
 if qa8 (h2.length+1) 8=true then
 some (.next ((h2++[E.ID]),(v96.wrap (t3+1))))
 else none
 else
 some (.done h2)
def qg7(A:Table)(V:List Constraint):Option (Hypergraph×Int) :=
 (qg4 A).bind fun(E:Int) =>
 if(E != 0)=true then
 some ((Hypergraph.mk [] []),E)
 else
 if(A.Rows.length:Int)>200 then
 some ((Hypergraph.mk [] []),3)
 else
 (qah (qfm A V) 0).bind (fun o=>match o with
 |.inl () =>
 (qah (qht A V) ([],0)).bind (fun o=>match o with
 |.inl a4 =>
 (qgh a4).bind fun(H:List (List Int)) =>
 (qah (qhu A) ([],0)).bind (fun I =>
 if(H.length:Int)>20000 then
 some ((Hypergraph.mk [] []),3)
 else
 some ((Hypergraph.mk I H),0))
 |.inr r7 =>
 some r7)
 |.inr r8 =>
 some r8)
def qe2(x1:Int):Option (Bool) :=
 some (x1 != x1)
def qbc(x1:List Int)(A:Int):(Int×Int)->Option (LS (Int×Int) (Int)):=fun(i3,j4) =>
 if i3<j4 then
 (idx x1 (v96.wrap (v90 (v98.wrap (v96.wrap (i3+j4))) (2^(min 1 64))))).bind fun(E:Int) =>
 (qkq E A).bind fun(H:Bool) =>
 if H=true then
 some (.next ((v96.wrap ((v96.wrap (v90 (v98.wrap (v96.wrap (i3+j4))) (2^(min 1 64))))+1)),j4))
 else
 some (.next (i3,(v96.wrap (v90 (v98.wrap (v96.wrap (i3+j4))) (2^(min 1 64))))))
 else
 some (.done i3)
def qaz(x1:List Int)(E:Int):Option (Int×Bool) :=
 (qah (qbc x1 E) (0,(x1.length:Int))).bind (fun A =>
 if A<(x1.length:Int) then
 (idx x1 A).bind fun(H:Int) =>
 if(H==E)=true then
 some (A,true)
 else
 (qe2 H).bind fun(J:Bool) =>
 if J=true then
 (qe2 E).bind fun(I:Bool) =>
 some (A,I)
 else
 some (A,false)
 else
 some (A,false))
def qfn(A:Table):(List Int×Int)->Option (LS (List Int×Int) (List Int)):=fun(i2,t3) =>
 if t3<(A.Rows.length:Int) then
 if qa8 (i2.length+1) 8=true then
 some (.next ((i2++[1]),(v96.wrap (t3+1))))
 else none
 else
 some (.done i2)
def qfo(A:Hypergraph×Int)(x2:List Int):(List Int×Int)->Option (LS (List Int×Int) (List Int)):=fun(x3,t4) =>
 if t4<(x2.length:Int) then
 (idx x2 t4).bind fun(E:Int) =>
 (qaz A.1.Vertices E).bind fun(H:Int×Bool) =>
 if qa8 (x3.length+1) 8=true then
 some (.next ((x3++[H.1]),(v96.wrap (t4+1))))
 else none
 else
 some (.done x3)
def qfp(A:Hypergraph×Int):(List (List Int)×Int)->Option (LS (List (List Int)×Int) (List (List Int))):=fun(i2,t3) =>
 if t3<(A.1.Edges.length:Int) then
 (idx A.1.Edges t3).bind fun(E:List Int) =>
 (qah (qfo A E) ([],0)).bind (fun H =>
 if qa8 (i2.length+1) 24=true then
 some (.next ((i2++[H]),(v96.wrap (t3+1))))
 else none)
 else
 some (.done i2)
def qkr(I:Table)(V:List Constraint)(A:List Int):Option (Instance×Int) :=
 (qg7 I V).bind fun(E:Hypergraph×Int) =>
 if(E.2 != 0)=true then
 some ((Instance.mk [] []),E.2)
 else
 if(A.length:Int)>0 then
 none
 else
 if qa8 A.length 8=true then
 if((A.length:Int)==0)=true then
 (qah (qfn I) (A,0)).bind (fun J =>
 (qah (qfp E) ([],0)).bind (fun M =>
 (qgv (Instance.mk J M)).bind fun(H:Int) =>
 if(H != 0)=true then
 some ((Instance.mk [] []),H)
 else
 some ((Instance.mk J M),0)))
 else
 none
 else none
def qfq(I:Table)(A:List Int×Int×Int):(List Int×Int)->Option (LS (List Int×Int) (List Int)):=fun(r3,t4) =>
 if t4<(A.1.length:Int) then
 (idx A.1 t4).bind fun(H:Int) =>
 (idx I.Rows H).bind fun(E:Row) =>
 if qa8 (r3.length+1) 8=true then
 some (.next ((r3++[E.ID]),(v96.wrap (t4+1))))
 else none
 else
 some (.done r3)
def qi2(J:Table)(V:List Constraint)(O:List Int)(I:Int):Option (Repair×Int) :=
 (qkr J V O).bind fun(E:Instance×Int) =>
 if(E.2 != 0)=true then
 some ((Repair.mk [] 0 []),E.2)
 else
 if I<1 then
 some ((Repair.mk [] 0 []),1)
 else
 (qg5 E.1 I).bind fun(A:List Int×Int×Int) =>
 if(A.2.2 != 0)=true then
 some ((Repair.mk [] 0 []),A.2.2)
 else
 (qjn E.1 A.2.1 I).bind fun(H:List Node×Int) =>
 if(H.2 != 0)=true then
 some ((Repair.mk [] 0 []),H.2)
 else
 (qah (qfq J A) ([],0)).bind (fun M =>
 some ((Repair.mk M A.2.1 H.1),0))
def qhv(J:List FD):(List Constraint×Int)->Option (LS (List Constraint×Int) (List Constraint)):=fun(o2,t3) =>
 if t3<(J.length:Int) then
 (idx J t3).bind fun(A:FD) =>
 if(0:Int)<=(v95.wrap (v96.wrap (97+t3))) then
 if(v95.wrap (v96.wrap (97+t3)))<128 then
 if qa8 (o2.length+1) 272=true then
 some (.next ((o2++[(Constraint.mk [UInt8.ofNat (v95.wrap (v96.wrap (97+t3))).toNat] [114] 1 A (FD.mk 0 0) (IND.mk [] [] [] []) (CFD.mk [] 0 []) (OD.mk [] []) (Denial.mk 0 []))]),(v96.wrap (t3+1))))
 else none
 else none
 else none
 else
 some (.done o2)
def qei(J:List FD):Option (List Constraint) :=
 (qah (qhv J) ([],0)).bind (fun O =>
 some O)
def qg1(A:List Int):(List Value×Int)->Option (LS (List Value×Int) (List Value)):=fun(o2,i3) =>
 if i3<(A.length:Int) then
 (idx A i3).bind fun(E:Int) =>
 (qc5 E).bind fun(H:Value) =>
 if qa8 (o2.length+1) 32=true then
 some (.next ((o2++[H]),(v96.wrap (i3+1))))
 else none
 else
 some (.done o2)
def qjo(A:List Int):Option (List Value) :=
 (qah (qg1 A) ([],0)).bind (fun O =>
 some O)
def qm9(J:List Int):Int->Option (LS (Int) ((Unit)⊕(Bool))):=fun A =>
 if A<(J.length:Int) then
 (idx J A).bind fun(E:Int) =>
 (idx J (v96.wrap (A-1))).bind fun(H:Int) =>
 if E<=H then
 some (.done (.inr false))
 else
 some (.next (v96.wrap (A+1)))
 else
 some (.done (.inl ()))
def qg2(J:List Int):Option (Bool) :=
 (qah (qm9 J) 1).bind (fun o=>match o with
 |.inl () =>
 some true
 |.inr r2 =>
 some r2)
def qki(J:List Int)(E:List Int):Int->Option (LS (Int) ((Unit)⊕(Bool))):=fun A =>
 if A<(E.length:Int) then
 (idx E A).bind fun(H:Int) =>
 (qaz J H).bind fun(I:Int×Bool) =>
 if I.2=true then
 some (.next (v96.wrap (A+1)))
 else
 some (.done (.inr false))
 else
 some (.done (.inl ()))
def qhw(J:List Int)(A:List Int):Option (Bool) :=
 (qah (qki J A) 0).bind (fun o=>match o with
 |.inl () =>
 some true
 |.inr r3 =>
 some r3)
def qmn(h1:Hypergraph):Int->Option (LS (Int) ((Unit)⊕(Bool))):=fun A =>
 if A<(h1.Edges.length:Int) then
 (idx h1.Edges A).bind fun(E:List Int) =>
 if((E.length:Int)==0)=true then
 some (.done (.inr false))
 else
 (qg2 E).bind fun(H:Bool) =>
 if H=true then
 (qhw h1.Vertices E).bind fun(M:Bool) =>
 if M=true then
 if A>0 then
 (idx h1.Edges (v96.wrap (A-1))).bind fun(J:List Int) =>
 (qae J E).bind fun(I:Int) =>
 if I>=0 then
 some (.done (.inr false))
 else
 some (.next (v96.wrap (A+1)))
 else
 some (.next (v96.wrap (A+1)))
 else
 some (.done (.inr false))
 else
 some (.done (.inr false))
 else
 some (.done (.inl ()))
def qmo(h1:Hypergraph)(H:Int)(J:List Int):Int->Option (LS (Int) ((Unit)⊕(Bool))):=fun A =>
 if A<(h1.Edges.length:Int) then
 (idx h1.Edges A).bind fun(I:List Int) =>
 if(H != A)=true then
 (qhw J I).bind fun(E:Bool) =>
 if E=true then
 some (.done (.inr false))
 else
 some (.next (v96.wrap (A+1)))
 else
 some (.next (v96.wrap (A+1)))
 else
 some (.done (.inl ()))
def qmp(h1:Hypergraph):Int->Option (LS (Int) ((Unit)⊕(Bool))):=fun A =>
 if A<(h1.Edges.length:Int) then
 (idx h1.Edges A).bind fun(E:List Int) =>
 (qah (qmo h1 A E) 0).bind (fun o=>match o with
 |.inl () =>
 some (.next (v96.wrap (A+1)))
 |.inr r4 =>
 some (.done (.inr r4)))
 else
 some (.done (.inl ()))
def qm2(h1:Hypergraph):Option (Bool) :=
 (qg2 h1.Vertices).bind fun(A:Bool) =>
 if A=true then
 if(h1.Edges.length:Int)>20000 then
 some false
 else
 (qah (qmn h1) 0).bind (fun o=>match o with
 |.inl () =>
 (qah (qmp h1) 0).bind (fun o=>match o with
 |.inl () =>
 some true
 |.inr r3 =>
 some r3)
 |.inr r4 =>
 some r4)
 else
 some false
def qlw(h1:Hypergraph):Option (Int) :=
 (qm2 h1).bind fun(A:Bool) =>
 if A=true then
 if(h1.Vertices.length:Int)>40 then
 some 3
 else
 some 0
 else
 some 1
def qlb(H:List Int):Int->Option (LS (Int) (Int)):=fun A =>
 (idx H A).bind fun(E:Int) =>
 if(E != A)=true then
 some (.next E)
 else
 some (.done A)
def qch(H:Int)(E:List Int):Option (Int) :=
 (qah (qlb E) H).bind (fun A =>
 some A)
def qdg(A:Int)(E:Hypergraph):Option (Int) :=
 (qaz E.Vertices A).bind fun(H:Int×Bool) =>
 some H.1
def ql8(h1:Hypergraph):(List Int×Int)->Option (LS (List Int×Int) (List Int)):=fun(p2,t3) =>
 if t3<((h1.Vertices.length:Nat):Int) then
 (idx p2 t3).bind fun(A:Int) =>
 some (.next ((p2.set t3.toNat t3),(v96.wrap (t3+1))))
 else
 some (.done p2)
def qi5(h1:Hypergraph)(x2:List Int):(List Int×Int)->Option (LS (List Int×Int) (List Int)):=fun(p3,t4) =>
 if t4<(((x2.drop 1).take (x2.length-1)).length:Int) then
 (idx ((x2.drop 1).take (x2.length-1)) t4).bind fun(O:Int) =>
 (x2[0]?).bind fun(M:Int) =>
 (qdg M h1).bind fun(J:Int) =>
 (qch J p3).bind fun(E:Int) =>
 (qdg O h1).bind fun(H:Int) =>
 (qch H p3).bind fun(A:Int) =>
 (idx p3 (if A>E then A else E)).bind fun(I:Int) =>
 some (.next ((p3.set (if A>E then A else E).toNat (if A<E then A else E)),(v96.wrap (t4+1))))
 else
 some (.done p3)
def qi6(h1:Hypergraph):(List Int×Int)->Option (LS (List Int×Int) (List Int)):=fun(p2,t3) =>
 if t3<(h1.Edges.length:Int) then
 (idx h1.Edges t3).bind fun(A:List Int) =>
 if(1:Int)<=(A.length:Int) then
 (qah (qi5 h1 A) (p2,0)).bind (fun E =>
 some (.next (E,(v96.wrap (t3+1)))))
 else none
 else
 some (.done p2)
def qi7(h1:Hypergraph)(J:List Int):(List (List Int)×(List (Int×Int))×Int)->Option (LS (List (List Int)×(List (Int×Int))×Int) (List (List Int)×(List (Int×Int)))):=fun(o3,i4,t5) =>
 if t5<(h1.Vertices.length:Int) then
 (idx h1.Vertices t5).bind fun(H:Int) =>
 (qch t5 J).bind fun(A:Int) =>
 if(qg3 i4 A).isSome=true then
 (idx o3 ((qg3 i4 A).getD 0)).bind fun(I:List Int) =>
 if qa8 (I.length+1) 8=true then
 some (.next ((o3.set (((qg3 i4 A).getD 0).toNat) (I++[H])),i4,(v96.wrap (t5+1))))
 else none
 else
 if qa8 (o3.length+1) 48=true then
 (idx (o3++[([]:List Int)]) ((qg3 (qnx i4 A ((o3.length:Nat):Int)) A).getD 0)).bind fun(E:List Int) =>
 if qa8 (E.length+1) 8=true then
 some (.next (((o3++[([]:List Int)]).set (((qg3 (qnx i4 A ((o3.length:Nat):Int)) A).getD 0).toNat) (E++[H])),(qnx i4 A ((o3.length:Nat):Int)),(v96.wrap (t5+1))))
 else none
 else none
 else
 some (.done (o3,i4))
def qi8(h1:Hypergraph)(O:List Int)(J:List (Int×Int)):(List (List (List Int))×Int)->Option (LS (List (List (List Int))×Int) (List (List (List Int)))):=fun(o4,t5) =>
 if t5<(h1.Edges.length:Int) then
 (idx h1.Edges t5).bind fun(I:List Int) =>
 (I[0]?).bind fun(M:Int) =>
 (qdg M h1).bind fun(U:Int) =>
 (qch U O).bind fun(H:Int) =>
 (idx o4 ((qg3 J H).getD 0)).bind fun(A:List (List Int)) =>
 (qgw I).bind fun(E:List Int) =>
 if qa8 (A.length+1) 24=true then
 some (.next ((o4.set (((qg3 J H).getD 0).toNat) (A++[E])),(v96.wrap (t5+1))))
 else none
 else
 some (.done o4)
def qih(h1:Hypergraph):Option (List Hypergraph) :=
 if 0<=(h1.Vertices.length:Int) then
 if qa8 h1.Vertices.length 8=true then
 (qah (ql8 h1) ((v6u h1.Vertices.length 0),0)).bind (fun H =>
 (qah (qi6 h1) (H,0)).bind (fun A =>
 (qah (qi7 h1 A) ([],[],0)).bind (fun(o4,i5) =>
 (some ((v6u o4.length ([]:List (List Int))):List (List (List Int)))).bind fun(I:List (List (List Int))) =>
 (qah (qi8 h1 A i5) (I,0)).bind (fun E =>
 if o4.length=E.length then
 some (List.zipWith Hypergraph.mk o4 E)
 else none))))
 else none
 else none
def qna(E:List Int)(H:Int):Int->Option (LS (Int) ((Unit)⊕(Int))):=fun A =>
 if A<(E.length:Int) then
 (idx E A).bind fun(I:Int) =>
 if(H==I)=true then
 some (.done (.inr A))
 else
 some (.next (v96.wrap (A+1)))
 else
 some (.done (.inl ()))
def qjc(E:List Int)(A:Int):Option (Int) :=
 (qah (qna E A) 0).bind (fun o=>match o with
 |.inl () =>
 some (-1)
 |.inr r3 =>
 some r3)
def qkg(E:List Int)(H:Int->Option (Bool)):Int->Option (LS (Int) ((Unit)⊕(Int))):=fun A =>
 if A<(E.length:Int) then
 (idx E A).bind fun(I:Int) =>
 (H I).bind fun(J:Bool) =>
 if J=true then
 some (.done (.inr A))
 else
 some (.next (v96.wrap (A+1)))
 else
 some (.done (.inl ()))
def qff(E:List Int)(A:Int->Option (Bool)):Option (Int) :=
 (qah (qkg E A) 0).bind (fun o=>match o with
 |.inl () =>
 some (-1)
 |.inr r3 =>
 some r3)
def qcq(H:List Int)(E:Int->Option (Bool)):Option (Bool) :=
 (qff H E).bind fun(A:Int) =>
 some (decide (A>=0))
def qdz(E:Int)(A:Int)(H:Int)(c4:Int):Option (Bool) :=
 if A<0 then none else
 if((v98.wrap ((BitVec.ofInt 64 (v90 E (2^(min (A).toNat 64)))&&&(1#64)).toNat:Int))==1)=true then
 some ((v98.wrap ((BitVec.ofInt 64 (v98.wrap ((BitVec.ofInt 64 E &&& ~~~ (BitVec.ofInt 64 (v98.wrap (1*2^(min (A).toNat 64))))).toNat:Int)) &&& ~~~ (BitVec.ofInt 64 (v98.wrap ((BitVec.ofInt 64 H|||(BitVec.ofInt 64 c4)).toNat:Int)))).toNat:Int))==0)
 else
 some false
def qfg(A:Int)(E:Int):Option (Bool) :=
 some ((v98.wrap ((BitVec.ofInt 64 A &&& ~~~ (BitVec.ofInt 64 E)).toNat:Int))==0)
def qmq(h1:Hypergraph)(x2:List Int):(Int×Int)->Option (LS (Int×Int) (Int)):=fun(b3,t4) =>
 if t4<(x2.length:Int) then
 (idx x2 t4).bind fun(E:Int) =>
 (qjc h1.Vertices E).bind fun(A:Int) =>
 if A<0 then none else
 some (.next ((v98.wrap ((BitVec.ofInt 64 b3|||(BitVec.ofInt 64 (v98.wrap (1*2^(min (A).toNat 64))))).toNat:Int)),(v96.wrap (t4+1))))
 else
 some (.done b3)
def qmr(h1:Hypergraph):(List Int×Int)->Option (LS (List Int×Int) (List Int)):=fun(w2,t3) =>
 if t3<(h1.Edges.length:Int) then
 (idx h1.Edges t3).bind fun(E:List Int) =>
 (qah (qmq h1 E) (0,0)).bind (fun A =>
 if qa8 (w2.length+1) 8=true then
 some (.next ((w2++[A]),(v96.wrap (t3+1))))
 else none)
 else
 some (.done w2)
def qms(h1:Hypergraph)(H:List Int)(E:Int)(O:Int)(J:Int):Int->Option (LS (Int) ((Unit)⊕(Unit))):=fun A =>
 if A<E then
 if A<0 then none else
 if((v98.wrap ((BitVec.ofInt 64 (v90 J (2^(min (A).toNat 64)))&&&(1#64)).toNat:Int))==1)=true then
 (qcq H (fun(I:Int)=>qdz I A O (v98.wrap ((BitVec.ofInt 64 (v98.wrap (18446744073709551615*2^(min (E).toNat 64)))&&&(BitVec.ofInt 64 (v98.wrap ((v98.wrap (1*2^(min h1.Vertices.length 64)))-1)))).toNat:Int)))).bind fun(M:Bool) =>
 if M=true then
 some (.next (v96.wrap (A+1)))
 else
 some (.done (.inr ()))
 else
 some (.next (v96.wrap (A+1)))
 else
 some (.done (.inl ()))
def qhx(h1:Hypergraph)(J:Int)(H:List Int)(A:(List Int×Int×Int×Int)->Option (Bool×List Int)):(List Int×Int×Int×Int)->Option (Bool×List Int):=fun(i5,v6,i7,o8) =>
 if v6<0 then none else
 if(h1.Vertices.length:Int)<0 then none else
 (qah (qms h1 H v6 i7 o8) 0).bind (fun o=>match o with
 |.inl () =>
 if(v6==(h1.Vertices.length:Int))=true then
 if qa8 (i5.length+1) 8=true then
 some ((decide ((((i5.length+1):Nat):Int)<=J)),(i5++[i7]))
 else none
 else
 (qcq H (fun(I:Int)=>qfg I (v98.wrap ((BitVec.ofInt 64 i7|||(BitVec.ofInt 64 (v98.wrap (1*2^(min (v6).toNat 64))))).toNat:Int)))).bind fun(E:Bool) =>
 if E=true then
 (A (i5,(v96.wrap (v6+1)),i7,(v98.wrap ((BitVec.ofInt 64 o8|||(BitVec.ofInt 64 (v98.wrap (1*2^(min (v6).toNat 64))))).toNat:Int)))).bind (fun(o:Bool×List Int)=>match o with
 |(t11,i12) =>
 some (t11,i12))
 else
 (A (i5,(v96.wrap (v6+1)),(v98.wrap ((BitVec.ofInt 64 i7|||(BitVec.ofInt 64 (v98.wrap (1*2^(min (v6).toNat 64))))).toNat:Int)),o8)).bind (fun(o:Bool×List Int)=>match o with
 |(t13,i14) =>
 if t13=true then
 (A (i14,(v96.wrap (v6+1)),i7,(v98.wrap ((BitVec.ofInt 64 o8|||(BitVec.ofInt 64 (v98.wrap (1*2^(min (v6).toNat 64))))).toNat:Int)))).bind (fun(o:Bool×List Int)=>match o with
 |(t15,i16) =>
 some (t15,i16))
 else
 some (false,i14))
 |.inr () =>
 some (true,i5))
def qm3(h1:Hypergraph)(E:Int):Option (List Int×Bool) :=
 (qah (qmr h1) ([],0)).bind (fun A =>
 (q8a (qhx h1 E A) 64 ([],0,0,0)).bind (fun(o:Bool×List Int)=>match o with
 |(t4,i5) =>
 some (i5,t4)))
def qlx(E:List Hypergraph):(List (List Int)×Int×Int)->Option (LS (List (List Int)×Int×Int) ((List (List Int)×Int)⊕(List Hypergraph×List (List Int)×Int×Int))):=fun(l2,t3,t4) =>
 if t4<(E.length:Int) then
 (idx E t4).bind fun(H:Hypergraph) =>
 (qm3 H 100000).bind fun(A:List Int×Bool) =>
 if A.2=true then
 if qa8 (l2.length+1) 24=true then
 if(v96.wrap (t3*(A.1.length:Int)))>1000000000000000 then
 some (.done (.inr ([],[],0,3)))
 else
 some (.next ((l2++[A.1]),(v96.wrap (t3*(A.1.length:Int))),(v96.wrap (t4+1))))
 else none
 else
 some (.done (.inr ([],[],0,3)))
 else
 some (.done (.inl (l2,t3)))
def qly(h1:Hypergraph):Option (List Hypergraph×List (List Int)×Int×Int) :=
 (qih h1).bind fun(A:List Hypergraph) =>
 (qah (qlx A) ([],1,0)).bind (fun o=>match o with
 |.inl (l3,t4) =>
 some (A,l3,t4,0)
 |.inr r5 =>
 some r5)
def qhy(h1:Hypergraph):Option (Int×Int) :=
 (qlw h1).bind fun(E:Int) =>
 if(E != 0)=true then
 some (0,E)
 else
 (qly h1).bind fun(A:List Hypergraph×List (List Int)×Int×Int) =>
 some (A.2.2.1,A.2.2.2)
def qed(J:List (List Int)):(List Row×Int)->Option (LS (List Row×Int) (List Row)):=fun(t2,t3) =>
 if t3<3 then
 (idx J t3).bind fun(E:List Int) =>
 (qjo E).bind fun(A:List Value) =>
 if qa8 (t2.length+1) 32=true then
 some (.next ((t2++[(Row.mk (v96.wrap (t3+1)) A)]),(v96.wrap (t3+1))))
 else none
 else
 some (.done t2)
def qgi:Option (Bool) :=
 (some ([[0,1],[0,2],[1,1]]:List (List Int))).bind fun(J:List (List Int)) =>
 (qah (qed J) ([],0)).bind (fun A =>
 (qei [(FD.mk 1 2)]).bind fun(E:List Constraint) =>
 (qi2 (Table.mk [114] [[97],[98]] A) E [] 1000000).bind fun(H:Repair×Int) =>
 (E[0]?).bind fun(U:Constraint) =>
 (qi0 (Table.mk [114] [[97],[98]] A) [U.FD] 1000000).bind fun(M:Update×Int) =>
 (qg7 (Table.mk [114] [[97],[98]] A) E).bind fun(I:Hypergraph×Int) =>
 (qhy I.1).bind fun(O:Int×Int) =>
 if(H.2==0)=true then
 if(H.1.Weight==1)=true then
 if(M.2==0)=true then
 if((M.1.Cells.length:Int)==1)=true then
 if(I.2==0)=true then
 if(O.2==0)=true then
 some (O.1==2)
 else
 some false
 else
 some false
 else
 some false
 else
 some false
 else
 some false
 else
 some false)
def qd3(E:List (List UInt8))(I:List (List UInt8)):Int->Option (LS (Int) ((Unit)⊕(Bool))):=fun A =>
 if A<(E.length:Int) then
 (idx E A).bind fun(J:List UInt8) =>
 (idx I A).bind fun(H:List UInt8) =>
 if(J==H)=true then
 some (.next (v96.wrap (A+1)))
 else
 some (.done (.inr false))
 else
 some (.done (.inl ()))
def qf0(E:List (List UInt8))(A:List (List UInt8)):Option (Bool) :=
 if((E.length:Int) != (A.length:Int))=true then
 some false
 else
 (qah (qd3 E A) 0).bind (fun o=>match o with
 |.inl () =>
 some true
 |.inr r3 =>
 some r3)
def qdq(E:List Row)(O:List Row)(M:Row->Row->Option (Bool)):Int->Option (LS (Int) ((Unit)⊕(Bool))):=fun A =>
 if A<(E.length:Int) then
 (idx E A).bind fun(J:Row) =>
 (idx O A).bind fun(I:Row) =>
 (M J I).bind fun(H:Bool) =>
 if H=true then
 some (.next (v96.wrap (A+1)))
 else
 some (.done (.inr false))
 else
 some (.done (.inl ()))
def qhg(E:List Row)(A:List Row)(H:Row->Row->Option (Bool)):Option (Bool) :=
 if((E.length:Int) != (A.length:Int))=true then
 some false
 else
 (qah (qdq E A H) 0).bind (fun o=>match o with
 |.inl () =>
 some true
 |.inr r4 =>
 some r4)
def qi3(I:Row)(A:Row):Option (Bool) :=
 some (I.ID==A.ID)
def qnb(A:Table)(E:Table):Option (Bool) :=
 if(A.Name==E.Name)=true then
 (qf0 A.Attrs E.Attrs).bind fun(J:Bool) =>
 if J=true then
 (qhg A.Rows E.Rows (fun(H:Row) (M:Row)=>qi3 H M)).bind fun(I:Bool) =>
 some I
 else
 none
 else
 none
def qee(M:Table)(I:Int)(A:Row):(List CellRef×Int)->Option (LS (List CellRef×Int) (List CellRef)):=fun(o4,t5) =>
 if t5<(A.Values.length:Int) then
 (idx A.Values t5).bind fun(J:Value) =>
 (idx M.Rows I).bind fun(H:Row) =>
 (idx H.Values t5).bind fun(O:Value) =>
 (qfd J O).bind fun(E:Int) =>
 if(E != 0)=true then
 if qa8 (o4.length+1) 16=true then
 some (.next ((o4++[(CellRef.mk A.ID t5)]),(v96.wrap (t5+1))))
 else none
 else
 some (.next (o4,(v96.wrap (t5+1))))
 else
 some (.done o4)
def qf1(A:Table)(H:Table):(List CellRef×Int)->Option (LS (List CellRef×Int) (List CellRef)):=fun(o3,t4) =>
 if t4<(A.Rows.length:Int) then
 (idx A.Rows t4).bind fun(I:Row) =>
 (qah (qee H t4 I) (o3,0)).bind (fun E =>
 some (.next (E,(v96.wrap (t4+1)))))
 else
 some (.done o3)
def qip(E:Table)(H:Table):Option (List CellRef) :=
 (qah (qf1 E H) ([],0)).bind (fun A =>
 some A)
def qgj(O:Instance)(V:List Int)(E:Share)(M:List Int):(List Int×Int)->Option (LS (List Int×Int) ((List Int)⊕(Unit))):=fun(l5,t6) =>
 if t6<(M.length:Int) then
 (idx M t6).bind fun(A:Int) =>
 (idx l5 A).bind fun(I:Int) =>
 (idx V A).bind fun(U:Int) =>
 if(U==0)=true then
 (idx (l5.set A.toNat (v96.wrap (I+E.Amount))) A).bind fun(H:Int) =>
 (idx O.Weights A).bind fun(J:Int) =>
 if H>J then
 some (.done (.inr ()))
 else
 some (.next ((l5.set A.toNat (v96.wrap (I+E.Amount))),(v96.wrap (t6+1))))
 else
 some (.next ((l5.set A.toNat (v96.wrap (I+E.Amount))),(v96.wrap (t6+1))))
 else
 some (.done (.inl l5))
def qgk(E:Instance)(H:List Int)(I:Node):(List Int×Int×Int)->Option (LS (List Int×Int×Int) ((Int)⊕(Unit))):=fun(l4,s5,t6) =>
 if t6<(I.Shares.length:Int) then
 (idx I.Shares t6).bind fun(A:Share) =>
 if A.Edge<0 then
 some (.done (.inr ()))
 else
 if A.Edge>=(E.Edges.length:Int) then
 some (.done (.inr ()))
 else
 if A.Amount<1 then
 some (.done (.inr ()))
 else
 if A.Amount>1000000000000 then
 some (.done (.inr ()))
 else
 (idx E.Edges A.Edge).bind fun(J:List Int) =>
 (qbd (Hitset_search.mk E H 0) J 1).bind fun(M:Bool) =>
 if M=true then
 some (.done (.inr ()))
 else
 (qah (qgj E H A J) (l4,0)).bind (fun o=>match o with
 |.inl l10 =>
 some (.next (l10,(v96.wrap (s5+A.Amount)),(v96.wrap (t6+1))))
 |.inr () =>
 some (.done (.inr ())))
 else
 some (.done (.inl s5))
def qem(E:Instance)(J:(List Int×List Node×Int)->Option (List Node×Bool×List Int)):(List Int×List Node×Int)->Option (List Node×Bool×List Int):=fun(s3,p4,b5) =>
 if((p4.length:Int)==0)=true then
 some ([],false,s3)
 else
 (p4[0]?).bind fun(A:Node) =>
 if(1:Int)<=(p4.length:Int) then
 (show Option (Bool) from
 if(A.Vertex==(-1))=true then
 some ((A.Shares.length:Int)==0)
 else
 some false).bind (fun U =>
 if U=true then
 if b5<=0 then
 some (((p4.drop 1).take (p4.length-1)),true,s3)
 else
 (qdm (Hitset_search.mk E s3 0)).bind fun(V:Bool) =>
 some (((p4.drop 1).take (p4.length-1)),V,s3)
 else
 if(A.Vertex==(-1))=true then
 if(A.Shares.length:Int)>10000 then
 some (((p4.drop 1).take (p4.length-1)),false,s3)
 else
 if 0<=((s3.length:Nat):Int) then
 if qa8 s3.length 8=true then
 (qah (qgk E s3 A) ((v6u s3.length 0),0,0)).bind (fun o=>match o with
 |.inl s9 =>
 some (((p4.drop 1).take (p4.length-1)),(decide (s9>=b5)),s3)
 |.inr () =>
 some (((p4.drop 1).take (p4.length-1)),false,s3))
 else none
 else none
 else
 if A.Vertex<0 then
 some ([],false,s3)
 else
 if A.Vertex>=((s3.length:Nat):Int) then
 some ([],false,s3)
 else
 if(A.Shares.length:Int)>0 then
 some ([],false,s3)
 else
 (idx s3 A.Vertex).bind fun(H:Int) =>
 if(H != 0)=true then
 some ([],false,s3)
 else
 (idx E.Weights A.Vertex).bind fun(I:Int) =>
 (J ((s3.set A.Vertex.toNat 1),((p4.drop 1).take (p4.length-1)),(v96.wrap (b5-I)))).bind (fun(o:List Node×Bool×List Int)=>match o with
 |(t12,t13,b14) =>
 if t13=true then
 (idx b14 A.Vertex).bind fun(O:Int) =>
 (J ((b14.set A.Vertex.toNat 2),t12,b5)).bind (fun(o:List Node×Bool×List Int)=>match o with
 |(t16,t17,b18) =>
 (idx b18 A.Vertex).bind fun(M:Int) =>
 some (t16,t17,(b18.set A.Vertex.toNat 0)))
 else
 (idx b14 A.Vertex).bind fun(W:Int) =>
 some (t12,t13,(b14.set A.Vertex.toNat 0))))
 else none
def qlc(A:Instance)(E:Int)(I:List Node):Option (Bool) :=
 (qgv A).bind fun(H:Int) =>
 if(H != 0)=true then
 none
 else
 if E<(-1000000000000000) then
 none
 else
 if E>1000000000000000 then
 none
 else
 if 0<=(A.Weights.length:Int) then
 if qa8 A.Weights.length 8=true then
 (q8a (qem A) 64 ((v6u A.Weights.length 0),I,E)).bind (fun(o:List Node×Bool×List Int)=>match o with
 |(t5,t6,b7) =>
 if t6=true then
 some ((t5.length:Int)==0)
 else
 none)
 else none
 else none
def qjp(J:Update)(E:List CellRef):Int->Option (LS (Int) ((Unit)⊕(Bool))):=fun A =>
 if A<(E.length:Int) then
 (idx E A).bind fun(M:CellRef) =>
 (qaw J.Cells M (fun(I:CellRef) (O:CellRef)=>qam I O)).bind fun(H:Int×Bool) =>
 if H.2=true then
 some (.next (v96.wrap (A+1)))
 else
 none
 else
 some (.done (.inl ()))
def qjq(J:Table)(I:List FD)(E:Update):Int->Option (LS (Int) ((Unit)⊕(Bool))):=fun A =>
 if A<(E.Cores.length:Int) then
 (idx E.Cores A).bind fun(H:List CellRef) =>
 (qh9 J I H).bind fun(U:Int) =>
 if(U != 0)=true then
 none
 else
 (qge J I H).bind fun(O:Bool) =>
 if O=true then
 if A>0 then
 (idx E.Cores (v96.wrap (A-1))).bind fun(V:List CellRef) =>
 (qbk V H).bind fun(M:Int) =>
 if M>=0 then
 none
 else
 some (.next (v96.wrap (A+1)))
 else
 some (.next (v96.wrap (A+1)))
 else
 none
 else
 some (.done (.inl ()))
def qnc(E:Table)(H:List FD)(A:Update):Option (Bool) :=
 (qh9 E H A.Cells).bind fun(O:Int) =>
 if(O != 0)=true then
 none
 else
 (qg4 A.Table).bind fun(W:Int) =>
 if(W != 0)=true then
 none
 else
 (qnb E A.Table).bind fun(U:Bool) =>
 if U=true then
 (qip E A.Table).bind fun(M:List CellRef) =>
 (qah (qjp A M) 0).bind (fun o=>match o with
 |.inl () =>
 (qah (qjq E H A) 0).bind (fun o=>match o with
 |.inl () =>
 (qko A.Cores).bind fun(V:Instance×List CellRef) =>
 (qgy A.Table H []).bind fun(J:Bool) =>
 if J=true then
 (qlc V.1 (A.Cells.length:Int) A.Proof).bind fun(I:Bool) =>
 some I
 else
 none
 |.inr r11 =>
 some r11)
 |.inr r12 =>
 some r12)
 else
 none
def qca(E:List Table)(H:Table->Option (Bool)):Int->Option (LS (Int) ((Unit)⊕(Int))):=fun A =>
 if A<(E.length:Int) then
 (idx E A).bind fun(I:Table) =>
 (H I).bind fun(J:Bool) =>
 if J=true then
 some (.done (.inr A))
 else
 some (.next (v96.wrap (A+1)))
 else
 some (.done (.inl ()))
def qd4(E:List Table)(A:Table->Option (Bool)):Option (Int) :=
 (qah (qca E A) 0).bind (fun o=>match o with
 |.inl () =>
 some (-1)
 |.inr r3 =>
 some r3)
def qj7(A:Table)(E:List UInt8):Option (Bool) :=
 some (A.Name==E)
def qii(E:Database)(I:List UInt8):Option (Table×Bool) :=
 (qd4 E.Tables (fun(J:Table)=>qj7 J I)).bind fun(A:Int) =>
 if A<0 then
 some ((Table.mk [] [] []),false)
 else
 (idx E.Tables A).bind fun(H:Table) =>
 some (H,true)
def qe3(E:Database):Int->Option (LS (Int) ((Unit)⊕(Int))):=fun A =>
 if A<(E.Tables.length:Int) then
 (idx E.Tables A).bind fun(I:Table) =>
 (qg4 I).bind fun(H:Int) =>
 if(H != 0)=true then
 some (.done (.inr H))
 else
 if(0:Int)<=A then
 if A<=(E.Tables.length:Int) then
 (qii (Database.mk (E.Tables.take (A.toNat))) I.Name).bind fun(J:Table×Bool) =>
 if J.2=true then
 some (.done (.inr 5))
 else
 some (.next (v96.wrap (A+1)))
 else none
 else none
 else
 some (.done (.inl ()))
def qjr(E:Database):Option (Int) :=
 if(E.Tables.length:Int)>50 then
 some 3
 else
 (qah (qe3 E) 0).bind (fun o=>match o with
 |.inl () =>
 some 0
 |.inr r2 =>
 some r2)
def qld(A:Int):Option (Bool) :=
 if A>=97 then
 if A<=122 then
 some true
 else
 if A>=65 then
 if A<=90 then
 some true
 else
 some (A==95)
 else
 some (A==95)
 else
 if A>=65 then
 if A<=90 then
 some true
 else
 some (A==95)
 else
 some (A==95)
def qvo(A:Int):Option (Bool) :=
 if A>=48 then
 some (decide (A<=57))
 else
 some false
def qhz(E:List UInt8):Int->Option (LS (Int) ((Unit)⊕(Bool))):=fun A =>
 if A<(E.length:Int) then
 (idx E A).bind fun(H:UInt8) =>
 (qld ((H.toNat:Nat):Int)).bind fun(I:Bool) =>
 if I=true then
 some (.next (v96.wrap (A+1)))
 else
 (qvo ((H.toNat:Nat):Int)).bind fun(J:Bool) =>
 if J=true then
 some (.next (v96.wrap (A+1)))
 else
 some (.done (.inr false))
 else
 some (.done (.inl ()))
def qnd(A:List UInt8):Option (Bool) :=
 if(A==[])=true then
 some false
 else
 if(A.length:Int)>24 then
 some false
 else
 if(A==[110,117,108,108])=true then
 some false
 else
 (A[0]?).bind fun(H:UInt8) =>
 (qld ((H.toNat:Nat):Int)).bind fun(E:Bool) =>
 if E=true then
 (qah (qhz A) 0).bind (fun o=>match o with
 |.inl () =>
 some true
 |.inr r4 =>
 some r4)
 else
 some false
def qks(E:Database)(H:Table)(A:Constraint):Option (Int) :=
 if(A.Kind==1)=true then
 if(H.Attrs.length:Int)<0 then none else
 if((v90 (v98.wrap (v9p.wrap ((BitVec.ofInt 32 A.FD.Lhs|||(BitVec.ofInt 32 A.FD.Rhs)).toNat:Int))) (2^(min H.Attrs.length 64)))==0)=true then
 some 0
 else
 some 1
 else
 none
def qjs(E:Database)(V:List Constraint):((List (List UInt8×Bool))×Int)->Option (LS ((List (List UInt8×Bool))×Int) ((Unit)⊕(Int×Int))):=fun(n3,t4) =>
 if t4<(V.length:Int) then
 (idx V t4).bind fun(A:Constraint) =>
 (qnd A.Name).bind fun(J:Bool) =>
 if J=true then
 if((qg3 n3 A.Name).getD false)=true then
 some (.done (.inr (t4,5)))
 else
 if A.Kind<1 then
 some (.done (.inr (t4,14)))
 else
 if A.Kind>6 then
 some (.done (.inr (t4,14)))
 else
 (qii E A.Table).bind fun(H:Table×Bool) =>
 if H.2=true then
 (qks E H.1 A).bind fun(I:Int) =>
 if(I != 0)=true then
 some (.done (.inr (t4,I)))
 else
 some (.next ((qnx n3 A.Name true),(v96.wrap (t4+1))))
 else
 some (.done (.inr (t4,4)))
 else
 some (.done (.inr (t4,1)))
 else
 some (.done (.inl ()))
def qne(E:Database)(V:List Constraint):Option (Int×Int) :=
 (qjr E).bind fun(A:Int) =>
 if(A != 0)=true then
 some (0,A)
 else
 (qah (qjs E V) ([],0)).bind (fun o=>match o with
 |.inl () =>
 some (0,0)
 |.inr r4 =>
 some r4)
def qiq(A:Table)(E:Int):Option (Bool) :=
 if(A.Attrs.length:Int)<0 then none else
 some ((v90 (v98.wrap E) (2^(min ((A.Attrs.length:Int)).toNat 64)))==0)
def qtk(A:Value):(List Int×Int)->Option (LS (List Int×Int) (List Int)):=fun(o2,s3) =>
 if s3>=0 then
 if s3<0 then none else
 if qa8 (o2.length+1) 1=true then
 some (.next ((o2++[(v99.wrap (v90 (v98.wrap ((BitVec.ofInt 64 (v98.wrap A.Num)^^^(9223372036854775808#64)).toNat:Int)) (2^(min (s3).toNat 64))))]),(v96.wrap (s3-8))))
 else none
 else
 some (.done o2)
def qtl(A:Value):(List Int×Int)->Option (LS (List Int×Int) (List Int)):=fun(o2,s3) =>
 if s3>=0 then
 if s3<0 then none else
 if qa8 (o2.length+1) 1=true then
 some (.next ((o2++[(v99.wrap (v90 (v98.wrap ((BitVec.ofInt 64 (v98.wrap A.Num)^^^(9223372036854775808#64)).toNat:Int)) (2^(min (s3).toNat 64))))]),(v96.wrap (s3-8))))
 else none
 else
 some (.done o2)
def qle(A:Value):(List Int×Int)->Option (LS (List Int×Int) (List Int)):=fun(o2,t3) =>
 if t3<(A.Str.length:Int) then
 (idx A.Str t3).bind fun(c4:UInt8) =>
 if qa8 (o2.length+1) 1=true then
 if(((c4.toNat:Nat):Int)==0)=true then
 if qa8 ((o2.length+1)+1) 1=true then
 some (.next (((o2++[((c4.toNat:Nat):Int)])++[255]),(v96.wrap (t3+1))))
 else none
 else
 some (.next ((o2++[((c4.toNat:Nat):Int)]),(v96.wrap (t3+1))))
 else none
 else
 some (.done o2)
def qtm(A:Value):Option (List UInt8×Int) :=
 (qk1 A).bind fun(M:Bool) =>
 if M=true then
 if(A.Kind==1)=true then
 (qah (qtk A) ([(v99.wrap A.Kind)],56)).bind (fun J =>
 some ((qi4 J),0))
 else
 if(A.Kind==3)=true then
 (qah (qtl A) ([(v99.wrap A.Kind)],56)).bind (fun H =>
 some ((qi4 H),0))
 else
 if(A.Kind==2)=true then
 (qah (qle A) ([(v99.wrap A.Kind)],0)).bind (fun E =>
 if qa8 (E.length+2) 1=true then
 some ((qi4 (E++[0,1])),0)
 else none)
 else
 (some ([(v99.wrap A.Kind)]:List Int)).bind fun(I:List Int) =>
 some ((qi4 I),0)
 else
 some ([],1)
def qa4(A:List Int):Option (Bool) :=
 some (decide ((A.length:Int)<2))
def qb0(H:List (List UInt8)):((List (List UInt8×Int))×List (List Int)×Int)->Option (LS ((List (List UInt8×Int))×List (List Int)×Int) (List (List Int))):=fun(a2,a3,t4) =>
 if t4<(H.length:Int) then
 (idx H t4).bind fun(A:List UInt8) =>
 if(qg3 a2 A).isSome=true then
 (idx a3 ((qg3 a2 A).getD 0)).bind fun(E:List Int) =>
 if qa8 (E.length+1) 8=true then
 some (.next (a2,(a3.set (((qg3 a2 A).getD 0).toNat) (E++[t4])),(v96.wrap (t4+1))))
 else none
 else
 if qa8 (a3.length+1) 24=true then
 (idx (a3++[[]]) ((a3.length:Nat):Int)).bind fun(I:List Int) =>
 if qa8 (I.length+1) 8=true then
 some (.next ((qnx a2 A ((a3.length:Nat):Int)),((a3++[[]]).set (((a3.length:Nat):Int).toNat) (I++[t4])),(v96.wrap (t4+1))))
 else none
 else none
 else
 some (.done a3)
def qcr:(List (List Int)×Int×Int)->Option (LS (List (List Int)×Int×Int) (List (List Int)×Int)):=fun(s1,i2,j3) =>
 if j3<((s1.length:Nat):Int) then
 (idx s1 j3).bind fun(A:List Int) =>
 (qa4 A).bind fun(E:Bool) =>
 if E=true then
 some (.next (s1,i2,(v96.wrap (j3+1))))
 else
 (idx s1 i2).bind fun(H:List Int) =>
 some (.next ((s1.set i2.toNat A),(v96.wrap (i2+1)),(v96.wrap (j3+1))))
 else
 some (.done (s1,i2))
def qdr(J:List (List UInt8)):Option (List (List Int)) :=
 (qah (qb0 J) ([],[],0)).bind (fun E =>
 (qcg E (fun(M:List Int)=>qa4 M)).bind fun(A:Int) =>
 if(A==(-1))=true then
 some E
 else
 (qah qcr (E,A,(v96.wrap (A+1)))).bind (fun(s5,i6) =>
 if 0<=i6 then
 if i6<=((s5.length:Nat):Int) then
 if(0:Int)<=i6 then
 if i6<=((((((s5.take i6.toNat)).length+((v6u (s5.length-i6.toNat) ([]:List Int))).length)+((s5.drop (i6.toNat+(s5.length-i6.toNat)))).length):Nat):Int) then
 (some ((((s5.take i6.toNat)++(v6u (s5.length-i6.toNat) ([]:List Int)))++(s5.drop (i6.toNat+(s5.length-i6.toNat)))):List (List Int))).bind fun(H:List (List Int)) =>
 if i6.toNat<=H.length then
 (some (H.take i6.toNat:List (List Int))).bind fun(I:List (List Int)) =>
 some I
 else none
 else none
 else none
 else none
 else none))
def qh0(A:List Int)(x2:Row):(Bool×List UInt8×Int)->Option (LS (Bool×List UInt8×Int) (Bool×List UInt8)):=fun(b3,b4,t5) =>
 if t5<(A.length:Int) then
 (idx A t5).bind fun(H:Int) =>
 (idx x2.Values H).bind fun(I:Value) =>
 (qtm I).bind fun(E:List UInt8×Int) =>
 if b4.length+E.1.length<=140737488355328 then
 some (.next (true,(b4++E.1),(v96.wrap (t5+1))))
 else none
 else
 some (.done (b3,b4))
def qh1(A:Table)(E:List Int):(List (List UInt8)×Int)->Option (LS (List (List UInt8)×Int) (List (List UInt8))):=fun(k3,t4) =>
 if t4<(A.Rows.length:Int) then
 (idx A.Rows t4).bind fun(H:Row) =>
 (qah (qh0 E H) (false,[],0)).bind (fun(b6,b7) =>
 (idx k3 t4).bind fun(I:List UInt8) =>
 some (.next ((k3.set t4.toNat b7),(v96.wrap (t4+1)))))
 else
 some (.done k3)
def qnf(A:Table)(H:Int):Option (Partition) :=
 (qfx H).bind fun(I:List Int) =>
 if 0<=(A.Rows.length:Int) then
 if qa8 A.Rows.length 16=true then
 (qah (qh1 A I) ((v6u A.Rows.length []),0)).bind (fun E =>
 (qdr E).bind fun(J:List (List Int)) =>
 some (Partition.mk (A.Rows.length:Int) J))
 else none
 else none
def qng(A:Table)(E:Int):Option (Partition×Int) :=
 (qg4 A).bind fun(H:Int) =>
 if(H != 0)=true then
 some ((Partition.mk 0 []),H)
 else
 (qiq A E).bind fun(I:Bool) =>
 if I=true then
 (qnf A E).bind fun(J:Partition) =>
 some (J,0)
 else
 some ((Partition.mk 0 []),6)
def qgl(M:Table)(U:Row->Row->Option (Bool))(E:List Int)(H:Int)(O:Int):(List (List Int)×Int)->Option (LS (List (List Int)×Int) (List (List Int))):=fun(o6,t7) =>
 if t7<(((E.drop (v96.wrap (H+1)).toNat).take (E.length-(v96.wrap (H+1)).toNat)).length:Int) then
 (idx ((E.drop (v96.wrap (H+1)).toNat).take (E.length-(v96.wrap (H+1)).toNat)) t7).bind fun(V:Int) =>
 (idx M.Rows O).bind fun(J:Row) =>
 (idx M.Rows V).bind fun(A:Row) =>
 (U J A).bind fun(I:Bool) =>
 if I=true then
 if qa8 (o6.length+1) 24=true then
 some (.next ((o6++[[J.ID,A.ID]]),(v96.wrap (t7+1))))
 else none
 else
 some (.next (o6,(v96.wrap (t7+1))))
 else
 some (.done o6)
def qgm(H:Table)(J:Row->Row->Option (Bool))(A:List Int):(List (List Int)×Int)->Option (LS (List (List Int)×Int) (List (List Int))):=fun(o4,t5) =>
 if t5<(A.length:Int) then
 (idx A t5).bind fun(E:Int) =>
 if 0<=(v96.wrap (t5+1)) then
 if(v96.wrap (t5+1))<=(A.length:Int) then
 (qah (qgl H J A t5 E) (o4,0)).bind (fun I =>
 some (.next (I,(v96.wrap (t5+1)))))
 else none
 else none
 else
 some (.done o4)
def qir(H:Table)(J:Row->Row->Option (Bool))(A:Partition×Int):(List (List Int)×Int)->Option (LS (List (List Int)×Int) (List (List Int))):=fun(o4,t5) =>
 if t5<(A.1.Classes.length:Int) then
 (idx A.1.Classes t5).bind fun(E:List Int) =>
 (qah (qgm H J E) (o4,0)).bind (fun I =>
 some (.next (I,(v96.wrap (t5+1)))))
 else
 some (.done o4)
def qnh(A:Table)(J:Int)(H:Row->Row->Option (Bool)):Option (List (List Int)) :=
 (qng A J).bind fun(E:Partition×Int) =>
 (qah (qir A H E) ([],0)).bind (fun I =>
 some I)
def qjt(I:Row)(J:Row)(M:Int):Int->Option (LS (Int) ((Unit)⊕(Bool))):=fun A =>
 if A<(I.Values.length:Int) then
 if A<0 then none else
 if((v9p.wrap ((BitVec.ofInt 32 (v90 M (2^(min (A).toNat 32)))&&&(1#32)).toNat:Int))==1)=true then
 (idx I.Values A).bind fun(H:Value) =>
 (idx J.Values A).bind fun(E:Value) =>
 if((H.Kind==E.Kind)&&((H.Num==E.Num)&&(H.Str==E.Str)))=true then
 some (.next (v96.wrap (A+1)))
 else
 some (.done (.inr false))
 else
 some (.next (v96.wrap (A+1)))
 else
 some (.done (.inl ()))
def qlf(I:Row)(A:Row)(E:Int):Option (Bool) :=
 (qah (qjt I A E) 0).bind (fun o=>match o with
 |.inl () =>
 some true
 |.inr r4 =>
 some r4)
def qef(I:Row)(A:Row)(H:Constraint):Option (Bool) :=
 (qlf I A H.FD.Rhs).bind fun(E:Bool) =>
 some (!E)
def qh2(E:Database)(A:Constraint):Option (List (List Int)×Int) :=
 (qii E A.Table).bind fun(O:Table×Bool) =>
 if(A.Kind==1)=true then
 (qnh O.1 A.FD.Lhs (fun(J:Row) (U:Row)=>qef J U A)).bind fun(H:List (List Int)) =>
 if((H.length:Nat):Int)>20000 then
 some ([],3)
 else
 (qxt (fun(M:List Int) (V:List Int)=>qae M V) H).bind fun(I:List (List Int)) =>
 some (I,0)
 else
 none
def qlz(E:Int)(A:List (List Int)×Int):(List Violation×Int)->Option (LS (List Violation×Int) (List Violation)):=fun(o3,t4) =>
 if t4<(A.1.length:Int) then
 (idx A.1 t4).bind fun(H:List Int) =>
 if qa8 (o3.length+1) 32=true then
 some (.next ((o3++[(Violation.mk E H)]),(v96.wrap (t4+1))))
 else none
 else
 some (.done o3)
def ql0(E:Database)(V:List Constraint):(List Violation×Int)->Option (LS (List Violation×Int) ((List Violation)⊕(List Violation×Int))):=fun(o3,t4) =>
 if t4<(V.length:Int) then
 (idx V t4).bind fun(I:Constraint) =>
 (qh2 E I).bind fun(A:List (List Int)×Int) =>
 if(A.2 != 0)=true then
 some (.done (.inr ([],A.2)))
 else
 (qah (qlz t4 A) (o3,0)).bind (fun H =>
 some (.next (H,(v96.wrap (t4+1)))))
 else
 some (.done (.inl o3))
def qqt(E:Database)(V:List Constraint):Option (List Violation×Int) :=
 (qne E V).bind fun(A:Int×Int) =>
 if(A.2 != 0)=true then
 some ([],A.2)
 else
 (qah (ql0 E V) ([],0)).bind (fun o=>match o with
 |.inl o4 =>
 some (o4,0)
 |.inr r5 =>
 some r5)
def qni(E:Database)(V:List Constraint):Option (Bool×Int) :=
 (qqt E V).bind fun(A:List Violation×Int) =>
 if(A.2==0)=true then
 some (((A.1.length:Int)==0),A.2)
 else
 some (false,A.2)
def qj8(A:Table):Option (Database) :=
 some (Database.mk [A])
def qj9(W:Drossref45_Case):Option (Bool) :=
 (qj3 W).bind fun(A:Table×List FD×Bool) =>
 (show Option (Bool) from
 (qgi ).bind fun(V:Bool) =>
 if V=true then
 some (!A.2.2)
 else
 some true).bind (fun t4 =>
 if t4=true then
 (qgi ).bind fun(Z:Bool) =>
 some Z
 else
 (qi0 A.1 A.2.1 1000000).bind fun(E:Update×Int) =>
 (qei A.2.1).bind fun(U:List Constraint) =>
 (qi2 A.1 U [] 1000000).bind fun(J:Repair×Int) =>
 if(E.2 != 0)=true then
 some false
 else
 if(J.2 != 0)=true then
 some false
 else
 (qnc A.1 A.2.1 E.1).bind fun(O:Bool) =>
 if O=true then
 (qj8 A.1).bind fun(M:Database) =>
 (qei A.2.1).bind fun(I:List Constraint) =>
 (qni M I).bind fun(H:Bool×Int) =>
 if(H.2==0)=true then
 if(E.1.Cells.length:Int)<=(v96.wrap ((J.1.Deleted.length:Int)*(A.1.Attrs.length:Int))) then
 if(J.1.Deleted.length:Int)<=(E.1.Cells.length:Int) then
 some (H.1==((E.1.Cells.length:Int)==0))
 else
 some false
 else
 some false
 else
 some false
 else
 some false)
end Go.Proofs.YtijpapagpebllaaGreatDoor
namespace Go.Ab
open Go
variable {α:Type} {k n:Nat}
def q5d{α β A:Type}(f:β->α->β⊕A)(fin:β->A):List α->β->A
 |[],b=>fin b
 |x::r,b=>match f b x with
  |.inl b'=>q5d f fin r b'
  |.inr t=>t
theorem vbn{β σ H:Type}(l:List α)(S:β->Int->σ)(B:σ->Option (LS σ H))(f:β->α->β⊕H)(fin:β->H)(I:Nat->β->Prop)
  (hs:∀(k:Nat) b x,l[k]?=some x->I k b->(∀M,f b x=.inl M->B (S b k)=some (.next (S M (k+1:Nat)))/\I (k+1) M)/\(∀t,f b x=.inr t->B (S b k)=some (.done t)))
  (he:∀b,I l.length b->B (S b l.length)=some (.done (fin b))) :
  ∀(r:List α) (k:Nat) (b:β),l.drop k=r->k<=l.length->I k b->qah B (S b k)=some (q5d f fin r b):=by
 intro r
 induction r with
 | nil =>
  intro k b A Z J;have:k=l.length:=by
   have:=congrArg uan A
   grind
  subst this;exact qap (he b J)
 | cons x r ih =>
  intro k b A Z J;have V:l[k]?=some x:=by
   have:=congrArg (·[0]?) A;simpa[v51] using this
  have U:k<l.length:=(v56.1 V).1;have O:l.drop (k+1)=r:=by
   rw[<-uae,A];rfl
  obtain⟨h1,W⟩:=hs k b x V J;cases E:f b x with
  |inl M =>
   obtain⟨h3,h4⟩:=h1 M E;rw[qas h3,ih (k+1) M O U h4];simp[q5d,E]
  |inr t =>
   rw[qap (W t E)];simp[q5d,E]
theorem qx3{β σ A:Type}(l:List α)(S:β->Int->σ)(B:σ->Option (LS σ A))(f:β->α->β⊕A)(fin:β->A)(I:Nat->β->Prop){b0:β}{s0:σ}(h0:s0=S b0 0)(J:I 0 b0)
  (H:∀(k:Nat) b x,l[k]?=some x->k<l.length->I k b->(∀M,f b x=.inl M->B (S b k)=some (.next (S M (k+1:Nat)))/\I (k+1) M)/\(∀t,f b x=.inr t->B (S b k)=some (.done t)))
  (O:∀b,I l.length b->B (S b l.length)=some (.done (fin b))):qah B s0=some (q5d f fin l b0):=by
 subst h0;exact vbn l S B f fin I (fun k b x E=>H k b x E (qdc E)) O l 0 b0 rfl (v9f _) J
theorem qcs(h:k<n)(hn:n<=4611686018427387904):v96.wrap ((k:Int)+1)=((k+1:Nat):Int):=by
 rw[qbg (by omega) (by omega)];omega
theorem qe4(h:k<4611686018427387904):v96.wrap ((k:Int)+1)=((k+1:Nat):Int):=by
 rw[qbg (by omega) (by omega)];omega
theorem wqn(k:Nat)(h:k<4611686018427387904:=by omega):v96.wrap ((k:Int)+1)=((k+1:Nat):Int):=qe4 h
theorem qc3{b:Nat}(h:n<=1073741824)(A:b<=65536):qa8 n b=true:=by
 unfold qa8;have:n*b<=1073741824*65536:=Nat.mul_le_mul h A
 grind
theorem RLE(n b:Nat)(h:n<=1073741824:=by omega)(A:b<=65536:=by omega):qa8 n b=true:=qc3 h A
theorem qad{l:List α}{x:α}(h:l[k]?=some x):idx l (k:Int)=some x:=by rw[qvm,h]
theorem qan{l:List α}{x:α}(h:l[k]?=some x):((k:Int)<(l.length:Int)):=by have:=qdc h;omega
theorem q8h{α β A:Type}(g:β->α->β)(fin:β->A):∀(l:List α) (b:β),q5d (fun b x=>(Sum.inl (g b x):β⊕A)) fin l b=fin (l.foldl g b)
 |[],_=>rfl
 |x::r,b=>by simp only[q5d,uaj];exact q8h g fin r _
theorem q8i{E:Type}(l:List α)(B:Int->Option (LS Int (Unit⊕E)))(p:α->Bool)(A:E)
  (h1:∀(k:Nat) x,l[k]?=some x->k<l.length->p x=true->B k=some (.next (k+1:Nat))) (I:∀(k:Nat) x,l[k]?=some x->p x=false->B k=some (.done (.inr A))) (H:B l.length=some (.done (.inl ()))) :
  qah B 0=some (if l.all p then .inl () else .inr A):=by
 have h:=qx3 l (fun(_:Unit) i=>i) B (fun(_:Unit) x=>if p x then Sum.inl () else Sum.inr (Sum.inr A)) (fun _=>Sum.inl ()) (fun _ _=>True) (b0:=()) (s0:=0) rfl trivial
  (fun k b x M J _=>by
   grind)
  (fun b _=>H)
 rw[h];congr 1;clear h h1 I H
 induction l with
 |nil=>rfl
 |cons x r ih=>rcases v9x (p x) with hp|hp<;>simp[q5d,hp,ih]
theorem qka(l:List α)(B:Int->Option (LS Int (Unit⊕Int)))(p:α->Bool)
  (h1:∀(k:Nat) x,l[k]?=some x->k<l.length->p x=false->B k=some (.next (k+1:Nat))) (J:∀(k:Nat) x,l[k]?=some x->p x=true->B k=some (.done (.inr k))) (O:B l.length=some (.done (.inl ()))) :
  qah B 0=some (match l.findIdx? p with|some i=>.inr (i:Int)|none=>.inl ()):=by
 have key:∀(r:List α) (k:Nat),l.drop k=r->k<=l.length->qah B (k:Int)=some (match r.findIdx? p with|some i=>.inr ((k+i:Nat):Int)|none=>.inl ()):=by
  intro r
  induction r with
  | nil =>
   intro k A M;have:k=l.length:=by
    have:=congrArg uan A
    grind
   subst this;exact qap O
  | cons x r ih =>
   intro k A M;have E:l[k]?=some x:=by
    have:=congrArg (·[0]?) A;simpa[v51] using this
   have I:l.drop (k+1)=r:=by rw[<-uae,A];rfl
   rcases v9x (p x) with H|H
   ·rw[qap (J k x E H)]
    grind
   ·rw[qas (h1 k x E (qdc E) H),ih (k+1) I (qdc E)];simp only[List.findIdx?_cons,H];cases r.findIdx? p with
    |none=>rfl
    |some i=>simp;omega
 grind
theorem qe8{β σ A:Type}(l:List α)(S:β->Int->σ)(B:σ->Option (LS σ A))(g:β->α->β)(fin:β->A)(I:Nat->β->Prop){b0:β}{s0:σ}(h0:s0=S b0 0)(O:I 0 b0)
  (H:∀(k:Nat) b x,l[k]?=some x->k<l.length->I k b->B (S b k)=some (.next (S (g b x) (k+1:Nat)))/\I (k+1) (g b x))
  (V:∀b,I l.length b->B (S b l.length)=some (.done (fin b))):qah B s0=some (fin (l.foldl g b0)):=by
 rw[qx3 l S B (fun b x=>Sum.inl (g b x)) fin I h0 O (fun k b x J E hi=>⟨fun M U=>by cases U;exact H k b x J E hi,fun t W=>by cases W⟩) V,q8h]
def okI(k:IntKind)(n:Int):Prop:=(Lit.int k n).wf=true
def okS(s:List UInt8):Prop:=s.length<=1048576
def okL(ok:α->Prop)(l:List α):Prop:=l.length<=1048576/\∀x∈l,ok x
def qju{α:Type}(p:Nat->α->Bool):Nat->List α->Bool
 |_,[]=>true
 |k,x::r=>p k x&&qju p (k+1) r
theorem qx4{M:Type}(l:List α)(B:Int->Option (LS Int (Unit⊕M)))(p:Nat->α->Bool)(A:M)
  (h1:∀(k:Nat) x,l[k]?=some x->k<l.length->p k x=true->B k=some (.next (k+1:Nat))) (O:∀(k:Nat) x,l[k]?=some x->p k x=false->B k=some (.done (.inr A))) (V:B l.length=some (.done (.inl ()))) :
  ∀(r:List α) (k:Nat),l.drop k=r->k<=l.length->qah B (k:Int)=some (if qju p k r then .inl () else .inr A):=by
 intro r
 induction r with
 | nil =>
  intro k H U;have:k=l.length:=by
   have:=congrArg uan H
   grind
  subst this;exact qap V
 | cons x r ih =>
  intro k H U;have I:l[k]?=some x:=by
   have:=congrArg (·[0]?) H;simpa[v51] using this
  have J:l.drop (k+1)=r:=by rw[<-uae,H];rfl
  rcases v9x (p k x) with E|E
  ·rw[qas (h1 k x I (qdc I) E),ih (k+1) J (qdc I)];simp[qju,E]
  ·rw[qap (O k x I E)];simp[qju,E]
theorem q1c{α:Type}(q:α->Bool):∀(l:List α) (k:Nat),qju (fun _ x=>q x) k l=l.all q
 |[],_=>rfl
 |x::r,k=>by simp[qju,q1c q r]
theorem qwu{α:Type}{p q:Nat->α->Bool}:∀(l:List α) (k:Nat),(∀j x,k<=j->x∈l->p j x=q j x)->qju p k l=qju q k l
 |[],_,_=>rfl
 |x::r,k,h=>by
  simp only[qju];rw[h k x (v7a _) (by simp),qwu r (k+1) (fun j y E A=>h j y (by omega) (by simp[A]))]
theorem qmt(h:n<=17592186044416):qa8 n 8=true:=by
 unfold qa8;simp only[decide_eq_true_eq];omega
end Go.Ab
namespace Go.Proofs.YtijpapagpebllaaGreatDoor
open Go Go.Ab
def vk7(x:Value):Prop:=(okI .i64) x.Kind/\(okI .i64) x.Num/\okS x.Str
def qk2(x:Drossref03_Recipe):Prop:=(okI .u8) x.Attrs/\(okI .u8) x.Gap/\(okL (okL (okI .u8))) x.Rows
def okRow(x:Row):Prop:=(okI .i64) x.ID/\(okL vk7) x.Values
def qx5(x:Table):Prop:=okS x.Name/\(okL okS) x.Attrs/\(okL okRow) x.Rows
def qis(x:Drossref09_Dep):Prop:=(okI .u8) x.L/\(okI .u8) x.R
def qkb(x:Drossref45_Case):Prop:=qk2 x.T/\(okL qis) x.F
end Go.Proofs.YtijpapagpebllaaGreatDoor
namespace Go.Ab
open Go
end Go.Ab
namespace Go.Proofs.YtijpapagpebllaaGreatDoor
open Go Go.Ab
variable {α:Type}
def ql1(v:Value):Bool:=decide ((v.Kind=0/\v.Num=0/\v.Str=[])\/(v.Kind=1/\v.Str=[])\/(v.Kind=2/\v.Num=0/\v.Str.length<=200)\/(v.Kind=3/\1<=v.Num/\v.Str=[]))
theorem qp5(v:Value):qk1 v=some (ql1 v):=by
 simp only[qk1,ql1]
 repeat' split
 all_goals simp_all
 all_goals(try omega)
 all_goals(try(rw[v9y];simp<;>omega))
def sgn(a b:Int):Int:=if a<b then -1 else if b<a then 1 else 0
theorem q3m(a b:Int):qhm a b=some (sgn a b):=by
 simp only[qhm,qif,sgn];simp;split<;>(try split)<;>simp_all
theorem qpi(a b:Int):qd6 a b=some (sgn a b):=by
 simp only[qd6,qdl,sgn];simp;split<;>(try split)<;>simp_all
def vgj:List UInt8->List UInt8->Int
 |[],[]=>0
 |[],_::_=>-1
 |_::_,[]=>1
 |a::x,b::y=>if a=b then vgj x y else sgn a.toNat b.toNat
theorem qtn:∀a b:List UInt8,uab a b=vgj a b
 |[],[]=>rfl
 |[],_::_=>rfl
 |_::_,[]=>rfl
 |x::a,y::b=>by
  simp only[uab,vgj,sgn,qtn a b,UInt8.lt_iff_toNat_lt,<-UInt8.toNat_inj];split<;>split<;>(try split)<;>(try split)<;>omega
theorem qwv(a b:List UInt8):qjm a b=some (vgj a b):=by
 simp[qjm,qgx,qtn]
theorem vst{a b:Int}(h:a≠b):sgn a b≠0:=by
 unfold sgn;split<;>(try split)<;>omega
theorem vp2(a:Int):sgn a a=0:=by unfold sgn;simp
def qzv(a b:Value):Int:=if sgn a.Kind b.Kind≠0 then sgn a.Kind b.Kind else if sgn a.Num b.Num≠0 then sgn a.Num b.Num else vgj a.Str b.Str
theorem v38(a b c:Int):qla [a,b,c]=some (if a≠0 then a else if b≠0 then b else c):=by
 simp only[qla];have w0:v96.wrap 1=1:=by decide
 have w1:v96.wrap 2=2:=by decide
 have H:v96.wrap 3=3:=by decide
 by_cases h1:a=0
 ·by_cases A:b=0
  ·by_cases E:c=0
   ·rw[qas (s':=1) (by simp[qbo,idx,h1,w0]),qas (s':=2) (by simp[qbo,idx,A,w1]),qas (s':=3) (by simp[qbo,idx,E,H]),qap (t:=.inl ()) (by simp[qbo])];simp[h1,A,E]
   ·rw[qas (s':=1) (by simp[qbo,idx,h1,w0]),qas (s':=2) (by simp[qbo,idx,A,w1]),qap (t:=.inr c) (by simp[qbo,idx,E])];simp[h1,A]
  ·rw[qas (s':=1) (by simp[qbo,idx,h1,w0]),qap (t:=.inr b) (by simp[qbo,idx,A])];simp[h1,A]
 ·rw[qap (t:=.inr a) (by simp[qbo,idx,h1])];simp[h1]
theorem qit(a b:Value):qfd a b=some (qzv a b):=by
 simp only[qfd,q3m,qpi,qwv,v7m,v38,qzv]
theorem vk8:∀a b:List UInt8,vgj a b=0↔a=b
 |[],[]=>by simp[vgj]
 |[],_::_=>by simp[vgj]
 |_::_,[]=>by simp[vgj]
 |x::a,y::b=>by
  simp only[vgj];by_cases h:x=y
  ·subst h;simp[vk8 a b]
  ·have:sgn x.toNat y.toNat≠0:=vst (by simpa[Int.natCast_inj,UInt8.toNat_inj] using h);simp[h,this]
theorem qum(a b:Int):sgn a b=0↔a=b:=by
 unfold sgn;split<;>(try split)<;>omega
theorem qp6(a b:Value):qzv a b=0↔a=b:=by
 unfold qzv;cases a;cases b;simp only[Value.mk.injEq];split
 ·rename_i h;simp only[ne_eq,qum]at h;simp[qum,h]
 ·rename_i h;simp only[ne_eq,qum,Decidable.not_not]at h;split
  ·rename_i A;simp only[ne_eq,qum]at A;simp[qum,A]
  ·rename_i A;simp only[ne_eq,qum,Decidable.not_not]at A;simp[vk8,h,A]
theorem qww(l:List Value)(f:Value->Option Bool)(p:Value->Bool)(H:∀x∈l,f x=some (p x))(hl:l.length<=1073741824):qd1 l f=some (match l.findIdx? p with|some i=>(i:Int)|none=>-1):=by
 have h:=qka l (qb9 l f) p
  (fun k x A I E=>by simp[qb9,qan A,qad A,H x (v6m A),E,qcs I (by omega)])
  (fun k x A E=>by simp[qb9,qan A,qad A,H x (v6m A),E])
  (by simp[qb9])
 simp only[qd1,h,v7m];cases l.findIdx? p<;>rfl
theorem qsm(l:List Row)(f:Row->Option Bool)(p:Row->Bool)(H:∀x∈l,f x=some (p x))(hl:l.length<=1073741824):qdt l f=some (match l.findIdx? p with|some i=>(i:Int)|none=>-1):=by
 have h:=qka l (qcj l f) p
  (fun k x A I E=>by simp[qcj,qan A,qad A,H x (v6m A),E,qcs I (by omega)])
  (fun k x A E=>by simp[qcj,qan A,qad A,H x (v6m A),E])
  (by simp[qcj])
 simp only[qdt,h,v7m];cases l.findIdx? p<;>rfl
theorem qmu(p:α->Bool)(l:List α):decide ((match l.findIdx? p with|some i=>((i:Nat):Int)|none=>-1)>=0)=l.any p:=by
 cases h:l.findIdx? p with
 |none =>
  rw[List.findIdx?_eq_none_iff]at h;have:l.any p=false:=by rw[List.any_eq_false];intro x E;simp[h x E]
  rw[this];rfl
 | some i =>
  have:l.any p=true:=by
   rw[List.findIdx?_eq_some_iff_getElem]at h;obtain⟨hi,A,_⟩:=h;rw[List.any_eq_true];exact⟨_,List.getElem_mem hi,A⟩
  rw[this];simp
theorem qto(l:List Value)(f:Value->Option Bool)(p:Value->Bool)(A:∀x∈l,f x=some (p x))(hl:l.length<=1073741824):qc2 l f=some (l.any p):=by
 simp only[qc2,qww l f p A hl,v7m,qmu]
theorem vbo(a b:Int):sgn b a=- sgn a b:=by unfold sgn;split<;>(try split)<;>(try split)<;>omega
theorem vds:∀a b:List UInt8,vgj b a=- vgj a b
 |[],[]=>rfl
 |[],_::_=>rfl
 |_::_,[]=>rfl
 | x :: a,y :: b=>by
  simp only[vgj];by_cases h:x=y
  ·subst h;simp[vds a b]
  ·have h':¬y=x:=fun e=>h e.symm
   simp only[if_neg h,if_neg h'];exact vbo _ _
theorem vp3(a b:Value):qzv b a=- qzv a b:=by
 unfold qzv;rw[vbo a.Kind,vbo a.Num,vds a.Str];split<;>(try split)<;>(try split)<;>(try split)<;>omega
def qdj(r:Row)(a:Nat):Value:=r.Values.getD a ⟨0,0,[]⟩
def Short(rows:List Row):Prop:=∀r∈rows,∀v∈r.Values,v.Str.length<=1073741824
theorem qy6(l:List Int)(f:Int->Option Bool)(p:Int->Bool)(H:∀x∈l,f x=some (p x))(hl:l.length<=1073741824):qfb l f=some (match l.findIdx? p with|some i=>(i:Int)|none=>-1):=by
 have h:=qka l (qcm l f) p
  (fun k x A I E=>by simp[qcm,qan A,qad A,H x (v6m A),E,qcs I (show l.length<=4611686018427387904 by omega)])
  (fun k x A E=>by simp[qcm,qan A,qad A,H x (v6m A),E])
  (by simp[qcm])
 simp only[qfb,h,v7m];cases l.findIdx? p<;>rfl
theorem qon(l:List Int)(f:Int->Option Bool)(p:Int->Bool)(A:∀x∈l,f x=some (p x))(hl:l.length<=1073741824):qcn l f=some (l.any p):=by
 simp only[qcn,qy6 l f p A hl,v7m];exact congrArg some (qmu p l)
theorem vbp(p:α->Bool)(l:List α):(l.any fun x=>!p x)=!l.all p:=by simp[List.all_eq_not_any_not]
def qyq(c:Int):Bool:=(decide (97<=c)&&decide (c<=122))||((decide (65<=c)&&decide (c<=90))||c==95)
theorem q8j(c : Int) : (show Option Bool from
            if c ≥ 97 then
              if c ≤ 122 then some true
              else if c ≥ 65 then if c ≤ 90 then some true else some (c == 95) else some (c == 95)
            else if c ≥ 65 then if c ≤ 90 then some true else some (c == 95) else some (c == 95)) = some (qyq c) := by
  simp only [qyq]
  grind
def lod(c:UInt8):Bool:=qyq c.toNat||(decide (48<=(c.toNat:Int))&&decide ((c.toNat:Int)<=57))
def qy7:List UInt8->Bool
 |[]=>false
 |c::r=>decide (r.length<24)&&qyq c.toNat&&!((c::r)==[110,117,108,108])&&r.all lod
theorem q1d(s:List UInt8):qk9 s=some (qy7 s):=by
 cases s with
 |nil=>rfl
 | cons c r =>
  have hn:¬(((c::r)==[])=true):=by simp
  simp only[qk9,if_neg hn];by_cases E:((c::r).length:Int)>24
  ·have:¬r.length<24:=by simp at E;omega
   rw[if_pos E];simp[qy7,this]
  ·have J:r.length<24:=by simp at E;omega
   rw[if_neg E];by_cases A:((c::r)==[110,117,108,108])=true
   ·simp only[A,if_true,qy7];simp
   ·simp only[Bool.not_eq_true]at A;have H:∀x:UInt8,(show Option Bool from
      if((x.toNat:Nat):Int)>=97 then
       if((x.toNat:Nat):Int)<=122 then some true
       else if((x.toNat:Nat):Int)>=65 then if((x.toNat:Nat):Int)<=90 then some true else some (((x.toNat:Nat):Int)==95) else some (((x.toNat:Nat):Int)==95)
      else if((x.toNat:Nat):Int)>=65 then if((x.toNat:Nat):Int)<=90 then some true else some (((x.toNat:Nat):Int)==95) else some (((x.toNat:Nat):Int)==95))=some (qyq x.toNat):=fun x=>q8j x.toNat
    have h:=qx4 (c::r) (qhk (c::r)) (fun k x=>qyq x.toNat||(decide (k≠0)&&(decide (48<=(x.toNat:Int))&&decide ((x.toNat:Int)<=57)))) false
     (fun k x I O U=>by
      simp only[qhk,if_pos (qan I),qad I,v7m,H,qcs O (by simp;omega)]
      grind)
     (fun k x I U=>by
      simp only[qhk,if_pos (qan I),qad I,v7m,H]
      grind)
     (by simp[qhk]) (c::r) 0 rfl (v9f _)
    simp only[v91]at h;simp only[A,v5k,if_false,h,v7m];have e:qju (fun k x=>qyq x.toNat||(decide (k≠0)&&(decide (48<=(x.toNat:Int))&&decide ((x.toNat:Int)<=57)))) 0 (c::r)=(qyq c.toNat&&r.all lod):=by
     simp only[qju];rw[qwu (q:=fun _ x=>lod x) r 1 (fun j x V _=>by
      have M:j≠0:=by omega
      simp[lod,M]),q1c]
     simp
    rw[e];simp only[qy7,J,decide_true,Bool.true_and,A,Bool.not_false,Bool.and_true]
    grind
def vsu:Option Nat->Int
 |some i=>i
 |none=>-1
theorem vdt(p:α->Bool)(l:List α):decide (vsu (l.findIdx? p)>=0)=l.any p:=by
 rw[<-qmu];cases l.findIdx? p<;>rfl
theorem q1e(l:List (List UInt8))(s:List UInt8)(hl:l.length<=1073741824):qfu l s=some (vsu (l.findIdx? (fun x=>s==x))):=by
 have h:=qka l (qcz l s) (fun x=>s==x)
  (fun k x A H E=>by simp only[qcz,if_pos (qan A),qad A,v7m,E,v5k,if_false,if_true,qcs H (show l.length<=4611686018427387904 by omega)])
  (fun k x A E=>by simp only[qcz,if_pos (qan A),qad A,v7m,E,if_true])
  (by simp[qcz])
 simp only[qfu,h,v7m];cases l.findIdx? (fun x=>s==x)<;>rfl
theorem qpj(l:List (List UInt8))(s:List UInt8)(hl:l.length<=1073741824):qd0 l s=some (l.any fun x=>s==x):=by
 simp only[qd0,q1e l s hl,v7m];exact congrArg some (vdt _ l)
def q1f(l:List (List UInt8)):Bool:=qju (fun k x=>qy7 x&&!(l.take k).any fun y=>x==y) 0 l
def qds(n:Nat):Int->List Row->Int
 |_,[]=>0
 |a,r::l=>if r.ID<=a then 1 else if r.Values.length≠n then 6 else if r.Values.all ql1 then qds n r.ID l else 1
def qdi(t:Table):Int :=
 if qy7 t.Name=false then 1 else if t.Attrs.length>16 then 3 else if t.Rows.length>1000 then 3 else if q1f t.Attrs=false then 1 else qds t.Attrs.length 0 t.Rows
theorem q2w(l:List Value)(hl:l.length<=1073741824):qhl l=some (l.all ql1):=by
 simp only[qhl,qto l (fun y=>qd5 y) (fun v=>!ql1 v) (fun y _=>by simp[qd5,qp5]) hl,v7m,vbp,Bool.not_not]
theorem vk9{B:Int×Int->Option (LS (Int×Int) (Unit⊕Int))}(rows:List Row)(n:Nat)
  (hB:∀(k:Nat) (a:Int) x,rows[k]?=some x->k<rows.length->B (a,(k:Int))=if x.ID<=a then some (.done (.inr 1)) else if x.Values.length≠n then some (.done (.inr 6)) else if x.Values.all ql1 then some (.next (x.ID,((k+1:Nat):Int))) else some (.done (.inr 1)))
  (Z:∀a,B (a,(rows.length:Int))=some (.done (.inl ()))):∀(r:List Row) (k:Nat) (a:Int),rows.drop k=r->k<=rows.length->∃o,qah B (a,(k:Int))=some o/\(match o with|.inl ()=>qds n a r=0|.inr z=>qds n a r=z/\z≠0):=by
 intro r
 induction r with
 | nil =>
  intro k a I U;have:k=rows.length:=by
   have:=congrArg uan I
   grind
  subst this;exact⟨.inl (),qap (Z a),rfl⟩
 | cons x r ih =>
  intro k a I U;have O:rows[k]?=some x:=by
   have:=congrArg (·[0]?) I;simpa[v51] using this
  have M:rows.drop (k+1)=r:=by rw[<-uae,I];rfl
  have H:=qdc O;have A:=hB k a x O H;by_cases h1:x.ID<=a
  ·rw[if_pos h1]at A;exact⟨_,qap A,by simp[qds,h1]⟩
  ·rw [if_neg h1] at A;by_cases E:x.Values.length≠n
   ·rw[if_pos E]at A;exact⟨_,qap A,by simp[qds,h1,E]⟩
   ·rw[if_neg E]at A;by_cases J:x.Values.all ql1=true
    ·rw[if_pos J]at A;obtain⟨o,W,V⟩:=ih (k+1) x.ID M H;refine⟨o,by rw[qas A];exact W,?_⟩;have e:qds n a (x::r)=qds n x.ID r:=by
      simp only[qds,if_neg h1,if_neg E,if_pos J]
     rw[e];exact V
    ·rw[if_neg J]at A;exact⟨_,qap A,by simp only[qds,if_neg h1,if_neg E,if_neg J];exact⟨trivial,by omega⟩⟩
structure TableOk(t:Table):Prop where
 attrs:t.Attrs.length<=1073741824
 rows:t.Rows.length<=1073741824
 vals:∀r∈t.Rows,r.Values.length<=1073741824
 short:Short t.Rows
theorem vdu{t:Table}(h:qx5 t):TableOk t:=by
 obtain⟨_,E,A⟩:=h;refine⟨by have:=E.1;omega,by have:=A.1;omega,fun r hr=>?_,fun r hr v H=>?_⟩
 ·have:=(A.2 r hr).2.1;omega
 ·have:okS v.Str:=((A.2 r hr).2.2 v H).2.2;unfold okS at this;omega
theorem qfr(t : Table)(H : TableOk t) : qg4 t = some (qdi t) := by
  simp only [qg4, q1d, v7m, qdi]
  by_cases h1 : qy7 t.Name = true
  · by_cases V : t.Attrs.length > 16
    · grind
    · have O : ¬ (t.Attrs.length : Int) > 16 := by omega
      by_cases Z : t.Rows.length > 1000
      · grind
      · have M : ¬ (t.Rows.length : Int) > 1000 := by omega
        have U := qx4 t.Attrs (qiy t) (fun k x => qy7 x && !(t.Attrs.take k).any fun y => x == y) 1
          (fun k x A E I => by
            simp only [v5i, Bool.not_eq_true'] at I
            have h0 : ((0 : Int) ≤ (k : Int)) := by omega
            have h1 : ((k : Int) ≤ (t.Attrs.length : Int)) := by omega
            have W := H.attrs
            simp only [qiy, if_pos (qan A), qad A, v7m, q1d, I.1, if_true, if_pos h0, if_pos h1, v93, qpj _ x (show (t.Attrs.take k).length ≤ 1073741824 by simp; omega), I.2, v5k, if_false,
              qcs E (show t.Attrs.length ≤ 4611686018427387904 by omega)])
          (fun k x A I => by
            have E := qdc A
            have h0 : ((0 : Int) ≤ (k : Int)) := by omega
            have h1 : ((k : Int) ≤ (t.Attrs.length : Int)) := by omega
            have W := H.attrs
            simp only [qiy, if_pos (qan A), qad A, v7m, q1d, if_pos h0, if_pos h1, v93, qpj _ x (show (t.Attrs.take k).length ≤ 1073741824 by simp; omega)]
            grind)
          (by simp [qiy]) t.Attrs 0 rfl (v9f _)
        simp only [v91] at U
        simp only [h1, if_true, if_neg O, if_neg M, U, v7m, Bool.true_eq_false, if_false, if_neg V, if_neg Z]
        have J : q1f t.Attrs = qju (fun k x => qy7 x && !(t.Attrs.take k).any fun y => x == y) 0 t.Attrs := rfl
        rw [← J]
        by_cases h4 : q1f t.Attrs = true
        · obtain ⟨o, h5, h6⟩ := vk9 (B := qkm t) t.Rows t.Attrs.length (fun k a x A E => by
              simp only [qkm, if_pos (qan A), qad A, v7m, q2w _ (H.vals x (v6m A)), qcs E (show t.Rows.length ≤ 4611686018427387904 by have := H.rows; omega)]
              grind) (fun a => by simp [qkm]) t.Rows 0 0 rfl (v9f _)
          grind
        · grind
  · grind
theorem qqu{K V:Type}[DecidableEq K](m:List (K×V))(k x:K)(v:V):qg3 (qnx m k v) x=if x=k then some v else qg3 m x:=by
 induction m with
 |nil=>simp[qnx,qg3]
 | cons p r ih =>
  obtain⟨a,u⟩:=p;simp only[qnx];by_cases h:k=a
  ·subst h;simp only[if_pos,qg3];by_cases A:x=k<;>simp[A]
  ·simp only[if_neg h,qg3,ih];by_cases A:x=a
   ·subst A;have:¬x=k:=fun e=>h e.symm
    simp[this]
   ·simp[A]
end Go.Proofs.YtijpapagpebllaaGreatDoor
namespace Go.Ab
open Go
variable {α κ:Type} [DecidableEq κ]
def q8k(key:α->κ)(ks:List κ)(x:α):List κ:=if key x∈ks then ks else ks++[key x]
def qiu(key:α->κ)(l:List α):List κ:=l.foldl (q8k key) []
def qb6(key:α->κ)(l:List α):List (List α):=(qiu key l).map fun k=>l.filter fun x=>decide (key x=k)
theorem q3n(key:α->κ):qiu key []=[]:=rfl
theorem qmv(key:α->κ)(l:List α)(x:α):qiu key (l++[x])=q8k key (qiu key l) x:=by
 unfold qiu;rw[List.foldl_append];rfl
theorem q1g(key:α->κ):qb6 key ([]:List α)=[]:=rfl
theorem qzw{P:List α->Prop}(h0:P [])(h1:∀l x,P l->P (l++[x]))(l:List α):P l:=by
 have key:∀r:List α,P r.reverse:=by
  intro r
  induction r with
  |nil=>exact h0
  |cons x r ih=>rw[List.reverse_cons];exact h1 _ _ ih
 have:=key l.reverse
 rwa [List.reverse_reverse]at this
theorem qn9(key:α->κ)(l:List α)(k:κ):k∈qiu key l↔∃x∈l,key x=k:=by
 induction l using qzw with
 |h0=>simp[q3n]
 | h1 l x ih =>
  rw[qmv];unfold q8k;constructor
  ·intro h;split at h
   ·obtain⟨y,A,e⟩:=ih.1 h;exact⟨y,by simp[A],e⟩
   ·rcases v6k.1 h with h|h
    ·obtain⟨y,A,e⟩:=ih.1 h;exact⟨y,by simp[A],e⟩
    ·exact⟨x,by simp,by simpa[eq_comm] using h⟩
  ·rintro⟨y,A,e⟩;rcases v6k.1 A with A|A
   ·have:=ih.2 ⟨y,A,e⟩;split
    ·exact this
    ·exact List.mem_append_left _ this
   ·have:y=x:=by simpa using A
    subst this;subst e;split
    ·assumption
    ·simp
theorem qyr(key:α->κ)(l:List α):(qiu key l).Nodup:=by
 induction l using qzw with
 |h0=>simp[q3n]
 |h1 l x ih =>
  rw[qmv];unfold q8k;split
  ·exact ih
  ·rename_i hn;rw[List.nodup_append];exact⟨ih,by simp,fun a ha b A=>by
    have:b=key x:=by simpa using A
    subst this;intro e;subst e;exact hn ha⟩
theorem qro(p:α->Bool)(l:List α)(x:α):(l++[x]).filter p=if p x then l.filter p++[x] else l.filter p:=by
 rw[uaf];by_cases h:p x=true<;>simp[h]
theorem qrp(key:α->κ)(l:List α)(x:α)(h:key x ∉ qiu key l):qb6 key (l++[x])=qb6 key l++[[x]]:=by
 unfold qb6;rw[qmv,q8k,if_neg h,List.map_append];congr 1
 ·refine v8u fun k A=>?_
  rw[qro,if_neg];simp only[decide_eq_true_eq];intro e;subst e;exact h A
 ·simp only[List.map_cons,List.map_nil];rw[qro,if_pos (by simp)];have:l.filter (fun y=>decide (key y=key x))=[]:=by
   rw[uah];intro y E;simp only[decide_eq_true_eq];intro e;exact h ((qn9 key l _).2 ⟨y,E,e⟩)
  rw[this];rfl
theorem qrq(key:α->κ)(l:List α)(x:α){j:Nat}(h:(qiu key l)[j]?=some (key x)) :
  qb6 key (l++[x])=(qb6 key l).set j ((l.filter fun y=>decide (key y=key x))++[x])/\(qb6 key l)[j]?=some (l.filter fun y=>decide (key y=key x)):=by
 have J:key x∈qiu key l:=v6m h;refine⟨?_,by unfold qb6;rw[v8n,h];rfl⟩;unfold qb6;rw[qmv,q8k,if_pos J];apply v5y;intro i;rw[v8n,uam];by_cases hi:j=i
 ·subst hi;have H:=(v56.1 h).1;rw[if_pos rfl,if_pos (by simpa using H),h];simp only[v7r];rw[qro,if_pos (by simp)]
 ·rw[if_neg hi,v8n];cases I:(qiu key l)[i]? with
  |none=>rfl
  |some k =>
   simp only[v7r];rw[qro,if_neg];simp only[decide_eq_true_eq];intro e;have A:=qyr key l;have E:=(v56.1 h).1;exact hi ((List.getElem?_inj E A).1 (by rw[h,I,e]))
theorem qvp(key:α->κ)(l:List α)(c:List α):c∈qb6 key l↔∃x∈l,c=l.filter fun y=>decide (key y=key x):=by
 unfold qb6;rw[v81];constructor
 ·rintro⟨k,E,rfl⟩;obtain⟨x,A,rfl⟩:=(qn9 key l k).1 E;exact⟨x,A,rfl⟩
 ·rintro⟨x,A,rfl⟩;exact⟨key x,(qn9 key l _).2 ⟨x,A,rfl⟩,rfl⟩
end Go.Ab
namespace Go.Ab
open Go
variable {a n i b k:Nat}
theorem q8l(n:Nat):v9p.wrap (n:Int)=((n%4294967296:Nat):Int):=by
 simp only[uaa,v97,v94,v9z,v5k,if_false];rw[show((2:Int)^32)=4294967296 from rfl];omega
theorem vdv{n:Int}(h1:0<=n)(A:n<=18446744073709551615):v98.wrap n=n:=by
 simp only[uaa,v97,v94];simp only[v9z,v5k,if_false];rw[show((2:Int)^64)=18446744073709551616 from rfl];omega
theorem vla(ha:a<4294967296)(A:b<4294967296):v9p.wrap ((BitVec.ofInt 32 (a:Int)&&&BitVec.ofInt 32 (b:Int)).toNat:Int)=((a&&&b:Nat):Int):=by
 rw[vj3,BitVec.toNat_and,qwp ha,qwp A]
theorem q3o(ha:a<4294967296)(A:b<4294967296):v9p.wrap ((BitVec.ofInt 32 (a:Int)|||BitVec.ofInt 32 (b:Int)).toNat:Int)=((a|||b:Nat):Int):=by
 rw[vj3,BitVec.toNat_or,qwp ha,qwp A]
def qy8(a b:Nat):Nat:=a^^^(a&&&b)
theorem qqv(a b i:Nat):(qy8 a b).testBit i=(a.testBit i&&!b.testBit i):=by
 unfold qy8;rw[uax,uas];cases a.testBit i<;>cases b.testBit i<;>rfl
theorem vp4(ha:a<4294967296)(A:b<4294967296):v9p.wrap ((BitVec.ofInt 32 (a:Int) &&& ~~~ BitVec.ofInt 32 (b:Int)).toNat:Int)=((qy8 a b:Nat):Int):=by
 rw[vj3];congr 1;apply uap;intro i;rw[qqv];rw[BitVec.testBit_toNat,BitVec.getLsbD_and,BitVec.getLsbD_not,<-BitVec.testBit_toNat,<-BitVec.testBit_toNat,qwp ha,qwp A];by_cases hi:i<32
 ·simp[hi]
 ·have:a.testBit i=false:=uat (v7d ha (by
   have:2^32<=2^i:=uar (by omega) (by omega);exact this))
  simp[this]
theorem vp5(ha:a<4294967296):v9p.wrap ((BitVec.ofInt 32 (a:Int)&&&(1#32)).toNat:Int)=((a%2:Nat):Int):=by
 rw[vj3,BitVec.toNat_and,qwp ha];congr 1;have:(1#32).toNat=1:=rfl;rw[this,Nat.and_one_is_mod]
theorem q1h(h:i<32):2^i<4294967296:=Nat.pow_lt_pow_right (by omega) h
theorem vp6(h:i<32):v9p.wrap (1*2^(min i 32))=((2^i:Nat):Int):=by
 rw[v9b (by omega),Int.one_mul];have:((2:Int)^i)=((2^i:Nat):Int):=by simp
 rw[this];have A:=q1h h;generalize 2^i=p at A ⊢;exact q4v (by omega) (by omega)
theorem vwb(a i:Nat):(((a/2^i%2:Nat):Int)==1)=a.testBit i:=by
 rw[Nat.testBit_eq_decide_div_mod_eq,v9y];simp only[beq_iff_eq,decide_eq_true_eq];omega
theorem q5e(ha:a<4294967296)(hi:i<=32):((v9p.wrap ((BitVec.ofInt 32 (v90 (a:Int) (2^(min i 32)))&&&(1#32)).toNat:Int))==1)=a.testBit i:=by
 rw[v9b hi,qwq,vp5 (uaq (Nat.div_le_self _ _) ha),vwb]
theorem vwc(h:∀i,n<=i->a.testBit i=false):a<2^n:=Nat.lt_pow_two_of_testBit a h
theorem q1i(h:a<2^n)(hi:n<=i):a.testBit i=false:=uat (v7d h (uar (by omega) hi))
theorem v4a(ha:a<4294967296)(A:b<4294967296):a|||b<4294967296:=Nat.or_lt_two_pow (n:=32) ha A
theorem vp7(ha:a<4294967296):qy8 a b<4294967296:=by
 refine vwc (n:=32) fun i hi=>?_
 rw[qqv,q1i (n:=32) ha hi];rfl
def setN(l:List Nat):Nat:=l.foldl (fun s x=>s|||2^x) 0
theorem qwx(i:Nat):∀(l:List Nat) (s:Nat),(l.foldl (fun s x=>s|||2^x) s).testBit i=(s.testBit i||decide (i∈l))
 |[],s=>by simp
 | x :: l,s=>by
  rw[uaj,qwx i l,Nat.testBit_or,uav];by_cases h:i=x
  ·subst h;simp
  ·have:decide (x=i)=false:=by simp;exact fun e=>h e.symm
   rw[this];simp[h]
theorem vp8(l:List Nat)(i:Nat):(setN l).testBit i=decide (i∈l):=by unfold setN;rw[qwx];simp
theorem vbq(m i:Nat):(2*m+1).testBit (i+1)=m.testBit i:=by
 rw[uau];congr 1;omega
theorem q8m(m i:Nat):(2*m).testBit (i+1)=m.testBit i:=by
 rw[uau];congr 1;omega
theorem vwd(h0:n≠0)(h:n<4294967296):∃k,k<32/\n.testBit k=true/\n&&&(4294967296-n)=2^k/\(∀j,(n&&&(n-1)).testBit j=(n.testBit j&&decide (j≠k)))/\n&&&(n-1)<n:=by
 obtain⟨m,E,I⟩:=uac 32 n (by omega) h;generalize Lib.ctzFrom 32 n=k at E I;have V:0<2^k:=Nat.pow_pos (by omega);have J:∀j,n.testBit j=if j<k then false else(2*m+1).testBit (j-k):=by
  intro j;have:=uaw (2*m+1) (b:=0) V j;rw[Nat.add_zero,<-E]at this;rw[this];simp
 have U:n-1=2^k*(2*m)+(2^k-1):=by
  rw[E,Nat.mul_add,Nat.mul_one];omega
 have O:∀j,(n-1).testBit j=if j<k then(2^k-1).testBit j else(2*m).testBit (j-k):=by
  intro j;rw[U];exact uaw (2*m) (b:=2^k-1) (by omega) j
 have A:∀j,(n&&&(n-1)).testBit j=(n.testBit j&&decide (j≠k)):=by
  intro j;rw[uas,J,O];by_cases M:j<k
  ·simp[M]
  ·simp only[if_neg M];by_cases H:j=k
   ·subst H;simp
   ·obtain⟨i,hi⟩:∃i,j-k=i+1:=⟨j-k-1,by omega⟩;rw[hi,vbq,q8m];simp[H]
 refine⟨k,I,?_,?_,A,?_⟩
 ·rw[J,if_neg (by omega),Nat.sub_self];simp
 ·have:=Lib.and_neg 32 k m (by rw[<-E];exact h);rw[<-E]at this;exact this
 ·exact uaq Nat.and_le_right (by omega)
def qfs(n:Nat):List Nat:=(v6s 32).filter fun k=>n.testBit k
theorem v4b:∀k:Nat,k<32->qoy.getD (2^k*125613361%4294967296/134217728) 0=(k:Int):=by decide +kernel
theorem vlb(E:n.testBit k=true)(h:n&&&(4294967296-n)=2^k)(hn:n<4294967296):∀j,j<k->n.testBit j=false:=by
 have I:k<32:=by
  apply Classical.byContradiction;intro V;rw[q1i (n:=32) hn (by omega)]at E;cases E
 obtain⟨m,A,_⟩:=uac 32 n (by rcases Nat.eq_zero_or_pos n with e|e;(subst e;simp at E);exact e) hn;generalize Lib.ctzFrom 32 n=i at A;have U:0<2^i:=Nat.pow_pos (by omega);have O:∀j,n.testBit j=if j<i then false else(2*m+1).testBit (j-i):=by
  intro j;have:=uaw (2*m+1) (b:=0) U j;rw[Nat.add_zero,<-A]at this;rw[this];simp
 have H:=Lib.and_neg 32 i m (by rw[<-A];exact hn);rw[<-A]at H;have M:(2:Nat)^i=2^k:=by rw[<-h];exact H.symm
 have J:i=k:=(Nat.pow_right_inj (by omega)).1 M;intro j W;rw[O,if_pos (by omega)]
theorem vp9(E:n.testBit k=true)(h:n&&&(4294967296-n)=2^k)(A:k<32):tz32 n=(k:Int):=by
 have h0:n≠0:=by intro e;subst e;simp at E
 unfold tz32 tzI;rw[if_neg h0,h];exact v4b k A
theorem vlc(A:k<32)(J:n.testBit k=true)(hl:∀j,j<k->n.testBit j=false)(H:∀j,(n&&&(n-1)).testBit j=(n.testBit j&&decide (j≠k))):qfs n=k::qfs (n&&&(n-1)):=by
 unfold qfs;have e:v6s 32=v6s k++k::(v6s (31-k)).map fun i=>k+1+i:=by
  apply v5y;intro i;by_cases h1:i<k
  ·rw[List.getElem?_append_left (by simpa using h1),ual h1,ual (by omega)]
  ·rw[List.getElem?_append_right (by simpa using h1),uao];by_cases I:i=k
   ·subst I;simp[A]
   ·obtain⟨d,hd⟩:∃d,i-k=d+1:=⟨i-k-1,by omega⟩;rw[hd,List.getElem?_cons_succ,v8n];by_cases M:i<32
    ·rw[ual M,ual (by omega)];simp;omega
    ·rw[v54 (by simp;omega),v54 (by simp;omega)];rfl
 rw[e,uaf,uaf,uag,uag,if_pos J,H k];simp only[ne_eq,not_true_eq_false,decide_false,Bool.and_false,v5k,if_false];have U:(v6s k).filter (fun j=>n.testBit j)=[]:=by
  rw[uah];intro j E;rw[hl j (v83.1 E)];simp
 have O:(v6s k).filter (fun j=>(n&&&(n-1)).testBit j)=[]:=by
  rw[uah];intro j E;rw[H,hl j (v83.1 E)];simp
 rw[U,O,v6r,v6r];congr 1;apply List.filter_congr;intro j E;obtain⟨i,_,rfl⟩:=v81.1 E;rw[H];have:k+1+i≠k:=by omega
 simp[this]
theorem qpk(h:k∈qfs n):k<32/\n.testBit k=true:=by
 unfold qfs at h;rw[v80,v83]at h;exact h
theorem qtp(n:Nat):(qfs n).length<=32:=by
 unfold qfs;exact Nat.le_trans (List.length_filter_le _ _) (by simp)
end Go.Ab
namespace Go.Proofs.YtijpapagpebllaaGreatDoor
open Go Go.Ab
theorem q8n:∀(n:Nat) (A:List Int),n<4294967296->A.length+(qfs n).length<=1000->qah qgz ((n:Int),A)=some (A++(qfs n).map fun(k:Nat)=>(k:Int)):=by
 intro n
 induction n using Nat.strongRecOn with
 | ind n ih =>
  intro A hn ho;by_cases h0:n=0
  ·subst h0;rw[qap (t:=A) (by simp[qgz])];have:qfs 0=[]:=by decide
   rw[this];simp
  ·obtain⟨k,O,I,H,Z,J⟩:=vwd h0 hn;have hl:=vlb I H hn;have E:=vlc O I hl Z;have M:=vp9 I H O;have h1:(((n:Int)) != 0)=true:=by simp;omega
   have U:qhf (n:Int)=some (k:Int):=by
    simp only[qhf];rw[if_pos (by omega),v93,M]
   have h3:qa8 (A.length+1) 8=true:=qmt (by omega);have W:v9p.wrap ((n:Int)-1)=((n-1:Nat):Int):=by
    have:(n:Int)-1=((n-1:Nat):Int):=by omega
    rw[this,q8l,Nat.mod_eq_of_lt (by omega)]
   have V:=vla (a:=n) (b:=n-1) hn (by omega);rw[E,v8r]at ho;rw[qas (s':=(((n&&&(n-1):Nat):Int),A++[(k:Int)])) (by simp only[qgz,h1,if_true,U,v7m,h3,W,V])];rw[ih _ J _ (by omega) (by rw[List.length_append,List.length_singleton];omega),E];simp
theorem qvq{n:Nat}(hn:n<4294967296):qfx (n:Int)=some ((qfs n).map fun(k:Nat)=>(k:Int)):=by
 have:=qtp n;simp only[qfx,q8n n [] hn (by simp;omega),v7m,v6r]
end Go.Proofs.YtijpapagpebllaaGreatDoor
namespace Go.Ab
open Go
def vsv(u:Nat):List UInt8:=[56,48,40,32,24,16,8,0].map fun s=>UInt8.ofNat (u/2^s)
def qx6:List UInt8->List UInt8
 |[]=>[]
 |c::s=>if c=0 then 0::255::qx6 s else c::qx6 s
theorem q8o(x:Nat):(UInt8.ofNat x).toNat=x%256:=by rw[UInt8.toNat_ofNat']
theorem vdw{u v:Nat}(E:u<18446744073709551616)(I:v<18446744073709551616)(h:vsv u=vsv v):u=v:=by
 unfold vsv at h;simp only[List.map_cons,List.map_nil,v5t.injEq,and_true]at h;obtain⟨h1,A,O,J,H,U,M,V⟩:=h;have k:∀{x y:Nat},UInt8.ofNat x=UInt8.ofNat y->x%256=y%256:=fun e=>by rw[<-q8o,e,q8o]
 grind
theorem qwy(u:Nat):(vsv u).length=8:=rfl
theorem vbr:∀(s t:List UInt8) (x y:List UInt8),qx6 s++(0::1::x)=qx6 t++(0::1::y)->s=t/\x=y
 |[],[],x,y,h=>by simpa[qx6] using h
 |[],c::t,x,y,h=>by
  exfalso;unfold qx6 at h;split at h<;>simp[qx6]at h;rename_i A;exact A h.1.symm
 |c::s,[],x,y,h=>by
  exfalso;unfold qx6 at h;split at h<;>simp[qx6]at h;rename_i A;exact A h.1
 |c::s,d::t,x,y,h=>by
  unfold qx6 at h;by_cases A:c=0<;>by_cases E:d=0
  ·subst A;subst E;simp at h;obtain⟨h1,H⟩:=vbr s t x y h;exact⟨by rw[h1],H⟩
  ·rw[if_pos A,if_neg E]at h;simp at h;exact absurd h.1.symm E
  ·rw[if_neg A,if_pos E]at h;simp at h;exact absurd h.1 A
  ·rw[if_neg A,if_neg E]at h;simp at h;obtain⟨h1,H⟩:=vbr s t x y h.2;exact⟨by rw[h.1,h1],H⟩
theorem vbs(s t:List UInt8):qx6 (s++t)=qx6 s++qx6 t:=by
 induction s with
 |nil=>rfl
 |cons c s ih =>
  simp only[v8g,qx6];split<;>simp[ih]
theorem q5f(s:List UInt8):(qx6 s).length<=2*s.length:=by
 induction s with
 |nil=>simp[qx6]
 |cons c s ih=>unfold qx6;split<;>simp<;>omega
end Go.Ab
namespace Go.Proofs.YtijpapagpebllaaGreatDoor
open Go Go.Ab
variable {v:Value} {n a:Int}
def qsn(n:Int):Nat:=(n+9223372036854775808).toNat
def q3p(v:Value):List UInt8:=UInt8.ofNat v.Kind.toNat::(if v.Kind=1\/v.Kind=3 then vsv (qsn v.Num) else if v.Kind=2 then qx6 v.Str++[0,1] else[])
def q5g(v:Value):Prop:=-9223372036854775808<=v.Num/\v.Num<=9223372036854775807
theorem qrr(h:ql1 v=true):(v.Kind=0/\v.Num=0/\v.Str=[])\/(v.Kind=1/\v.Str=[])\/(v.Kind=2/\v.Num=0/\v.Str.length<=200)\/(v.Kind=3/\1<=v.Num/\v.Str=[]):=by
 simpa[ql1] using h
theorem q3q{b:Int}(ha:-9223372036854775808<=a)(A:-9223372036854775808<=b)(h:qsn a=qsn b):a=b:=by
 unfold qsn at h;omega
theorem qwz(h:a<=9223372036854775807):qsn a<18446744073709551616:=by unfold qsn;omega
theorem qrs{α:Type}:∀{a b x y:List α},a.length=b.length->a++x=b++y->a=b/\x=y
 |[],[],_,_,_,h=>⟨rfl,h⟩
 |_::a,_::b,x,y,hl,h=>by
  simp only[v8g,v5t.injEq]at h;obtain⟨h1,A⟩:=qrs (by simpa using hl) h.2;exact⟨by rw[h.1,h1],A⟩
theorem vqa{w:Value}(V:ql1 v=true)(hw:ql1 w=true)(E:q5g v)(A:q5g w){x y:List UInt8}(h:q3p v++x=q3p w++y):v=w/\x=y:=by
 obtain⟨k,n,s⟩:=v;obtain⟨O,n',s'⟩:=w;have h1:=qrr V;have H:=qrr hw;unfold q5g at E A;simp only at h1 H E A;unfold q3p at h;simp only[v8g,v5t.injEq]at h;obtain⟨U,h⟩:=h;have Z:k.toNat%256=O.toNat%256:=by rw[<-q8o,U,q8o]
 have J:k=O:=by omega
 subst J;rcases h1 with⟨rfl,rfl,rfl⟩|⟨rfl,rfl⟩|⟨rfl,rfl,_⟩|⟨rfl,_,rfl⟩
 ·grind
 ·rcases H with⟨e,_⟩|⟨_,rfl⟩|⟨e,_⟩|⟨e,_⟩
  ·cases e
  ·simp only[true_or,if_true]at h;obtain⟨I,M⟩:=qrs (by rw[qwy,qwy]) h;have:=q3q E.1 A.1 (vdw (qwz E.2) (qwz A.2) I)
   grind
  all_goals cases e
 ·rcases H with⟨e,_⟩|⟨e,_⟩|⟨_,rfl,_⟩|⟨e,_⟩
  ·cases e
  ·cases e
  ·have W:¬((2:Int)=1\/(2:Int)=3):=by omega
   simp only[W,if_false,if_true,v5r,v8g,v6r]at h;obtain⟨I,M⟩:=vbr _ _ _ _ h
   grind
  ·cases e
 ·rcases H with⟨e,_⟩|⟨e,_⟩|⟨e,_⟩|⟨_,_,rfl⟩
  ·cases e
  ·cases e
  ·cases e
  ·simp only[or_true,if_true]at h;obtain⟨I,M⟩:=qrs (by rw[qwy,qwy]) h;have:=q3q E.1 A.1 (vdw (qwz E.2) (qwz A.2) I)
   grind
theorem vqb(h:ql1 v=true):(q3p v).length<=403:=by
 unfold q3p;have:=q5f v.Str;rcases qrr h with⟨h1,_⟩|⟨h1,_⟩|⟨h1,_,A⟩|⟨h1,_⟩<;>simp[h1,qwy]<;>omega
def qoz(l:List UInt8):List Int:=l.map fun c=>((c.toNat:Nat):Int)
theorem qtq(l:List UInt8):qi4 (qoz l)=l:=by
 unfold qi4 qoz;rw[List.map_map]
 conv=>rhs;rw[<-List.map_id l]
 apply v8u;intro c _;simp
theorem q8p(n:Nat):v98.wrap (n:Int)=((n%18446744073709551616:Nat):Int):=by
 simp only[uaa,v97,v94,v9z,v5k,if_false]
 grind
theorem q8q(h1:-9223372036854775808<=n)(A:n<=9223372036854775807):v98.wrap n=(((n%18446744073709551616).toNat:Nat):Int):=by
 simp only[uaa,v97,v94,v9z,v5k,if_false]
 grind
theorem vwe{x:Nat}(h:x<18446744073709551616):x^^^9223372036854775808=(x+9223372036854775808)%18446744073709551616:=by
 have H:x=2^63*(x/9223372036854775808)+x%9223372036854775808:=by
  grind
 have hl:x%9223372036854775808<2^63:=by
  grind
 have I:x/9223372036854775808=0\/x/9223372036854775808=1:=by omega
 have key:x^^^9223372036854775808=2^63*((x/9223372036854775808)^^^1)+x%9223372036854775808:=by
  apply uap;intro j;rw[uax,uaw _ hl]
  conv=>lhs;rw[H]
  rw[uaw _ hl,show(9223372036854775808:Nat)=2^63 from rfl,uav];by_cases E:j<63
  ·grind
  ·simp only[if_neg E,uax];congr 1;by_cases A:63=j
   ·subst A;simp
   ·obtain⟨d,hd⟩:∃d,j-63=d+1:=⟨j-64,by omega⟩
    grind
 grind
theorem key_u(h1:-9223372036854775808<=n)(A:n<=9223372036854775807):v98.wrap ((BitVec.ofInt 64 (v98.wrap n)^^^(9223372036854775808#64)).toNat:Int)=((qsn n:Nat):Int):=by
 rw[q8q h1 A,BitVec.toNat_xor,BitVec.ofInt_natCast,BitVec.toNat_ofNat,BitVec.toNat_ofNat];have E:(n%18446744073709551616).toNat%2^64=(n%18446744073709551616).toNat:=by
  grind
 have H:9223372036854775808%2^64=9223372036854775808:=by decide
 rw[E,H,vwe (by omega),q8p];unfold qsn;omega
theorem vwf(x:Nat):v99.wrap (x:Int)=(((UInt8.ofNat x).toNat:Nat):Int):=by
 rw[q8o];simp only[uaa,v97,v94,v9z,v5k,if_false]
 grind
theorem vdx(I:q5g v){B:List Int×Int->Option (LS (List Int×Int) (List Int))}
  (J:∀(E:List Int) (A:Int),B (E,A)=if A>=0 then(if A<0 then none else if qa8 (E.length+1) 1=true then some (.next ((E++[(v99.wrap (v90 (v98.wrap ((BitVec.ofInt 64 (v98.wrap v.Num)^^^(9223372036854775808#64)).toNat:Int)) (2^(min (A).toNat 64))))]),(v96.wrap (A-8)))) else none) else some (.done E)) (k:Int) :
  qah B ([k],56)=some (k::qoz (vsv (qsn v.Num))):=by
 have H:∀n:Nat,n<=10->qa8 n 1=true:=fun n hn=>qc3 (by omega) (by omega)
 have step:∀(E:List Int) (s:Nat),E.length<=9->s<=56->B (E,(s:Int))=some (.next (E++[(((UInt8.ofNat (qsn v.Num/2^s)).toNat:Nat):Int)],v96.wrap ((s:Int)-8))):=by
  intro E s ho O;rw[J,if_pos (by omega),if_neg (by omega),if_pos (H _ (by omega)),key_u I.1 I.2,v93,v9b (by omega),qwq,vwf]
 have w:∀s:Nat,8<=s->s<=56->v96.wrap ((s:Int)-8)=((s-8:Nat):Int):=fun s h1 M=>by
  rw[qbg (by omega) (by omega)];omega
 have e:∀s:Nat,((s:Nat):Int)=(s:Int):=fun _=>rfl
 rw[show(56:Int)=((56:Nat):Int) from rfl,qas (step _ 56 (by simp) (by omega)),w 56 (by omega) (by omega)];rw[qas (step _ _ (by simp) (by omega)),w _ (by omega) (by omega)];rw[qas (step _ _ (by simp) (by omega)),w _ (by omega) (by omega)];rw[qas (step _ _ (by simp) (by omega)),w _ (by omega) (by omega)];rw[qas (step _ _ (by simp) (by omega)),w _ (by omega) (by omega)];rw[qas (step _ _ (by simp) (by omega)),w _ (by omega) (by omega)];rw[qas (step _ _ (by simp) (by omega)),w _ (by omega) (by omega)];rw[qas (step _ _ (by simp) (by omega)),qap (t:=[k]++[_]++[_]++[_]++[_]++[_]++[_]++[_]++[_]) (by rw[J,if_neg];rw[qbg (by omega) (by omega)];omega)];rfl
theorem vwg(c:UInt8):(((c.toNat:Nat):Int)==0)=decide (c=0):=by
 rw[v9y];simp only[beq_iff_eq,decide_eq_true_eq,<-UInt8.toNat_inj]
 grind
theorem q1j(a:List UInt8):(qoz a).length=a.length:=by simp[qoz]
theorem vqc(v:Value)(hl:v.Str.length<=200)(k:UInt8):qah (qle v) ([((k.toNat:Nat):Int)],0)=some (qoz (k::qx6 v.Str)):=by
 have h:=qe8 v.Str (fun(o:List UInt8) i=>(qoz o,i)) (qle v) (fun o c=>o++qx6 [c]) (fun o=>qoz o) (fun j o=>o.length<=2*j+1) (b0:=[k]) (s0:=([((k.toNat:Nat):Int)],0)) rfl (by simp)
  (fun j o c A J M=>by
   have E:=qcs J (by omega);have H:qa8 ((qoz o).length+1) 1=true:=qc3 (by rw[q1j];omega) (by omega);have I:qa8 (((qoz o).length+1)+1) 1=true:=qc3 (by rw[q1j];omega) (by omega);refine⟨?_,by have:=q5f [c];simp at this ⊢;omega⟩;simp only[qle,qan A,if_true,qad A,v7m,H,I,vwg,E];by_cases h0:c=0
   ·subst h0;simp[qx6,qoz]
   ·simp[qx6,qoz,h0])
  (fun o _=>by simp[qle])
 rw[h];congr 2;have:∀(s o:List UInt8),s.foldl (fun o c=>o++qx6 [c]) o=o++qx6 s:=by
  intro s
  induction s with
  |nil=>intro o;simp[qx6]
  |cons c s ih =>
   intro o;rw[uaj,ih,v5r];have:=vbs [c] s
   grind
 rw[this];rfl
theorem q8r(h:ql1 v=true)(hn:q5g v):qtm v=some (q3p v,0):=by
 have A:=qrr h;simp only[qtm,qp5,h,v7m,if_true];have J:=vdx (B:=qtk v) hn (fun _ _=>rfl);have V:=vdx (B:=qtl v) hn (fun _ _=>rfl);have w1:v99.wrap 1=1:=by decide
 have H:v99.wrap 2=(((2:UInt8).toNat:Nat):Int):=by decide
 have O:v99.wrap 3=3:=by decide
 rcases A with⟨A,_⟩|⟨A,_⟩|⟨A,_,I⟩|⟨A,_⟩
 ·simp only[A];simp[q3p,A,qi4];decide
 ·simp only[A,w1,J];simp only[beq_self_eq_true,if_true,v7m];have:(1:Int)::qoz (vsv (qsn v.Num))=qoz (q3p v):=by simp[q3p,A,qoz]
  rw[this,qtq]
 ·simp only[A];have E:((2:Int)==1)=false:=by decide
  have M:((2:Int)==3)=false:=by decide
  simp only[E,M,v5k,if_false,beq_self_eq_true,if_true,H,vqc v I,v7m];have hl:=q5f v.Str;have hr:qa8 ((qoz (2::qx6 v.Str)).length+2) 1=true:=qc3 (by rw[q1j,v8r];omega) (by omega);rw[if_pos hr];have:qoz (2::qx6 v.Str)++[0,1]=qoz (q3p v):=by simp[q3p,A,qoz]
  rw[this,qtq]
 ·simp only[A,O,V];have E:((3:Int)==1)=false:=by decide
  simp only[E,v5k,if_false,beq_self_eq_true,if_true,v7m];have:(3:Int)::qoz (vsv (qsn v.Num))=qoz (q3p v):=by simp[q3p,A,qoz]
  rw[this,qtq]
end Go.Proofs.YtijpapagpebllaaGreatDoor
namespace Go.Ab
open Go
theorem v4c{n:Nat}(h:n<=8000000000):qa8 n 16=true:=by
 unfold qa8;simp only[decide_eq_true_eq];omega
end Go.Ab
namespace Go.Proofs.YtijpapagpebllaaGreatDoor
open Go Go.Ab
end Go.Proofs.YtijpapagpebllaaGreatDoor
namespace Go.Ab
open Go
end Go.Ab
namespace Go.Proofs.YtijpapagpebllaaGreatDoor
open Go Go.Ab
variable {α:Type} {n:Nat}
abbrev Str:=List UInt8
def vh6(n k:Nat)(f:Nat->α)(z:α):List α:=(v6s n).map fun j=>if j<k then f j else z
theorem q5h{k j:Nat}{f:Nat->α}{z:α}(h:j<n):(vh6 n k f z)[j]?=some (if j<k then f j else z):=by
 unfold vh6;rw[v8n,ual h];rfl
theorem vqd{k:Nat}{f:Nat->α}{z:α}(h:k<n):(vh6 n k f z).set k (f k)=vh6 n (k+1) f z:=by
 apply v5y;intro j;by_cases A:j<n
 ·rw[uam,q5h A,q5h A];by_cases E:k=j
  ·subst E;simp[vh6,A]
  ·rw[if_neg E];congr 1;by_cases h1:j<k
   ·rw[if_pos h1,if_pos (by omega)]
   ·rw[if_neg h1,if_neg (by omega)]
 ·rw[v54 (by simp[vh6];omega),v54 (by simp[vh6];omega)]
theorem vld{f:Nat->α}{z:α}:vh6 n 0 f z=v6u n z:=by
 unfold vh6;apply List.ext_getElem (by simp);intro i h1 A;simp
theorem q1k{α A:Type}(C:A):∀l:List α,q5d (fun(_:Unit) (_:α)=>(Sum.inl ():Unit⊕A)) (fun _=>C) l ()=C
 |[]=>rfl
 |x::l=>q1k C l
def lexN(x y:Nat):Prop:=vdc x<vdc y\/(vdc x=vdc y/\x<y)
instance (x y:Nat):Decidable (lexN x y):=by unfold lexN;exact inferInstance
theorem q8s(l:List Int)(x:Int)(hl:l.length<=1073741824):qil l x=some (vsu (l.findIdx? (fun y=>x==y))):=by
 have h:=qka l (qd7 l x) (fun y=>x==y)
  (fun k y A H E=>by simp only[qd7,if_pos (qan A),qad A,v7m,E,v5k,if_false,if_true,qcs H (show l.length<=4611686018427387904 by omega)])
  (fun k y A E=>by simp only[qd7,if_pos (qan A),qad A,v7m,E,if_true])
  (by simp[qd7])
 simp only[qil,h,v7m];cases l.findIdx? (fun y=>x==y)<;>rfl
theorem q1l(l:List Int)(x:Int)(hl:l.length<=1073741824):qfv l x=some (decide (x∈l)):=by
 simp only[qfv,q8s l x hl,v7m];rw[vdt];congr 1;rw[v9y];simp
def vqe(a b:Row):List Int->Int
 |[]=>0
 |i::l=>if qzv (qdj a i.toNat) (qdj b i.toNat)≠0 then qzv (qdj a i.toNat) (qdj b i.toNat) else vqe a b l
theorem qpl:∀(n:Nat) (a:Int) (l:List Row),qds n a l=0->(∀r∈l,r.Values.length=n/\r.Values.all ql1=true/\a<r.ID)/\l.Pairwise (fun x y=>x.ID<y.ID)
 |n,a,[],_=>⟨fun r hr=>(by cases hr),uad.nil⟩
 | n,a,x :: l,h=>by
  simp only[qds]at h;by_cases h1:x.ID<=a
  ·simp[h1]at h
  by_cases A:x.Values.length≠n
  ·simp[h1,A]at h
  by_cases E:x.Values.all ql1=true
  ·rw[if_neg h1,if_neg A,if_pos E]at h;obtain⟨H,I⟩:=qpl n x.ID l h;refine⟨fun r hr=>?_,uad.cons (fun y J=>(H y J).2.2) I⟩;rcases List.mem_cons.1 hr with rfl|hr
   ·exact⟨by omega,E,by omega⟩
   ·have:=H r hr;exact⟨this.1,this.2.1,by omega⟩
  ·rw[if_neg h1,if_neg A,if_neg E]at h;cases h
theorem qtr{t:Table}(h:qdi t=0):t.Attrs.length<=16/\t.Rows.length<=1000/\qds t.Attrs.length 0 t.Rows=0:=by
 unfold qdi at h;by_cases h1:qy7 t.Name=false
 ·simp[h1]at h
 by_cases A:t.Attrs.length>16
 ·rw[if_neg h1,if_pos A]at h;cases h
 by_cases E:t.Rows.length>1000
 ·rw[if_neg h1,if_neg A,if_pos E]at h;cases h
 by_cases H:q1f t.Attrs=false
 ·rw[if_neg h1,if_neg A,if_neg E,if_pos H]at h;cases h
 rw[if_neg h1,if_neg A,if_neg E,if_neg H]at h;exact⟨by omega,by omega,h⟩
def hasB(s i:Int):Bool:=(v9p.wrap ((BitVec.ofInt 32 (v90 s (2^(min i.toNat 32)))&&&(1#32)).toNat:Int))==1
theorem q1m{α:Type}(p:Nat->α->Bool):∀(l:List α) (k:Nat),qju p k l=true↔∀(j:Nat) (x:α),l[j]?=some x->p (k+j) x=true
 |[],k=>by simp[qju]
 | y :: r,k=>by
  simp only[qju,v5i,q1m p r (k+1)];constructor
  ·rintro⟨h1,E⟩ j x A;cases j with
   |zero=>simp at A;subst A;exact h1
   |succ j =>
    have:=E j x (by simpa using A)
    rwa [Nat.add_assoc,Nat.add_comm 1]at this
  ·intro h;refine⟨h 0 y rfl,fun j x A=>?_⟩;have:=h (j+1) x (by simpa using A)
   rwa [Nat.add_assoc,Nat.add_comm 1]
theorem q8t[DecidableEq α](a b:List α)(h:a.length=b.length):qju (fun k x=>decide (b[k]?=some x)) 0 a=decide (a=b):=by
 rw[v9y,q1m,decide_eq_true_eq];simp only[Nat.zero_add,decide_eq_true_eq];constructor
 ·intro A;apply v5y 
  grind
 ·grind
theorem q1n(l:List (List UInt8))(h:l.length<=1073741824):qig l=some l:=by
 unfold qig;rw[if_pos (qc3 (by omega) (by omega))]
theorem q2x(l:List Int)(h:l.length<=1073741824):qgw l=some l:=by
 unfold qgw;rw[if_pos (qc3 (by omega) (by omega))]
theorem vle[DecidableEq α](a b:List α)(h:a.length=b.length){B:Int->Option (LS Int (Unit⊕Bool))}
  (I:∀(k:Nat) x y,a[k]?=some x->b[k]?=some y->B (k:Int)=if decide (x=y)=true then some (.next ((k+1:Nat):Int)) else some (.done (.inr false)))
  (M:B (a.length:Int)=some (.done (.inl ()))):qah B 0=some (if decide (a=b) then .inl () else .inr false):=by
 have hl:=qx4 a B (fun k x=>decide (b[k]?=some x)) false
  (fun k x E J A=>by
   simp only[decide_eq_true_eq]at A;rw[I k x x E A];simp)
  (fun k x E A=>by
   have J:=qdc E;have H:b[k]?=some (b[k]'(by omega)):=v52 (by omega);rw[H]at A;simp only[Option.some.injEq,decide_eq_false_iff_not]at A;rw[I k x _ E H,if_neg];simp only[decide_eq_true_eq];exact fun e=>A e.symm) M a 0 rfl (v9f _)
 simp only[v91,q8t a b h]at hl;exact hl
theorem qu9(a b:List Int)(ha:a.length<=1073741824):qe1 a b=some (decide (a=b)):=by
 simp only[qe1];by_cases h:a.length=b.length
 ·have e:¬(((a.length:Int) != (b.length:Int))=true):=by simp[h]
  rw[if_neg e,vle a b h (fun k x y A M=>by
   have I:=qdc A;simp only[qg0,if_pos (qan A),qad A,qad M,v7m,qcs I (show a.length<=4611686018427387904 by omega)];by_cases E:x=y<;>simp[E]) (by simp[qg0])]
  by_cases H:a=b<;>simp[H]
 ·have e:(((a.length:Int) != (b.length:Int))=true):=by rw[bne_iff_ne];omega
  rw[if_pos e];have:a≠b:=fun J=>h (by rw[J])
  simp[this]
theorem q1o(n:Nat):∀(l:List Row) (a:Int),(∀r∈l,a<r.ID/\r.Values.length=n/\r.Values.all ql1=true)->l.Pairwise (fun r q=>r.ID<q.ID)->qds n a l=0
 |[],_,_,_=>rfl
 |r::l,a,h,hp=>by
  obtain⟨h1,E,H⟩:=h r (by simp);rw[List.pairwise_cons]at hp;simp only[qds];rw[if_neg (by omega),if_neg (by simp[E]),if_pos H];exact q1o n l r.ID (fun q A=>⟨hp.1 q A,(h q (by simp[A])).2⟩) hp.2
theorem q8u{B:List α×Int->Option (LS (List α×Int) (List α))}(N:Nat)(f:Nat->α)
  (I:∀(k:Nat) (A:List α),k<N->A.length=k->B (A,(k:Int))=some (.next (A++[f k],((k+1:Nat):Int))))
  (H:∀A:List α,B (A,(N:Int))=some (.done A)):qah B ([],0)=some ((v6s N).map f):=by
 have key:∀(r k:Nat) (A:List α),k+r=N->A.length=k->qah B (A,(k:Int))=some (A++(List.range' k r).map f):=by
  intro r
  induction r with
  |zero =>
   intro k A E ho;have:k=N:=by omega
   subst this;rw[qap (H A)];simp
  |succ r ih =>
   intro k A E ho;rw[qas (I k A (by omega) ho),ih (k+1) _ (by omega) (by simp[ho])];simp[List.range'_succ]
 have h:=key N 0 [] (by omega) rfl;simp only[v91,v6r]at h;rw[h,List.range_eq_range']
theorem vwh(c:Int):∃v,qc5 c=some v/\ql1 v=true/\v.Str.length<=2:=by
 unfold qc5;by_cases h0:(v92 c 12==0)=true
 ·rw[if_pos h0];exact⟨_,rfl,by decide,by decide⟩
 rw[if_neg h0];by_cases h1:(v92 c 12==1)=true
 ·rw[if_pos h1];exact⟨_,rfl,by decide,by decide⟩
 rw[if_neg h1];by_cases E:(v92 c 12==2)=true
 ·rw[if_pos E];exact⟨_,rfl,by decide,by decide⟩
 rw[if_neg E];by_cases O:(v92 c 12==3)=true
 ·rw[if_pos O];exact⟨_,rfl,by decide,by decide⟩
 rw[if_neg O];by_cases J:(v92 c 12==4)=true
 ·rw[if_pos J];exact⟨_,rfl,by decide,by decide⟩
 rw[if_neg J];by_cases H:(v92 c 12==5)=true
 ·rw[if_pos H];exact⟨_,rfl,by decide,by decide⟩
 rw[if_neg H];by_cases U:(v92 c 12==6)=true
 ·rw[if_pos U];exact⟨_,rfl,by decide,by decide⟩
 rw[if_neg U];by_cases M:(v92 c 12==7)=true
 ·rw[if_pos M];exact⟨_,rfl,by decide,by decide⟩
 rw[if_neg M];by_cases V:(v92 c 12==8)=true
 ·rw[if_pos V];exact⟨_,rfl,by decide,by decide⟩
 rw[if_neg V];by_cases I:(v92 c 12==9)=true
 ·rw[if_pos I];exact⟨_,rfl,by decide,by decide⟩
 rw[if_neg I];by_cases A:(v92 c 12==10)=true
 ·rw[if_pos A];exact⟨_,rfl,by decide,by decide⟩
 rw[if_neg A];exact⟨_,rfl,by decide,by decide⟩
def ofV(c:Int):Value:=(qc5 c).getD ⟨0,0,[]⟩
theorem q3r(c:Int):qc5 c=some (ofV c)/\ql1 (ofV c)=true/\(ofV c).Str.length<=2:=by
 obtain⟨v,h1,A,E⟩:=vwh c;have:ofV c=v:=by unfold ofV;rw[h1];rfl
 rw[this];exact⟨h1,A,E⟩
def v4d(x:Drossref03_Recipe)(i k:Nat):Value:=ofV (((x.Rows.getD i []).getD k 0))
def qux(x:Drossref03_Recipe):Nat:=1+x.Gap.toNat%3
def vdy(x:Drossref03_Recipe)(n i:Nat):Row:=⟨((1+i*qux x:Nat):Int),(v6s n).map (v4d x i)⟩
def qpm:List (List UInt8):=[[97],[98],[99],[100],[101],[102],[103],[104]]
def q3s(x:Drossref03_Recipe)(n:Nat):Table:=⟨[114],qpm.take n,(v6s x.Rows.length).map (vdy x n)⟩
theorem vgk(x:Drossref03_Recipe)(n i:Nat)(hn:n<=8)(hi:i<x.Rows.length)(hl:∀r∈x.Rows,r.length<=1048576) :
  qah (qgq x (n:Int) (i:Int)) ([],0)=some ((v6s n).map (v4d x i)):=by
 have J:x.Rows[i]?=some (x.Rows.getD i []):=by simp[uak,v52 hi]
 have O:=hl _ (v6m J);refine q8u n (v4d x i) (fun k E U ho=>?_) (fun E=>by simp[qgq]);have H:((k:Int)<(n:Int)):=by omega
 have A:qa8 (E.length+1) 32=true:=qc3 (by omega) (by omega);have M:=qe4 (k:=k) (by omega);simp only[qgq,if_pos H,qad J,v7m];by_cases h:k<(x.Rows.getD i []).length
 ·have h':((k:Int)<((x.Rows.getD i []).length:Int)):=by omega
  have I:(x.Rows.getD i [])[k]?=some ((x.Rows.getD i []).getD k 0):=by
   generalize x.Rows.getD i []=l at h;simp[uak,v52 h]
  simp only[if_pos h',qad I,v7m,(q3r _).1,A,if_true,M];rfl
 ·have h':¬((k:Int)<((x.Rows.getD i []).length:Int)):=by omega
  have I:(x.Rows.getD i []).getD k 0=0:=by
   generalize x.Rows.getD i []=l at h;simp[uak,v54 (show l.length<=k by omega)]
  simp only[if_neg h',(q3r _).1,v7m,A,if_true,M];unfold v4d;rw[I]
theorem vwi(x:Drossref03_Recipe)(n:Nat)(hn:n<=8)(hr:x.Rows.length<=8)(hl:∀r∈x.Rows,r.length<=1048576)(V:0<=x.Gap/\x.Gap<=255):qjf x (n:Int)=some (q3s x n):=by
 have h1:(0:Int)<=(n:Int):=by omega
 have M:(n:Int)<=8:=by omega
 have A:qa8 ((qpm.take n).length) 16=true:=qc3 (by simp;omega) (by omega);have ho:qah (qgr x (n:Int)) ([],0)=some ((v6s x.Rows.length).map (vdy x n)):=by
  refine q8u x.Rows.length (vdy x n) (fun i H hi ho=>?_) (fun H=>by simp[qgr]);have I:((i:Int)<(x.Rows.length:Int)):=by omega
  have A:qa8 (H.length+1) 32=true:=qc3 (by omega) (by omega);have W:v92 x.Gap 3=((x.Gap.toNat%3:Nat):Int):=by
   rw[Int.tmod_eq_emod_of_nonneg V.1];omega
  have e1:v96.wrap (v92 x.Gap 3)=((x.Gap.toNat%3:Nat):Int):=by rw[W,qbg (by omega) (by omega)]
  have e2:v96.wrap (1+v96.wrap (v92 x.Gap 3))=((qux x:Nat):Int):=by
   rw[e1,qbg (by omega) (by omega)];unfold qux;omega
  have O:qux x<=3:=by unfold qux;omega
  have J:i*qux x<=8*3:=Nat.mul_le_mul (by omega) O;have Z:v96.wrap ((i:Int)*((qux x:Nat):Int))=((i*qux x:Nat):Int):=by
   rw[<-Int.natCast_mul,qbg (by omega) (by omega)]
  have U:v96.wrap (1+v96.wrap ((i:Int)*v96.wrap (1+v96.wrap (v92 x.Gap 3))))=((1+i*qux x:Nat):Int):=by
   rw[e2,Z,qbg (by omega) (by omega)];omega
  simp only[qgr,if_pos I,vgk x n i hn hi hl,v7m,A,if_true,U,qe4 (k:=i) (by omega)];rfl
 simp only[qjf,if_pos h1,if_pos M,v7m,v93];have E:qa8 ((List.take n [[97],[98],[99],[100],[101],[102],[103],[104]]:List (List UInt8)).length) 16=true:=A;rw[if_pos E,ho];rfl
theorem q1p(l:List Int)(hl:l.length<=1048576):qjo l=some (l.map ofV):=by
 have h:=qe8 l (fun(o:List Value) i=>(o,i)) (qg1 l) (fun o c=>o++[ofV c]) id (fun k o=>o.length=k) (b0:=[]) (s0:=([],0)) rfl rfl
  (fun k o c A E H=>by
   refine⟨?_,by simp[H]⟩;simp only[qg1,if_pos (qan A),qad A,v7m,(q3r c).1,RLE (o.length+1) 32,if_true,qcs E (show l.length<=4611686018427387904 by omega)])
  (fun o _=>by simp[qg1])
 simp only[qjo,h,id,v7m];have:∀(l:List Int) (o:List Value),l.foldl (fun o c=>o++[ofV c]) o=o++l.map ofV:=by
  intro l
  induction l with
  |nil=>intro o;simp
  |cons c l ih=>intro o;rw[uaj,ih];simp
 rw[this];rfl
theorem vlf(h:n<=8):q1f (qpm.take n)=true:=by
 have:n=0\/n=1\/n=2\/n=3\/n=4\/n=5\/n=6\/n=7\/n=8:=by omega
 rcases this with rfl|rfl|rfl|rfl|rfl|rfl|rfl|rfl|rfl<;>decide
theorem vgl(x:Drossref03_Recipe)(n:Nat)(hn:n<=8)(hr:x.Rows.length<=8):qdi (q3s x n)=0:=by
 have h1:¬(qy7 [114]=false):=by decide
 have E:(qpm.take n).length=n:=by simp[qpm];omega
 have H:¬(qpm.take n).length>16:=by omega
 have O:¬((v6s x.Rows.length).map (vdy x n)).length>1000:=by simp;omega
 have M:¬(q1f (qpm.take n)=false):=by rw[vlf hn];simp
 have J:qds (qpm.take n).length 0 ((v6s x.Rows.length).map (vdy x n))=0:=by
  refine q1o _ _ _ (fun r hr=>?_) ?_
  ·obtain⟨i,hi,rfl⟩:=v81.1 hr;refine⟨by simp only[vdy];omega,by simp only[vdy,v6d,uao];omega,?_⟩;rw[List.all_eq_true];intro v I;obtain⟨k,U,rfl⟩:=v81.1 I;exact(q3r _).2.1
  ·rw[List.pairwise_map];refine uad.imp ?_ List.pairwise_lt_range;intro a b A;simp only[vdy];have V:1<=qux x:=by unfold qux;omega
   have:(a+1)*qux x<=b*qux x:=Nat.mul_le_mul_right _ A;rw[Nat.add_mul,Nat.one_mul]at this;omega
 show(if qy7 [114]=false then(1:Int) else if(qpm.take n).length>16 then 3 else if((v6s x.Rows.length).map (vdy x n)).length>1000 then 3 else if q1f (qpm.take n)=false then 1 else qds (qpm.take n).length 0 ((v6s x.Rows.length).map (vdy x n)))=0;rw[if_neg h1,if_neg H,if_neg O,if_neg M];exact J
theorem vdz{n:Int}(h:okI .u8 n):0<=n/\n<=255:=by
 have h':(decide (IntKind.min .u8<=n)&&decide (n<=IntKind.max .u8))=true:=h;simp only[v5i,decide_eq_true_eq]at h';have A:IntKind.min .u8=0:=by decide
 have E:IntKind.max .u8=255:=by decide
 rw[A,E]at h';exact h'
theorem vd0(a b:Row):∀l:List Int,vqe b a l=- vqe a b l
 |[]=>rfl
 |i::l=>by
  simp only[vqe];rw[vp3 (qdj a i.toNat) (qdj b i.toNat),vd0 a b l];by_cases h:qzv (qdj a i.toNat) (qdj b i.toNat)=0
  ·rw[if_neg (by omega),if_neg (by omega)]
  ·rw[if_pos (by omega),if_pos (by omega)]
theorem q8v(a b:Row):∀l:List Int,vqe a b l=0↔∀i∈l,qzv (qdj a i.toNat) (qdj b i.toNat)=0
 |[]=>by simp[vqe]
 |i::l=>by
  simp only[vqe,List.forall_mem_cons];by_cases h:qzv (qdj a i.toNat) (qdj b i.toNat)=0
  ·rw[if_neg (by omega),q8v a b l];exact⟨fun k=>⟨h,k⟩,fun k=>k.2⟩
  ·rw[if_pos (by omega)];exact⟨fun k=>absurd k h,fun k=>absurd k.1 h⟩
structure Good(t:Table):Prop where
 ok:TableOk t
 err:qdi t=0
 attrs:t.Attrs.length<=5
 rows:t.Rows.length<=8
theorem vgm(x:Drossref03_Recipe)(n:Nat)(hn:n<=8)(hr:x.Rows.length<=8):TableOk (q3s x n):=by
 refine⟨?_,?_,?_,?_⟩
 ·simp only[q3s,List.length_take];omega
 ·simp only[q3s,v6d,uao];omega
 ·intro r h;obtain⟨i,_,rfl⟩:=v81.1 h;simp only[vdy,v6d,uao];omega
 ·intro r h v A;obtain⟨i,_,rfl⟩:=v81.1 h;obtain⟨k,_,rfl⟩:=v81.1 A;have:=(q3r ((x.Rows.getD i []).getD k 0)).2.2;unfold v4d;omega
theorem vd1{a:Nat}(ha:a<4294967296){i:Nat}(hi:i<=32):hasB (a:Int) (i:Int)=a.testBit i:=by
 unfold hasB;rw[v93];exact q5e ha hi
def v4e(n:Nat)(s:Int):List Int:=((v6s n).map fun(k:Nat)=>(k:Int)).filter fun a=>hasB s a
theorem vqf{s i:Int}(h:i∈v4e n s):0<=i/\i<(n:Int):=by
 unfold v4e at h;obtain⟨h1,_⟩:=v80.1 h;obtain⟨k,A,rfl⟩:=v81.1 h1;have:=v83.1 A;omega
theorem vqg(a b:Row)(n:Nat)(s:Int):vqe a b (v4e n s)=0↔∀i:Int,0<=i->i<(n:Int)->hasB s i=true->qzv (qdj a i.toNat) (qdj b i.toNat)=0:=by
 rw[q8v];constructor
 ·intro h i h0 h1 A;refine h i ?_;unfold v4e;rw[v80,v81];exact⟨⟨i.toNat,by rw[v83];omega,by omega⟩,A⟩
 ·intro h i hi;obtain⟨h0,h1⟩:=vqf hi;exact h i h0 h1 (v80.1 hi).2
theorem vwj(h:n<=16):qjg (n:Int)=some ((2^n-1:Nat):Int):=by
 have hl:=qe8 (v6s n) (fun(s:Nat) i=>((s:Int),i)) (qgs (n:Int)) (fun s k=>s|||2^k) (fun s=>(s:Int)) (fun _ s=>s<4294967296) (b0:=0) (s0:=(0,0)) rfl (by omega)
  (fun k s z I H E=>by
   have A:z=k:=by
    have:=(v56.1 I).2;simpa using this.symm
   subst A;rw[uao]at H;refine⟨?_,v4a E (q1h (by omega))⟩;simp only[qgs,if_pos (show(z:Int)<(n:Int) by omega),if_pos (show(z:Int)<32 by omega),if_neg (show ¬(z:Int)<0 by omega),wqn z,v93,vp6 (show z<32 by omega),q3o E (q1h (show z<32 by omega))])
  (fun s _=>by rw[uao];simp[qgs])
 simp only[qjg,hl,v7m];congr 2;apply uap;intro i;have:=vp8 (v6s n) i;unfold setN at this;rw[this,Nat.testBit_two_pow_sub_one];congr 1;rw[v83]
def qw0(n:Nat)(a b:Row)(s:Nat):Prop:=∀k,k<n->s.testBit k=true->qzv (qdj a k) (qdj b k)=0
theorem q8w(l:List α)(j:Nat)(h:j<l.length):l.take (j+1)=l.take j++[l[j]]:=by
 induction l generalizing j with
 |nil=>simp at h
 | cons x r ih =>
  cases j with
  |zero=>simp
  |succ j =>
   simp only[v8r]at h;simp only[List.take_succ_cons,v8g,List.getElem_cons_succ];rw[ih j (by omega)]
theorem q5i{α:Type}(l:List α)(p:α->Bool)(B:List α×Int×Int->Option (LS (List α×Int×Int) (List α×Int)))
  (hB:∀(s:List α) (i j:Nat) x,s.length=l.length->s[j]?=some x->i<=j->j<l.length->B (s,(i:Int),(j:Int))=some (.next (if p x=true then(s.set i x,((i+1:Nat):Int),((j+1:Nat):Int)) else(s,(i:Int),((j+1:Nat):Int)))))
  (Z:∀(s:List α) (i:Nat),s.length=l.length->B (s,(i:Int),(l.length:Int))=some (.done (s,(i:Int)))) :
  ∀(r j:Nat) (s:List α) (i:Nat),j+r=l.length->s.length=l.length->i<=j->s.take i=(l.take j).filter p->(∀m,j<=m->s[m]?=l[m]?) ->
   ∃(s':List α) (I:Nat),qah B (s,(i:Int),(j:Int))=some (s',(I:Int))/\s'.length=l.length/\I<=l.length/\s'.take I=l.filter p
 |0,j,s,i,hj,hs,hij,ht,hm=>by
  have e:j=l.length:=by omega
  subst e;refine⟨s,i,qap (Z s i hs),hs,hij,?_⟩;rw[ht,List.take_length]
 | r+1,j,s,i,hj,hs,hij,ht,hm=>by
  have H:j<l.length:=by omega
  have hx:l[j]?=some l[j]:=v52 H;have V:s[j]?=some l[j]:=by rw[hm j (v7a _),hx]
  have E:l.take (j+1)=l.take j++[l[j]]:=q8w l j H;have A:=hB s i j l[j] hs V hij H;cases O:p l[j] with
  | true =>
   rw[if_pos O]at A;have J:i<s.length:=by omega
   obtain⟨s',I,h1,U,h3,W⟩:=q5i l p B hB Z r (j+1) (s.set i l[j]) (i+1) (by omega) (by rw[v6f];exact hs) (by omega) (by
    rw[E,uaf,<-ht,uag,if_pos O,uai];have hg:(s.set i l[j])[i]?=some l[j]:=by rw[List.getElem?_set_self J]
    have M:i<(s.set i l[j]).length:=by rw[v6f];exact J
    rw[q8w _ i M,List.take_set_of_le (v7a i)];congr 2;have:=v52 M;rw[hg]at this;exact(Option.some.inj this).symm) (fun m hmj=>by rw[List.getElem?_set_ne (by omega)];exact hm m (by omega))
   exact⟨s',I,by rw[qas A];exact h1,U,h3,W⟩
  | false =>
   rw[if_neg (by rw[O];simp)]at A;obtain⟨s',I,h1,U,h3,W⟩:=q5i l p B hB Z r (j+1) s i (by omega) hs (by omega) (by
    rw[E,uaf,<-ht,uag,if_neg (by rw[O];simp),uai,List.append_nil]) (fun m hmj=>hm m (by omega))
   exact⟨s',I,by rw[qas A];exact h1,U,h3,W⟩
end Go.Proofs.YtijpapagpebllaaGreatDoor

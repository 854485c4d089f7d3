/- The Lean functions that the program's functions are lifted to, and the plain laws about them. -/
import Derived.Test.YtgklegblfboelaaGreatDoorA3
import Derived.Test.YtgklegblfboelaaGreatDoorA2
set_option linter.unusedVariables false
set_option linter.unusedSimpArgs false
open Bool renaming eq_false_or_eq_true→vi1
open Int renaming fdiv→vi2,tdiv→vi3
open Go.IntKind renaming i64→vip,u64→vi4
open List renaming findIdx?_cons→vi5,getElem?_drop→ve2
noncomputable section
namespace Go.Proofs.YtgklegblfboelaaGreatDoor
open Go Go.Ab
structure Hypergraph where
 Vertices:List Int
 Edges:List (List Int)
 deriving DecidableEq
structure Drossref37_Graph where
 N:Int
 Edges:List Int
 deriving DecidableEq
def qd7 (s_1:Int) (i_2:Int):Option (Bool) :=
 if i_2≥0 then
 if i_2 < 32 then
 if i_2 < 0 then none else
 some ((IntKind.u32.wrap ((BitVec.ofInt 32 (vi2 s_1 (2 ^ (min (i_2).toNat 32))) &&& (1#32)).toNat:Int)) == 1)
 else
 some false
 else
 some false
def qc6 (h_8:Hypergraph) (s_9:Int):(List Int×Int)→Option (LS (List Int×Int) (List Int)):=fun (out_19,i_20) =>
 if i_20 < (h_8.Vertices.length:Int) then
 if i_20 < 8 then
 (qd7 (IntKind.u32.wrap s_9) i_20).bind fun (r_36:Bool) =>
 if r_36=true then
 (idx h_8.Vertices i_20).bind fun (x_39:Int) =>
 if qfa (out_19.length+1) 8=true then
 some (.next ((out_19++[x_39]),(vip.wrap (i_20+1))))
 else none
 else
 some (.next (out_19,(vip.wrap (i_20+1))))
 else
 some (.done out_19)
 else
 some (.done out_19)
def qei (h_8:Hypergraph) (s_9:Int):Option (List Int) :=
 (qas (qc6 h_8 s_9) ([],0)).bind (fun out_31 =>
 some out_31)
def qct (l_46:List Int) (id_47:Int):Int→Option (LS (Int) ((Unit) ⊕ (Bool))):=fun i_52 =>
 if i_52 < (l_46.length:Int) then
 (idx l_46 i_52).bind fun (x_58:Int) =>
 if (x_58 == id_47)=true then
 some (.done (.inr true))
 else
 some (.next (vip.wrap (i_52+1)))
 else
 some (.done (.inl ()))
def qc9 (l_46:List Int) (id_47:Int):Option (Bool) :=
 (qas (qct l_46 id_47) 0).bind (fun o=>match o with
 | .inl () =>
 some false
 | .inr r_63 =>
 some r_63)
def qer (l_67:List Int) (x_68:Int):Option (Bool) :=
 (qc9 l_67 x_68).bind fun (r_69:Bool) =>
 some r_69
def qb4 (a_72:List Int) (b_73:List Int):Int→Option (LS (Int) ((Unit) ⊕ (Bool))):=fun i_80 =>
 if i_80 < (a_72.length:Int) then
 (idx a_72 i_80).bind fun (x_88:Int) =>
 (qer b_73 x_88).bind fun (r_90:Bool) =>
 if r_90=true then
 some (.next (vip.wrap (i_80+1)))
 else
 some (.done (.inr false))
 else
 some (.done (.inl ()))
def qbd (a_72:List Int) (b_73:List Int):Option (Bool) :=
 (qas (qb4 a_72 b_73) 0).bind (fun o=>match o with
 | .inl () =>
 some true
 | .inr r_95 =>
 some r_95)
def qa3 (a_99:List Int) (b1:List Int):Int→Option (LS (Int) ((Unit) ⊕ (Bool))):=fun i2 =>
 if i2 < (a_99.length:Int) then
 if i2 < (b1.length:Int) then
 (idx a_99 i2).bind fun (x3:Int) =>
 (idx b1 i2).bind fun (x4:Int) =>
 if (x3 != x4)=true then
 some (.done (.inr (decide (x3 < x4))))
 else
 some (.next (vip.wrap (i2+1)))
 else
 some (.done (.inl ()))
 else
 some (.done (.inl ()))
def qdj (a_99:List Int) (b1:List Int):Option (Bool) :=
 (qas (qa3 a_99 b1) 0).bind (fun o=>match o with
 | .inl () =>
 some (decide ((a_99.length:Int) < (b1.length:Int)))
 | .inr r2 =>
 some r2)
def qcc (l1:List (List Int)) (i2:Int):(Bool×Int)→Option (LS (Bool×Int) (Bool)):=fun (k3,k4) =>
 if k4 < (l1.length:Int) then
 (idx l1 k4).bind fun (x5:List Int) =>
 (idx l1 i2).bind fun (x6:List Int) =>
 (qbd x5 x6).bind fun (r7:Bool) =>
 if r7=true then
 if (x5.length:Int) < (x6.length:Int) then
 some (.next (false,(vip.wrap (k4+1))))
 else
 if k4 < i2 then
 some (.next (false,(vip.wrap (k4+1))))
 else
 some (.next (k3,(vip.wrap (k4+1))))
 else
 some (.next (k3,(vip.wrap (k4+1))))
 else
 some (.done k3)
def qcd:(List (List Int)×Int)→Option (LS (List (List Int)×Int) (List (List Int))):=fun (o1,k2) =>
 if k2 > 0 then
 (idx o1 k2).bind fun (x3:List Int) =>
 (idx o1 (vip.wrap (k2 - 1))).bind fun (x4:List Int) =>
 (qdj x3 x4).bind fun (r5:Bool) =>
 if r5=true then
 (idx (o1.set k2.toNat x4) (vip.wrap (k2 - 1))).bind fun (x6:List Int) =>
 some (.next (((o1.set k2.toNat x4).set (vip.wrap (k2 - 1)).toNat x3),(vip.wrap (k2 - 1))))
 else
 some (.done o1)
 else
 some (.done o1)
def qcw (l1:List (List Int)):(List (List Int)×Int)→Option (LS (List (List Int)×Int) (List (List Int))):=fun (o2,i3) =>
 if i3 < (l1.length:Int) then
 (qas (qcc l1 i3) (true,0)).bind (fun k4 =>
 if k4=true then
 (idx l1 i3).bind fun (x5:List Int) =>
 if qfa x5.length 8=true then
 if qfa (o2.length+1) 24=true then
 (qas qcd ((o2++[x5]),(vip.wrap ((((o2.length+1):Nat):Int) - 1)))).bind (fun o6 =>
 some (.next (o6,(vip.wrap (i3+1)))))
 else none
 else none
 else
 some (.next (o2,(vip.wrap (i3+1)))))
 else
 some (.done o2)
def qd2 (l1:List (List Int)):Option (List (List Int)) :=
 (qas (qcw l1) ([],0)).bind (fun o2 =>
 some o2)
def qbq (g1:Drossref37_Graph):(List Int×Int)→Option (LS (List Int×Int) (List Int)):=fun (h2,i3) =>
 if i3 < (vip.wrap (Int.tmod g1.N 9)) then
 if qfa (h2.length+1) 8=true then
 some (.next ((h2++[(vip.wrap (2+(vip.wrap (3 * i3))))]),(vip.wrap (i3+1))))
 else none
 else
 some (.done h2)
def qa7 (g1:Drossref37_Graph) (h2:List Int):(List Int×List (List Int)×List (List Int)×List (List Int)×Int)→Option (LS (List Int×List (List Int)×List (List Int)×List (List Int)×Int) (Hypergraph×Hypergraph×List (List Int))):=fun (t3,t4,h5,l6,i7) =>
 if i7 < (g1.Edges.length:Int) then
 if i7 < 12 then
 (idx g1.Edges i7).bind fun (x8:Int) =>
 (qei (Hypergraph.mk h2 h5) x8).bind fun (r9:List Int) =>
 if (r9.length:Int) > 0 then
 if qfa (l6.length+1) 24=true then
 some (.next (t3,t4,h5,(l6++[r9]),(vip.wrap (i7+1))))
 else none
 else
 some (.next (t3,t4,h5,l6,(vip.wrap (i7+1))))
 else
 some (.done ((Hypergraph.mk t3 t4),(Hypergraph.mk h2 h5),l6))
 else
 some (.done ((Hypergraph.mk t3 t4),(Hypergraph.mk h2 h5),l6))
def qcj (g1:Drossref37_Graph):Option (Hypergraph×Bool) :=
 (qas (qbq g1) ([],0)).bind (fun h2 =>
 (qas (qa7 g1 h2) ([],[],[],[],0)).bind (fun (t3,h4,l5) =>
 (qd2 l5).bind fun (r6:List (List Int)) =>
 some ((Hypergraph.mk h4.Vertices r6),(decide ((g1.Edges.length:Int)≤12)))))
def qey:Option Bool:=some true
def qbv (x1:Int):Option (Bool) :=
 some (x1 != x1)
def qdk (x1:Int) (y2:Int):Option (Int) :=
 (qbv x1).bind fun (r3:Bool) =>
 (qbv y2).bind fun (r4:Bool) =>
 if r3=true then
 if r4=true then
 some 0
 else
 some (-1)
 else
 if r4=true then
 some 1
 else
 if x1 < y2 then
 some (-1)
 else
 if x1 > y2 then
 some 1
 else
 some 0
def qam (s1:List Int) (s2:List Int):Int→Option (LS (Int) ((Unit) ⊕ (Int))):=fun t3 =>
 if t3 < (s1.length:Int) then
 (idx s1 t3).bind fun (x4:Int) =>
 if t3≥(s2.length:Int) then
 some (.done (.inr 1))
 else
 (idx s2 t3).bind fun (x5:Int) =>
 (qdk x4 x5).bind fun (r6:Int) =>
 if (r6 != 0)=true then
 some (.done (.inr r6))
 else
 some (.next (vip.wrap (t3+1)))
 else
 some (.done (.inl ()))
def qb5 (s1:List Int) (s2:List Int):Option (Int) :=
 (qas (qam s1 s2) 0).bind (fun o=>match o with
 | .inl () =>
 if (s1.length:Int) < (s2.length:Int) then
 some (-1)
 else
 some 0
 | .inr r3 =>
 some r3)
def qa8 (l1:List Int):Int→Option (LS (Int) ((Unit) ⊕ (Bool))):=fun i2 =>
 if i2 < (l1.length:Int) then
 (idx l1 i2).bind fun (x3:Int) =>
 (idx l1 (vip.wrap (i2 - 1))).bind fun (x4:Int) =>
 if x3≤x4 then
 some (.done (.inr false))
 else
 some (.next (vip.wrap (i2+1)))
 else
 some (.done (.inl ()))
def qbw (l1:List Int):Option (Bool) :=
 (qas (qa8 l1) 1).bind (fun o=>match o with
 | .inl () =>
 some true
 | .inr r2 =>
 some r2)
def qes (x1:Int) (y2:Int):Option (Bool) :=
 (qbv x1).bind fun (r3:Bool) =>
 if r3=true then
 (qbv y2).bind fun (r4:Bool) =>
 if r4=true then
 some (decide (x1 < y2))
 else
 some true
 else
 some (decide (x1 < y2))
def qcl (x1:Int):Option (Bool) :=
 some (x1 != x1)
def qah (x1:List Int) (t2:Int):(Int×Int)→Option (LS (Int×Int) (Int)):=fun (i3,j4) =>
 if i3 < j4 then
 (idx x1 (vip.wrap (vi2 (vi4.wrap (vip.wrap (i3+j4))) (2 ^ (min 1 64))))).bind fun (x5:Int) =>
 (qes x5 t2).bind fun (r6:Bool) =>
 if r6=true then
 some (.next ((vip.wrap ((vip.wrap (vi2 (vi4.wrap (vip.wrap (i3+j4))) (2 ^ (min 1 64))))+1)),j4))
 else
 some (.next (i3,(vip.wrap (vi2 (vi4.wrap (vip.wrap (i3+j4))) (2 ^ (min 1 64))))))
 else
 some (.done i3)
def qad (x1:List Int) (t2:Int):Option (Int×Bool) :=
 (qas (qah x1 t2) (0,(x1.length:Int))).bind (fun i3 =>
 if i3 < (x1.length:Int) then
 (idx x1 i3).bind fun (x4:Int) =>
 if (x4 == t2)=true then
 some (i3,true)
 else
 (qcl x4).bind fun (r5:Bool) =>
 if r5=true then
 (qcl t2).bind fun (r6:Bool) =>
 some (i3,r6)
 else
 some (i3,false)
 else
 some (i3,false))
def qb6 (l1:List Int) (p2:List Int):Int→Option (LS (Int) ((Unit) ⊕ (Bool))):=fun t3 =>
 if t3 < (p2.length:Int) then
 (idx p2 t3).bind fun (x4:Int) =>
 (qad l1 x4).bind fun (r5:Int×Bool) =>
 if r5.2=true then
 some (.next (vip.wrap (t3+1)))
 else
 some (.done (.inr false))
 else
 some (.done (.inl ()))
def qbr (l1:List Int) (p2:List Int):Option (Bool) :=
 (qas (qb6 l1 p2) 0).bind (fun o=>match o with
 | .inl () =>
 some true
 | .inr r3 =>
 some r3)
def qdl (h1:Hypergraph):Int→Option (LS (Int) ((Unit) ⊕ (Bool))):=fun t2 =>
 if t2 < (h1.Edges.length:Int) then
 (idx h1.Edges t2).bind fun (x3:List Int) =>
 if ((x3.length:Int) == 0)=true then
 some (.done (.inr false))
 else
 (qbw x3).bind fun (r4:Bool) =>
 if r4=true then
 (qbr h1.Vertices x3).bind fun (r5:Bool) =>
 if r5=true then
 if t2 > 0 then
 (idx h1.Edges (vip.wrap (t2 - 1))).bind fun (x6:List Int) =>
 (qb5 x6 x3).bind fun (r7:Int) =>
 if r7≥0 then
 some (.done (.inr false))
 else
 some (.next (vip.wrap (t2+1)))
 else
 some (.next (vip.wrap (t2+1)))
 else
 some (.done (.inr false))
 else
 some (.done (.inr false))
 else
 some (.done (.inl ()))
def qdm (h1:Hypergraph) (t2:Int) (x3:List Int):Int→Option (LS (Int) ((Unit) ⊕ (Bool))):=fun t4 =>
 if t4 < (h1.Edges.length:Int) then
 (idx h1.Edges t4).bind fun (x5:List Int) =>
 if (t2 != t4)=true then
 (qbr x3 x5).bind fun (r6:Bool) =>
 if r6=true then
 some (.done (.inr false))
 else
 some (.next (vip.wrap (t4+1)))
 else
 some (.next (vip.wrap (t4+1)))
 else
 some (.done (.inl ()))
def qdn (h1:Hypergraph):Int→Option (LS (Int) ((Unit) ⊕ (Bool))):=fun t2 =>
 if t2 < (h1.Edges.length:Int) then
 (idx h1.Edges t2).bind fun (x3:List Int) =>
 (qas (qdm h1 t2 x3) 0).bind (fun o=>match o with
 | .inl () =>
 some (.next (vip.wrap (t2+1)))
 | .inr r4 =>
 some (.done (.inr r4)))
 else
 some (.done (.inl ()))
def qet (h1:Hypergraph):Option (Bool) :=
 (qbw h1.Vertices).bind fun (r2:Bool) =>
 if r2=true then
 if (h1.Edges.length:Int) > 20000 then
 some false
 else
 (qas (qdl h1) 0).bind (fun o=>match o with
 | .inl () =>
 (qas (qdn h1) 0).bind (fun o=>match o with
 | .inl () =>
 some true
 | .inr r3 =>
 some r3)
 | .inr r4 =>
 some r4)
 else
 some false
def qbx (h1:Hypergraph):Option (Int) :=
 (qet h1).bind fun (r2:Bool) =>
 if r2=true then
 if (h1.Vertices.length:Int) > 40 then
 some 3
 else
 some 0
 else
 some 1
def qbs (s1:List Int) (v2:Int):Int→Option (LS (Int) ((Unit) ⊕ (Int))):=fun t3 =>
 if t3 < (s1.length:Int) then
 (idx s1 t3).bind fun (x4:Int) =>
 if (v2 == x4)=true then
 some (.done (.inr t3))
 else
 some (.next (vip.wrap (t3+1)))
 else
 some (.done (.inl ()))
def qa5 (s1:List Int) (v2:Int):Option (Int) :=
 (qas (qbs s1 v2) 0).bind (fun o=>match o with
 | .inl () =>
 some (-1)
 | .inr r3 =>
 some r3)
def qay (s1:List Int) (f2:Int→Option (Bool)):Int→Option (LS (Int) ((Unit) ⊕ (Int))):=fun t3 =>
 if t3 < (s1.length:Int) then
 (idx s1 t3).bind fun (x4:Int) =>
 (f2 x4).bind fun (r5:Bool) =>
 if r5=true then
 some (.done (.inr t3))
 else
 some (.next (vip.wrap (t3+1)))
 else
 some (.done (.inl ()))
def qby (s1:List Int) (f2:Int→Option (Bool)):Option (Int) :=
 (qas (qay s1 f2) 0).bind (fun o=>match o with
 | .inl () =>
 some (-1)
 | .inr r3 =>
 some r3)
def qae (s1:List Int) (f2:Int→Option (Bool)):Option (Bool) :=
 (qby s1 f2).bind fun (r3:Int) =>
 some (decide (r3≥0))
def qaf (e1:Int) (c2:Int) (c3:Int) (c4:Int):Option (Bool) :=
 if c2 < 0 then none else
 if ((vi4.wrap ((BitVec.ofInt 64 (vi2 e1 (2 ^ (min (c2).toNat 64))) &&& (1#64)).toNat:Int)) == 1)=true then
 some ((vi4.wrap ((BitVec.ofInt 64 (vi4.wrap ((BitVec.ofInt 64 e1 &&& ~~~ (BitVec.ofInt 64 (vi4.wrap (1 * 2 ^ (min (c2).toNat 64))))).toNat:Int)) &&& ~~~ (BitVec.ofInt 64 (vi4.wrap ((BitVec.ofInt 64 c3 ||| (BitVec.ofInt 64 c4)).toNat:Int)))).toNat:Int)) == 0)
 else
 some false
def qak (e1:Int) (c2:Int):Option (Bool) :=
 some ((vi4.wrap ((BitVec.ofInt 64 e1 &&& ~~~ (BitVec.ofInt 64 c2)).toNat:Int)) == 0)
def qcu (h1:Hypergraph) (x2:List Int):(Int×Int)→Option (LS (Int×Int) (Int)):=fun (b3,t4) =>
 if t4 < (x2.length:Int) then
 (idx x2 t4).bind fun (x5:Int) =>
 (qa5 h1.Vertices x5).bind fun (r6:Int) =>
 if r6 < 0 then none else
 some (.next ((vi4.wrap ((BitVec.ofInt 64 b3 ||| (BitVec.ofInt 64 (vi4.wrap (1 * 2 ^ (min (r6).toNat 64))))).toNat:Int)),(vip.wrap (t4+1))))
 else
 some (.done b3)
def qce (h1:Hypergraph):(List Int×Int)→Option (LS (List Int×Int) (List Int)):=fun (w2,t3) =>
 if t3 < (h1.Edges.length:Int) then
 (idx h1.Edges t3).bind fun (x4:List Int) =>
 (qas (qcu h1 x4) (0,0)).bind (fun b5 =>
 if qfa (w2.length+1) 8=true then
 some (.next ((w2++[b5]),(vip.wrap (t3+1))))
 else none)
 else
 some (.done w2)
def qbt (h1:Hypergraph) (w2:List Int) (v3:Int) (i4:Int) (o5:Int):Int→Option (LS (Int) ((Unit) ⊕ (Unit))):=fun t6 =>
 if t6 < v3 then
 if t6 < 0 then none else
 if ((vi4.wrap ((BitVec.ofInt 64 (vi2 o5 (2 ^ (min (t6).toNat 64))) &&& (1#64)).toNat:Int)) == 1)=true then
 (qae w2 (fun (y7:Int)=>qaf y7 t6 i4 (vi4.wrap ((BitVec.ofInt 64 (vi4.wrap (18446744073709551615 * 2 ^ (min (v3).toNat 64))) &&& (BitVec.ofInt 64 (vi4.wrap ((vi4.wrap (1 * 2 ^ (min h1.Vertices.length 64))) - 1)))).toNat:Int)))).bind fun (r8:Bool) =>
 if r8=true then
 some (.next (vip.wrap (t6+1)))
 else
 some (.done (.inr ()))
 else
 some (.next (vip.wrap (t6+1)))
 else
 some (.done (.inl ()))
def qbe (h1:Hypergraph) (m2:Int) (w3:List Int) (r4:(List Int×Int×Int×Int)→Option (Bool×List Int)):(List Int×Int×Int×Int)→Option (Bool×List Int):=fun (i5,v6,i7,o8) =>
 if v6 < 0 then none else
 if (h1.Vertices.length:Int) < 0 then none else
 (qas (qbt h1 w3 v6 i7 o8) 0).bind (fun o=>match o with
 | .inl () =>
 if (v6 == (h1.Vertices.length:Int))=true then
 if qfa (i5.length+1) 8=true then
 some ((decide ((((i5.length+1):Nat):Int)≤m2)),(i5++[i7]))
 else none
 else
 (qae w3 (fun (y9:Int)=>qak y9 (vi4.wrap ((BitVec.ofInt 64 i7 ||| (BitVec.ofInt 64 (vi4.wrap (1 * 2 ^ (min (v6).toNat 64))))).toNat:Int)))).bind fun (r10:Bool) =>
 if r10=true then
 (r4 (i5,(vip.wrap (v6+1)),i7,(vi4.wrap ((BitVec.ofInt 64 o8 ||| (BitVec.ofInt 64 (vi4.wrap (1 * 2 ^ (min (v6).toNat 64))))).toNat:Int)))).bind (fun (o:Bool×List Int)=>match o with
 | (t11,i12) =>
 some (t11,i12))
 else
 (r4 (i5,(vip.wrap (v6+1)),(vi4.wrap ((BitVec.ofInt 64 i7 ||| (BitVec.ofInt 64 (vi4.wrap (1 * 2 ^ (min (v6).toNat 64))))).toNat:Int)),o8)).bind (fun (o:Bool×List Int)=>match o with
 | (t13,i14) =>
 if t13=true then
 (r4 (i14,(vip.wrap (v6+1)),i7,(vi4.wrap ((BitVec.ofInt 64 o8 ||| (BitVec.ofInt 64 (vi4.wrap (1 * 2 ^ (min (v6).toNat 64))))).toNat:Int)))).bind (fun (o:Bool×List Int)=>match o with
 | (t15,i16) =>
 some (t15,i16))
 else
 some (false,i14))
 | .inr () =>
 some (true,i5))
def qcr (h1:Hypergraph) (m2:Int):Option (List Int×Bool) :=
 (qas (qce h1) ([],0)).bind (fun w3 =>
 (q7k (qbe h1 m2 w3) 64 ([],0,0,0)).bind (fun (o:Bool×List Int)=>match o with
 | (t4,i5) =>
 some (i5,t4)))
def qd3 (h1:Hypergraph) (s2:Int):(List Int×Int)→Option (LS (List Int×Int) (List Int)):=fun (o3,t4) =>
 if t4 < (h1.Vertices.length:Int) then
 (idx h1.Vertices t4).bind fun (x5:Int) =>
 if t4 < 0 then none else
 if ((vi4.wrap ((BitVec.ofInt 64 (vi2 s2 (2 ^ (min (t4).toNat 64))) &&& (1#64)).toNat:Int)) == 1)=true then
 if qfa (o3.length+1) 8=true then
 some (.next ((o3++[x5]),(vip.wrap (t4+1))))
 else none
 else
 some (.next (o3,(vip.wrap (t4+1))))
 else
 some (.done o3)
def qen (h1:Hypergraph) (s2:Int):Option (List Int) :=
 (qas (qd3 h1 s2) ([],0)).bind (fun o3 =>
 some o3)
def qd4 (h1:Hypergraph) (r2:List Int×Bool):(List (List Int)×Int)→Option (LS (List (List Int)×Int) (List (List Int))):=fun (o3,t4) =>
 if t4 < (r2.1.length:Int) then
 (idx r2.1 t4).bind fun (x5:Int) =>
 (qen h1 x5).bind fun (r6:List Int) =>
 if qfa (o3.length+1) 24=true then
 some (.next ((o3++[r6]),(vip.wrap (t4+1))))
 else none
 else
 some (.done o3)
def qfe (h1:Hypergraph) (m2:Int):Option (List (List Int)×Int) :=
 (qbx h1).bind fun (r3:Int) =>
 if (r3 != 0)=true then
 some ([],r3)
 else
 (qcr h1 m2).bind fun (r4:List Int×Bool) =>
 if r4.2=true then
 (qas (qd4 h1 r4) ([],0)).bind (fun o5 =>
 some (o5,0))
 else
 some ([],3)
def qc7 (l:List Int):Option (List Int):=if qfa l.length 8=true then some l else none
def qbu (c1:List Int):Int→Option (LS (Int) (Int)):=fun i2 =>
 (idx c1 i2).bind fun (x3:Int) =>
 if (x3 != i2)=true then
 some (.next x3)
 else
 some (.done i2)
def qaw (i1:Int) (c2:List Int):Option (Int) :=
 (qas (qbu c2) i1).bind (fun i3 =>
 some i3)
def qa9 (v1:Int) (c2:Hypergraph):Option (Int) :=
 (qad c2.Vertices v1).bind fun (r3:Int×Bool) =>
 some r3.1
def qbj (h1:Hypergraph):(List Int×Int)→Option (LS (List Int×Int) (List Int)):=fun (p2,t3) =>
 if t3 < ((h1.Vertices.length:Nat):Int) then
 (idx p2 t3).bind fun (x4:Int) =>
 some (.next ((p2.set t3.toNat t3),(vip.wrap (t3+1))))
 else
 some (.done p2)
def qbk (h1:Hypergraph) (x2:List Int):(List Int×Int)→Option (LS (List Int×Int) (List Int)):=fun (p3,t4) =>
 if t4 < (((x2.drop 1).take (x2.length - 1)).length:Int) then
 (idx ((x2.drop 1).take (x2.length - 1)) t4).bind fun (x5:Int) =>
 (x2[0]?).bind fun (x6:Int) =>
 (qa9 x6 h1).bind fun (r7:Int) =>
 (qaw r7 p3).bind fun (r8:Int) =>
 (qa9 x5 h1).bind fun (r9:Int) =>
 (qaw r9 p3).bind fun (r10:Int) =>
 (idx p3 (if r10 > r8 then r10 else r8)).bind fun (x11:Int) =>
 some (.next ((p3.set (if r10 > r8 then r10 else r8).toNat (if r10 < r8 then r10 else r8)),(vip.wrap (t4+1))))
 else
 some (.done p3)
def qbl (h1:Hypergraph):(List Int×Int)→Option (LS (List Int×Int) (List Int)):=fun (p2,t3) =>
 if t3 < (h1.Edges.length:Int) then
 (idx h1.Edges t3).bind fun (x4:List Int) =>
 if (1:Int)≤(x4.length:Int) then
 (qas (qbk h1 x4) (p2,0)).bind (fun p5 =>
 some (.next (p5,(vip.wrap (t3+1)))))
 else none
 else
 some (.done p2)
def qa4 (h1:Hypergraph) (p2:List Int):(List (List Int)×(List (Int×Int))×Int)→Option (LS (List (List Int)×(List (Int×Int))×Int) (List (List Int)×(List (Int×Int)))):=fun (o3,i4,t5) =>
 if t5 < (h1.Vertices.length:Int) then
 (idx h1.Vertices t5).bind fun (x6:Int) =>
 (qaw t5 p2).bind fun (r7:Int) =>
 if (qk2 i4 r7).isSome=true then
 (idx o3 ((qk2 i4 r7).getD 0)).bind fun (x8:List Int) =>
 if qfa (x8.length+1) 8=true then
 some (.next ((o3.set (((qk2 i4 r7).getD 0).toNat) (x8++[x6])),i4,(vip.wrap (t5+1))))
 else none
 else
 if qfa (o3.length+1) 48=true then
 (idx (o3++[([]:List Int)]) ((qk2 (qp0 i4 r7 ((o3.length:Nat):Int)) r7).getD 0)).bind fun (x9:List Int) =>
 if qfa (x9.length+1) 8=true then
 some (.next (((o3++[([]:List Int)]).set (((qk2 (qp0 i4 r7 ((o3.length:Nat):Int)) r7).getD 0).toNat) (x9++[x6])),(qp0 i4 r7 ((o3.length:Nat):Int)),(vip.wrap (t5+1))))
 else none
 else none
 else
 some (.done (o3,i4))
def qbm (h1:Hypergraph) (p2:List Int) (i3:List (Int×Int)):(List (List (List Int))×Int)→Option (LS (List (List (List Int))×Int) (List (List (List Int)))):=fun (o4,t5) =>
 if t5 < (h1.Edges.length:Int) then
 (idx h1.Edges t5).bind fun (x6:List Int) =>
 (x6[0]?).bind fun (x7:Int) =>
 (qa9 x7 h1).bind fun (r8:Int) =>
 (qaw r8 p2).bind fun (r9:Int) =>
 (idx o4 ((qk2 i3 r9).getD 0)).bind fun (x10:List (List Int)) =>
 (qc7 x6).bind fun (r11:List Int) =>
 if qfa (x10.length+1) 24=true then
 some (.next ((o4.set (((qk2 i3 r9).getD 0).toNat) (x10++[r11])),(vip.wrap (t5+1))))
 else none
 else
 some (.done o4)
def qba (h1:Hypergraph):Option (List Hypergraph) :=
 if 0≤(h1.Vertices.length:Int) then
 if qfa h1.Vertices.length 8=true then
 (qas (qbj h1) ((List.replicate h1.Vertices.length 0),0)).bind (fun p2 =>
 (qas (qbl h1) (p2,0)).bind (fun p3 =>
 (qas (qa4 h1 p3) ([],[],0)).bind (fun (o4,i5) =>
 (some ((List.replicate o4.length ([]:List (List Int))):List (List (List Int)))).bind fun (l6:List (List (List Int))) =>
 (qas (qbm h1 p3 i5) (l6,0)).bind (fun o7 =>
 if o4.length=o7.length then
 some (List.zipWith Hypergraph.mk o4 o7)
 else none))))
 else none
 else none
def qcm (r1:List Hypergraph):(List (List Int)×Int×Int)→Option (LS (List (List Int)×Int×Int) ((List (List Int)×Int) ⊕ (List Hypergraph×List (List Int)×Int×Int))):=fun (l2,t3,t4) =>
 if t4 < (r1.length:Int) then
 (idx r1 t4).bind fun (x5:Hypergraph) =>
 (qcr x5 100000).bind fun (r6:List Int×Bool) =>
 if r6.2=true then
 if qfa (l2.length+1) 24=true then
 if (vip.wrap (t3 * (r6.1.length:Int))) > 1000000000000000 then
 some (.done (.inr ([],[],0,3)))
 else
 some (.next ((l2++[r6.1]),(vip.wrap (t3 * (r6.1.length:Int))),(vip.wrap (t4+1))))
 else none
 else
 some (.done (.inr ([],[],0,3)))
 else
 some (.done (.inl (l2,t3)))
def qff (h1:Hypergraph):Option (List Hypergraph×List (List Int)×Int×Int) :=
 (qba h1).bind fun (r2:List Hypergraph) =>
 (qas (qcm r2) ([],1,0)).bind (fun o=>match o with
 | .inl (l3,t4) =>
 some (r2,l3,t4,0)
 | .inr r5 =>
 some r5)
def qej (h1:Hypergraph):Option (Int×Int) :=
 (qbx h1).bind fun (r2:Int) =>
 if (r2 != 0)=true then
 some (0,r2)
 else
 (qff h1).bind fun (r3:List Hypergraph×List (List Int)×Int×Int) =>
 some (r3.2.2.1,r3.2.2.2)
def qax (s1:List Int) (v2:Int):Option (Bool) :=
 (qa5 s1 v2).bind fun (r3:Int) =>
 some (decide (r3≥0))
def qbz (e1:List Int) (c2:Int):Option (Bool) :=
 (qax e1 c2).bind fun (r3:Bool) =>
 some r3
def qaz (s1:List (List Int)) (f2:(List Int)→Option (Bool)):Int→Option (LS (Int) ((Unit) ⊕ (Int))):=fun t3 =>
 if t3 < (s1.length:Int) then
 (idx s1 t3).bind fun (x4:List Int) =>
 (f2 x4).bind fun (r5:Bool) =>
 if r5=true then
 some (.done (.inr t3))
 else
 some (.next (vip.wrap (t3+1)))
 else
 some (.done (.inl ()))
def qb0 (s1:List (List Int)) (f2:(List Int)→Option (Bool)):Option (Int) :=
 (qas (qaz s1 f2) 0).bind (fun o=>match o with
 | .inl () =>
 some (-1)
 | .inr r3 =>
 some r3)
def qac (s1:List (List Int)) (f2:(List Int)→Option (Bool)):Option (Bool) :=
 (qb0 s1 f2).bind fun (r3:Int) =>
 some (decide (r3≥0))
def qa6 (e1:List Int) (c2:Int):Option (Bool) :=
 if ((e1.length:Int) == 1)=true then
 (e1[0]?).bind fun (x3:Int) =>
 some (x3 == c2)
 else
 some false
def qcx (h1:Hypergraph):(List Int×List Int×Int)→Option (LS (List Int×List Int×Int) (List Int×List Int)):=fun (a2,s3,t4) =>
 if t4 < (h1.Vertices.length:Int) then
 (idx h1.Vertices t4).bind fun (x5:Int) =>
 (qac h1.Edges (fun (y6:List Int)=>qbz y6 x5)).bind fun (r7:Bool) =>
 if r7=true then
 (qac h1.Edges (fun (y8:List Int)=>qa6 y8 x5)).bind fun (r9:Bool) =>
 if r9=true then
 some (.next (a2,s3,(vip.wrap (t4+1))))
 else
 if qfa (s3.length+1) 8=true then
 some (.next (a2,(s3++[x5]),(vip.wrap (t4+1))))
 else none
 else
 if qfa (a2.length+1) 8=true then
 (qac h1.Edges (fun (y10:List Int)=>qa6 y10 x5)).bind fun (r11:Bool) =>
 if r11=true then
 some (.next ((a2++[x5]),s3,(vip.wrap (t4+1))))
 else
 if qfa (s3.length+1) 8=true then
 some (.next ((a2++[x5]),(s3++[x5]),(vip.wrap (t4+1))))
 else none
 else none
 else
 some (.done (a2,s3))
def qd5 (h1:Hypergraph):Option (List Int×List Int×Int) :=
 (qbx h1).bind fun (r2:Int) =>
 if (r2 != 0)=true then
 some ([],[],r2)
 else
 (qas (qcx h1) ([],[],0)).bind (fun (a3,s4) =>
 some (a3,s4,0))
def qan (s1:List Hypergraph) (f2:Hypergraph→Option (Bool)):Int→Option (LS (Int) ((Unit) ⊕ (Int))):=fun t3 =>
 if t3 < (s1.length:Int) then
 (idx s1 t3).bind fun (x4:Hypergraph) =>
 (f2 x4).bind fun (r5:Bool) =>
 if r5=true then
 some (.done (.inr t3))
 else
 some (.next (vip.wrap (t3+1)))
 else
 some (.done (.inl ()))
def qau (s1:List Hypergraph) (f2:Hypergraph→Option (Bool)):Option (Int) :=
 (qas (qan s1 f2) 0).bind (fun o=>match o with
 | .inl () =>
 some (-1)
 | .inr r3 =>
 some r3)
def qda (c1:Hypergraph) (c2:Int):Option (Bool) :=
 (qax c1.Vertices c2).bind fun (r3:Bool) =>
 some r3
def qdo (r1:List Hypergraph):(List (List Int)×Int×Int)→Option (LS (List (List Int)×Int×Int) ((List (List Int)×Int) ⊕ (Unit))):=fun (l2,t3,t4) =>
 if t4 < (r1.length:Int) then
 (idx r1 t4).bind fun (x5:Hypergraph) =>
 (qcr x5 100000).bind fun (r6:List Int×Bool) =>
 if r6.2=true then
 if qfa (l2.length+1) 24=true then
 if (vip.wrap (t3 * (r6.1.length:Int))) > 1000000000000000 then
 some (.done (.inr ()))
 else
 some (.next ((l2++[r6.1]),(vip.wrap (t3 * (r6.1.length:Int))),(vip.wrap (t4+1))))
 else none
 else
 some (.done (.inr ()))
 else
 some (.done (.inl (l2,t3)))
def qdp (r1:Int) (x2:List Int):(List Int×List Int×Int)→Option (LS (List Int×List Int×Int) (List Int×List Int)):=fun (w3,w4,t5) =>
 if t5 < (x2.length:Int) then
 (idx x2 t5).bind fun (x6:Int) =>
 if r1 < 0 then none else
 if ((vi4.wrap ((BitVec.ofInt 64 (vi2 x6 (2 ^ (min (r1).toNat 64))) &&& (1#64)).toNat:Int)) == 1)=true then
 if qfa (w3.length+1) 8=true then
 some (.next ((w3++[x6]),w4,(vip.wrap (t5+1))))
 else none
 else
 if qfa (w4.length+1) 8=true then
 some (.next (w3,(w4++[x6]),(vip.wrap (t5+1))))
 else none
 else
 some (.done (w3,w4))
def qdq (h1:Hypergraph) (c2:List Hypergraph):(Int×List (List Int)×Int×List Int×Int)→Option (LS (Int×List (List Int)×Int×List Int×Int) (List Int)):=fun (i3,l4,t5,o6,t7) =>
 if t7 < (h1.Vertices.length:Int) then
 (idx h1.Vertices t7).bind fun (x8:Int) =>
 (qau c2 (fun (y9:Hypergraph)=>qda y9 x8)).bind fun (r10:Int) =>
 (idx c2 r10).bind fun (x11:Hypergraph) =>
 (qa5 x11.Vertices x8).bind fun (r12:Int) =>
 (idx l4 r10).bind fun (x13:List Int) =>
 (qas (qdp r12 x13) ([],[],0)).bind (fun (w14,w15) =>
 if (x13.length:Int)=0 then none else
 if i3 < (vip.wrap ((vip.wrap (vi3 t5 (x13.length:Int))) * ((w14.length:Nat):Int))) then
 if qfa (o6.length+1) 8=true then
 some (.next (i3,(l4.set r10.toNat w14),(vip.wrap ((vip.wrap (vi3 t5 (x13.length:Int))) * ((w14.length:Nat):Int))),(o6++[x8]),(vip.wrap (t7+1))))
 else none
 else
 some (.next ((vip.wrap (i3 - (vip.wrap ((vip.wrap (vi3 t5 (x13.length:Int))) * ((w14.length:Nat):Int))))),(l4.set r10.toNat w15),(vip.wrap ((vip.wrap (vi3 t5 (x13.length:Int))) * ((w15.length:Nat):Int))),o6,(vip.wrap (t7+1)))))
 else
 some (.done o6)
def qfx (h1:Hypergraph) (i2:Int):Option (List Int×Int) :=
 (qbx h1).bind fun (r3:Int) =>
 if (r3 != 0)=true then
 some ([],r3)
 else
 (show Option (List Hypergraph×List (List Int)×Int×Int) from
 (qba h1).bind fun (r4:List Hypergraph) =>
 (qas (qdo r4) ([],1,0)).bind (fun o=>match o with
 | .inl (l5,t6) =>
 some (r4,l5,t6,0)
 | .inr () =>
 some ([],[],0,3))).bind (fun (c7,l8,t9,e10) =>
 if (e10 != 0)=true then
 some ([],e10)
 else
 if i2 < 0 then
 some ([],7)
 else
 if i2≥t9 then
 some ([],7)
 else
 (qas (qdq h1 c7) (i2,l8,t9,[],0)).bind (fun o11 =>
 some (o11,0)))
def qdr (h1:Hypergraph) (l2:List Int):Int→Option (LS (Int) ((Unit) ⊕ (List Int×Bool×Int))):=fun t3 =>
 if t3 < (l2.length:Int) then
 (idx l2 t3).bind fun (x4:Int) =>
 if t3 > 0 then
 (idx l2 (vip.wrap (t3 - 1))).bind fun (x5:Int) =>
 if x4≤x5 then
 some (.done (.inr ([],false,1)))
 else
 (qax h1.Vertices x4).bind fun (r6:Bool) =>
 if r6=true then
 some (.next (vip.wrap (t3+1)))
 else
 some (.done (.inr ([],false,1)))
 else
 (qax h1.Vertices x4).bind fun (r7:Bool) =>
 if r7=true then
 some (.next (vip.wrap (t3+1)))
 else
 some (.done (.inr ([],false,1)))
 else
 some (.done (.inl ()))
def qhm (h1:Hypergraph) (x2:List Int):(Int×Int)→Option (LS (Int×Int) (Int)):=fun (b3,t4) =>
 if t4 < (x2.length:Int) then
 (idx x2 t4).bind fun (x5:Int) =>
 (qa5 h1.Vertices x5).bind fun (r6:Int) =>
 if r6 < 0 then none else
 some (.next ((vi4.wrap ((BitVec.ofInt 64 b3 ||| (BitVec.ofInt 64 (vi4.wrap (1 * 2 ^ (min (r6).toNat 64))))).toNat:Int)),(vip.wrap (t4+1))))
 else
 some (.done b3)
def qfg (h1:Hypergraph):(List Int×Int)→Option (LS (List Int×Int) (List Int)):=fun (w2,t3) =>
 if t3 < (h1.Edges.length:Int) then
 (idx h1.Edges t3).bind fun (x4:List Int) =>
 (qas (qhm h1 x4) (0,0)).bind (fun b5 =>
 if qfa (w2.length+1) 8=true then
 some (.next ((w2++[b5]),(vip.wrap (t3+1))))
 else none)
 else
 some (.done w2)
def qfh (h1:Hypergraph) (w2:List Int) (v3:Int) (i4:Int) (o5:Int):Int→Option (LS (Int) ((Unit) ⊕ (Unit))):=fun t6 =>
 if t6 < v3 then
 if t6 < 0 then none else
 if ((vi4.wrap ((BitVec.ofInt 64 (vi2 o5 (2 ^ (min (t6).toNat 64))) &&& (1#64)).toNat:Int)) == 1)=true then
 (qae w2 (fun (y7:Int)=>qaf y7 t6 i4 (vi4.wrap ((BitVec.ofInt 64 (vi4.wrap (18446744073709551615 * 2 ^ (min (v3).toNat 64))) &&& (BitVec.ofInt 64 (vi4.wrap ((vi4.wrap (1 * 2 ^ (min h1.Vertices.length 64))) - 1)))).toNat:Int)))).bind fun (r8:Bool) =>
 if r8=true then
 some (.next (vip.wrap (t6+1)))
 else
 some (.done (.inr ()))
 else
 some (.next (vip.wrap (t6+1)))
 else
 some (.done (.inl ()))
def qbf (h1:Hypergraph) (l2:List Int) (w3:List Int) (r4:(List Int×Bool×Int×Int×Int)→Option (Bool×List Int×Bool)):(List Int×Bool×Int×Int×Int)→Option (Bool×List Int×Bool):=fun (u5,m6,v7,i8,o9) =>
 if v7 < 0 then none else
 if (h1.Vertices.length:Int) < 0 then none else
 (qas (qfh h1 w3 v7 i8 o9) 0).bind (fun o=>match o with
 | .inl () =>
 if (v7 == (h1.Vertices.length:Int))=true then
 (qen h1 i8).bind fun (r10:List Int) =>
 (qb5 r10 l2).bind fun (r11:Int) =>
 if r11 > 0 then
 some (false,r10,true)
 else
 some ((!m6),u5,m6)
 else
 (qae w3 (fun (y12:Int)=>qak y12 (vi4.wrap ((BitVec.ofInt 64 i8 ||| (BitVec.ofInt 64 (vi4.wrap (1 * 2 ^ (min (v7).toNat 64))))).toNat:Int)))).bind fun (r13:Bool) =>
 if r13=true then
 (r4 (u5,m6,(vip.wrap (v7+1)),i8,(vi4.wrap ((BitVec.ofInt 64 o9 ||| (BitVec.ofInt 64 (vi4.wrap (1 * 2 ^ (min (v7).toNat 64))))).toNat:Int)))).bind (fun (o:Bool×List Int×Bool)=>match o with
 | (t14,u15,m16) =>
 some (t14,u15,m16))
 else
 (r4 (u5,m6,(vip.wrap (v7+1)),(vi4.wrap ((BitVec.ofInt 64 i8 ||| (BitVec.ofInt 64 (vi4.wrap (1 * 2 ^ (min (v7).toNat 64))))).toNat:Int)),o9)).bind (fun (o:Bool×List Int×Bool)=>match o with
 | (t17,u18,m19) =>
 if t17=true then
 (r4 (u18,m19,(vip.wrap (v7+1)),i8,(vi4.wrap ((BitVec.ofInt 64 o9 ||| (BitVec.ofInt 64 (vi4.wrap (1 * 2 ^ (min (v7).toNat 64))))).toNat:Int)))).bind (fun (o:Bool×List Int×Bool)=>match o with
 | (t20,u21,m22) =>
 some (t20,u21,m22))
 else
 some (false,u18,m19))
 | .inr () =>
 some (true,u5,m6))
def qeu (h1:Hypergraph) (l2:List Int):Option (List Int×Bool×Int) :=
 (qbx h1).bind fun (r3:Int) =>
 if (r3 != 0)=true then
 some ([],false,r3)
 else
 (qas (qdr h1 l2) 0).bind (fun o=>match o with
 | .inl () =>
 (qas (qfg h1) ([],0)).bind (fun w4 =>
 (q7k (qbf h1 l2 w4) 64 ([],false,0,0,0)).bind (fun (o:Bool×List Int×Bool)=>match o with
 | (t5,u6,m7) =>
 some (u6,m7,0)))
 | .inr r8 =>
 some r8)
def qds (a1:List Int) (b2:List Int):Int→Option (LS (Int) ((Unit) ⊕ (Bool))):=fun i3 =>
 if i3 < (a1.length:Int) then
 (idx a1 i3).bind fun (x4:Int) =>
 (idx b2 i3).bind fun (x5:Int) =>
 if (x4 != x5)=true then
 some (.done (.inr false))
 else
 some (.next (vip.wrap (i3+1)))
 else
 some (.done (.inl ()))
def qd8 (a1:List Int) (b2:List Int):Option (Bool) :=
 if ((a1.length:Int) != (b2.length:Int))=true then
 some false
 else
 (qas (qds a1 b2) 0).bind (fun o=>match o with
 | .inl () =>
 some true
 | .inr r3 =>
 some r3)
def qbn (m1:List Int) (c2:List Int):Option (Bool) :=
 (qbr c2 m1).bind fun (r3:Bool) =>
 some r3
def qb7 (h1:Hypergraph) (l2:List Int):Option (Bool) :=
 (qbw l2).bind fun (r3:Bool) =>
 if r3=true then
 (qbr h1.Vertices l2).bind fun (r4:Bool) =>
 if r4=true then
 (qac h1.Edges (fun (y5:List Int)=>qbn y5 l2)).bind fun (r6:Bool) =>
 some (!r6)
 else
 some false
 else
 some false
def qcy (h1:Hypergraph) (l2:List Int):Int→Option (LS (Int) ((Unit) ⊕ (Bool))):=fun t3 =>
 if t3 < (h1.Vertices.length:Int) then
 (idx h1.Vertices t3).bind fun (x4:Int) =>
 (qad l2 x4).bind fun (r5:Int×Bool) =>
 if r5.2=true then
 some (.next (vip.wrap (t3+1)))
 else
 if l2.length≤1000000000 then
 if (0:Int)≤r5.1 then
 if r5.1≤((l2.length:Nat):Int) then
 (qb7 h1 (qit l2 r5.1.toNat x4)).bind fun (r6:Bool) =>
 if r6=true then
 some (.done (.inr false))
 else
 some (.next (vip.wrap (t3+1)))
 else none
 else none
 else none
 else
 some (.done (.inl ()))
def qc3 (h1:Hypergraph) (l2:List Int):Option (Bool) :=
 (qb7 h1 l2).bind fun (r3:Bool) =>
 if r3=true then
 (qas (qcy h1 l2) 0).bind (fun o=>match o with
 | .inl () =>
 some true
 | .inr r4 =>
 some r4)
 else
 some false
def qb1 (r1:Hypergraph×Bool) (r2:List (List Int)×Int) (r3:List Int×List Int×Int):Int→Option (LS (Int) ((Unit) ⊕ (Bool))):=fun t4 =>
 if t4 < (r2.1.length:Int) then
 (idx r2.1 t4).bind fun (x5:List Int) =>
 (qfx r1.1 t4).bind fun (r6:List Int×Int) =>
 (qeu r1.1 x5).bind fun (r7:List Int×Bool×Int) =>
 if (r6.2 != 0)=true then
 some (.done (.inr false))
 else
 if (r7.2.2 != 0)=true then
 some (.done (.inr false))
 else
 (qd8 x5 r6.1).bind fun (r8:Bool) =>
 if r8=true then
 if (r7.2.1 == (decide ((vip.wrap (t4+1)) < (r2.1.length:Int))))=true then
 if r7.2.1=true then
 (idx r2.1 (vip.wrap (t4+1))).bind fun (x9:List Int) =>
 (qd8 r7.1 x9).bind fun (r10:Bool) =>
 if r10=true then
 (qc3 r1.1 x5).bind fun (r11:Bool) =>
 if r11=true then
 (qbd r3.1 x5).bind fun (r12:Bool) =>
 if r12=true then
 (qbd x5 r3.2.1).bind fun (r13:Bool) =>
 if r13=true then
 some (.next (vip.wrap (t4+1)))
 else
 some (.done (.inr false))
 else
 some (.done (.inr false))
 else
 some (.done (.inr false))
 else
 some (.done (.inr false))
 else
 (qc3 r1.1 x5).bind fun (r14:Bool) =>
 if r14=true then
 (qbd r3.1 x5).bind fun (r15:Bool) =>
 if r15=true then
 (qbd x5 r3.2.1).bind fun (r16:Bool) =>
 if r16=true then
 some (.next (vip.wrap (t4+1)))
 else
 some (.done (.inr false))
 else
 some (.done (.inr false))
 else
 some (.done (.inr false))
 else
 some (.done (.inr false))
 else
 some (.done (.inr false))
 else
 some (.done (.inl ()))
def qbg (r1:List (List Int)×Int) (x2:Int):(Int×Int)→Option (LS (Int×Int) (Int)):=fun (c3,t4) =>
 if t4 < (r1.1.length:Int) then
 (idx r1.1 t4).bind fun (x5:List Int) =>
 (qc9 x5 x2).bind fun (r6:Bool) =>
 if r6=true then
 some (.next ((vip.wrap (c3+1)),(vip.wrap (t4+1))))
 else
 some (.next (c3,(vip.wrap (t4+1))))
 else
 some (.done c3)
def qb2 (r1:List (List Int)×Int) (r2:List Int×List Int×Int):Int→Option (LS (Int) ((Unit) ⊕ (Bool))):=fun t3 =>
 if t3 < (r2.2.1.length:Int) then
 (idx r2.2.1 t3).bind fun (x4:Int) =>
 (qas (qbg r1 x4) (0,0)).bind (fun c5 =>
 if (c5 == 0)=true then
 some (.done (.inr false))
 else
 (qc9 r2.1 x4).bind fun (r6:Bool) =>
 if ((c5 == (r1.1.length:Int)) == r6)=true then
 some (.next (vip.wrap (t3+1)))
 else
 some (.done (.inr false)))
 else
 some (.done (.inl ()))
def qde (g1:Drossref37_Graph):Option (Bool) :=
 (qcj g1).bind fun (r2:Hypergraph×Bool) =>
 (show Option (Bool) from
 (qey ).bind fun (r3:Bool) =>
 if r3=true then
 some (!r2.2)
 else
 some true).bind (fun t4 =>
 if t4=true then
 (qey ).bind fun (r5:Bool) =>
 some r5
 else
 (qfe r2.1 1000).bind fun (r6:List (List Int)×Int) =>
 (qej r2.1).bind fun (r7:Int×Int) =>
 (qd5 r2.1).bind fun (r8:List Int×List Int×Int) =>
 if (r6.2 != 0)=true then
 some false
 else
 if (r7.2 != 0)=true then
 some false
 else
 if (r8.2.2 != 0)=true then
 some false
 else
 if (r7.1 != (r6.1.length:Int))=true then
 some false
 else
 if r7.1 < 1 then
 some false
 else
 (qas (qb1 r2 r6 r8) 0).bind (fun o=>match o with
 | .inl () =>
 (qas (qb2 r6 r8) 0).bind (fun o=>match o with
 | .inl () =>
 some true
 | .inr r9 =>
 some r9)
 | .inr r10 =>
 some r10))
def qj0 (x:Int):Option Int:=if 0≤x∧x < 4294967296 then some (tz32 x.toNat) else none
def qek (a1:List UInt8) (b2:List UInt8):Option (Int) :=
 some (Lib.compareBytes a1 b2)
def qje (a1:List UInt8) (b2:List UInt8):Option (Int) :=
 (qek a1 b2).bind fun (r3:Int) =>
 some r3
end Go.Proofs.YtgklegblfboelaaGreatDoor
namespace Go.Ab
open Go
def qud {α β τ:Type} (f:β→α→β ⊕ τ) (fin:β→τ):List α→β→τ
 | [],b=>fin b
 | x :: r,b=>match f b x with
  | .inl b'=>qud f fin r b'
  | .inr t=>t
theorem qwn {α β σ τ:Type} (l:List α) (S:β→Int→σ) (B:σ→Option (LS σ τ)) (f:β→α→β ⊕ τ) (fin:β→τ) (I:Nat→β→Prop)
  (hs:∀(k:Nat) b x,l[k]?=some x→I k b→(∀b',f b x=.inl b'→B (S b k)=some (.next (S b' (k+1:Nat)))∧I (k+1) b')∧(∀t,f b x=.inr t→B (S b k)=some (.done t)))
  (he:∀b,I l.length b→B (S b l.length)=some (.done (fin b))) :
  ∀(r:List α) (k:Nat) (b:β),l.drop k=r→k≤l.length→I k b→qas B (S b k)=some (qud f fin r b):=by
 intro r
 induction r with
 | nil =>
  intro k b hd hk hI;have:k=l.length:=by
   have:=congrArg List.length hd;simp at this;omega
  subst this;exact qbp (he b hI)
 | cons x r ih =>
  intro k b hd hk hI;have hx:l[k]?=some x:=by
   have:=congrArg (·[0]?) hd;simpa [ve2] using this
  have hlt:k < l.length:=(List.getElem?_eq_some_iff.1 hx).1;have hd':l.drop (k+1)=r:=by
   rw [←List.drop_drop,hd];rfl
  obtain ⟨h1,h2⟩:=hs k b x hx hI;cases hf:f b x with
  | inl b' =>
   obtain ⟨h3,h4⟩:=h1 b' hf;rw [qd1 h3,ih (k+1) b' hd' hlt h4];simp [qud,hf]
  | inr t =>
   rw [qbp (h2 t hf)];simp [qud,hf]
theorem qqy {α β σ τ:Type} (l:List α) (S:β→Int→σ) (B:σ→Option (LS σ τ)) (f:β→α→β ⊕ τ) (fin:β→τ) (I:Nat→β→Prop) {b0:β} {s0:σ} (h0:s0=S b0 0) (hI:I 0 b0)
  (hs:∀(k:Nat) b x,l[k]?=some x→k < l.length→I k b→(∀b',f b x=.inl b'→B (S b k)=some (.next (S b' (k+1:Nat)))∧I (k+1) b')∧(∀t,f b x=.inr t→B (S b k)=some (.done t)))
  (he:∀b,I l.length b→B (S b l.length)=some (.done (fin b))):qas B s0=some (qud f fin l b0):=by
 subst h0;exact qwn l S B f fin I (fun k b x hx=>hs k b x hx (qap hx)) he l 0 b0 rfl (Nat.zero_le _) hI
theorem qfy {k n:Nat} (h:k < n) (hn:n≤4611686018427387904):vip.wrap ((k:Int)+1)=((k+1:Nat):Int):=by
 rw [wrap_i64 (by omega) (by omega)];omega
theorem qno {k:Nat} (h:k < 4611686018427387904):vip.wrap ((k:Int)+1)=((k+1:Nat):Int):=by
 rw [wrap_i64 (by omega) (by omega)];omega
theorem wqn (k:Nat) (h:k < 4611686018427387904:=by omega):vip.wrap ((k:Int)+1)=((k+1:Nat):Int):=qno h
theorem qjf {n b:Nat} (h:n≤1073741824) (hb:b≤65536):qfa n b=true:=by
 unfold qfa;have:n * b≤1073741824 * 65536:=Nat.mul_le_mul h hb;simp only [decide_eq_true_eq];omega
theorem qab {α:Type} {l:List α} {k:Nat} {x:α} (h:l[k]?=some x):idx l (k:Int)=some x:=by rw [q84,h]
theorem qao {α:Type} {l:List α} {k:Nat} {x:α} (h:l[k]?=some x):((k:Int) < (l.length:Int)):=by have:=qap h;omega
theorem que {α β τ:Type} (g:β→α→β) (fin:β→τ):∀(l:List α) (b:β),qud (fun b x=>(Sum.inl (g b x):β ⊕ τ)) fin l b=fin (l.foldl g b)
 | [],_=>rfl
 | x :: r,b=>by simp only [qud,List.foldl_cons];exact que g fin r _
theorem qd6 {α ρ:Type} (l:List α) (B:Int→Option (LS Int (Unit ⊕ ρ))) (p:α→Bool) (bad:ρ)
  (h1:∀(k:Nat) x,l[k]?=some x→k < l.length→p x=true→B k=some (.next (k+1:Nat))) (h2:∀(k:Nat) x,l[k]?=some x→p x=false→B k=some (.done (.inr bad))) (h3:B l.length=some (.done (.inl ()))) :
  qas B 0=some (if l.all p then .inl () else .inr bad):=by
 have h:=qqy l (fun (_:Unit) i=>i) B (fun (_:Unit) x=>if p x then Sum.inl () else Sum.inr (Sum.inr bad)) (fun _=>Sum.inl ()) (fun _ _=>True) (b0:=()) (s0:=0) rfl trivial
  (fun k b x hx hk _=>by
   constructor
   ·intro b' hf;refine ⟨?_,trivial⟩;rcases vi1 (p x) with hp | hp
    ·exact h1 k x hx hk hp
    ·simp [hp] at hf
   ·intro t hf;rcases vi1 (p x) with hp | hp
    ·simp [hp] at hf
    ·simp [hp] at hf;subst hf;exact h2 k x hx hp)
  (fun b _=>h3)
 rw [h];congr 1;clear h h1 h2 h3
 induction l with
 | nil=>rfl
 | cons x r ih=>rcases vi1 (p x) with hp | hp <;> simp [qud,hp,ih]
theorem qju {α:Type} (l:List α) (B:Int→Option (LS Int (Unit ⊕ Int))) (p:α→Bool)
  (h1:∀(k:Nat) x,l[k]?=some x→k < l.length→p x=false→B k=some (.next (k+1:Nat))) (h2:∀(k:Nat) x,l[k]?=some x→p x=true→B k=some (.done (.inr k))) (h3:B l.length=some (.done (.inl ()))) :
  qas B 0=some (match l.findIdx? p with | some i=>.inr (i:Int) | none=>.inl ()):=by
 have key:∀(r:List α) (k:Nat),l.drop k=r→k≤l.length→qas B (k:Int)=some (match r.findIdx? p with | some i=>.inr ((k+i:Nat):Int) | none=>.inl ()):=by
  intro r
  induction r with
  | nil =>
   intro k hd hk;have:k=l.length:=by
    have:=congrArg List.length hd;simp at this;omega
   subst this;exact qbp h3
  | cons x r ih =>
   intro k hd hk;have hx:l[k]?=some x:=by
    have:=congrArg (·[0]?) hd;simpa [ve2] using this
   have hd':l.drop (k+1)=r:=by rw [←List.drop_drop,hd];rfl
   rcases vi1 (p x) with hp | hp
   ·rw [qbp (h2 k x hx hp)];simp [vi5,hp]
   ·rw [qd1 (h1 k x hx (qap hx) hp),ih (k+1) hd' (qap hx)];simp only [vi5,hp];cases r.findIdx? p with
    | none=>rfl
    | some i=>simp;omega
 have:=key l 0 (by simp) (Nat.zero_le _);simpa using this
theorem qks {α β σ τ:Type} (l:List α) (S:β→Int→σ) (B:σ→Option (LS σ τ)) (g:β→α→β) (fin:β→τ) (I:Nat→β→Prop) {b0:β} {s0:σ} (h0:s0=S b0 0) (hI:I 0 b0)
  (hs:∀(k:Nat) b x,l[k]?=some x→k < l.length→I k b→B (S b k)=some (.next (S (g b x) (k+1:Nat)))∧I (k+1) (g b x))
  (he:∀b,I l.length b→B (S b l.length)=some (.done (fin b))):qas B s0=some (fin (l.foldl g b0)):=by
 rw [qqy l S B (fun b x=>Sum.inl (g b x)) fin I h0 hI (fun k b x hx hk hi=>⟨fun b' hb=>by cases hb;exact hs k b x hx hk hi,fun t ht=>by cases ht⟩) he,que]
def okI (k:IntKind) (n:Int):Prop:=(Lit.int k n).wf=true
def okL {α:Type} (ok:α→Prop) (l:List α):Prop:=l.length≤1048576∧∀x∈l,ok x
theorem qls {n:Nat} (h:n≤17592186044416):qfa n 8=true:=by
 unfold qfa;simp only [decide_eq_true_eq];omega
end Go.Ab
namespace Go.Proofs.YtgklegblfboelaaGreatDoor
open Go Go.Ab
def qed (x:Drossref37_Graph):Prop:=(okI .u8) x.N∧(okL (okI .u8)) x.Edges
end Go.Proofs.YtgklegblfboelaaGreatDoor

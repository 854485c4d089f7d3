/- -/
import Derived.Test.YtpealiejioeonaaGreatDoorA2
import Derived.Test.YtpealiejioeonaaGreatDoorA3
set_option linter.unusedVariables false
set_option linter.unusedSimpArgs false
open Bool renaming eq_false_or_eq_true→v2g
open Int renaming fdiv→vz6,tmod→v2h
open Go.IntKind renaming i32→v2i,i64→vz8,u16→v0a,u32→v0b,u64→v2j
open List renaming drop_drop→v2k,findIdx?_cons→v2l,getElem?_drop→vx3,length→v2m,replicate→vyw
noncomputable section
namespace Go.Proofs.YtpealiejioeonaaGreatDoor
open Go Go.Ab
structure Value where
 Kind:Int
 Num:Int
 Str:List UInt8
 deriving DecidableEq
structure Drossref03_Recipe where
 Attrs:Int
 Gap:Int
 Rows:List (List Int)
 deriving DecidableEq
structure Row where
 ID:Int
 Values:List Value
 deriving DecidableEq
structure Table where
 Name:List UInt8
 Attrs:List (List UInt8)
 Rows:List Row
 deriving DecidableEq
structure FD where
 Lhs:Int
 Rhs:Int
 deriving DecidableEq
structure Term where
 Var:Int
 Attr:Int
 Value:Value
 deriving DecidableEq
structure Atom where
 Left:Term
 Op:Int
 Right:Term
 deriving DecidableEq
structure Denial where
 Vars:Int
 Atoms:List Atom
 deriving DecidableEq
structure Cell where
 Any:Bool
 Value:Value
 deriving DecidableEq
structure CFD where
 Lhs:List Int
 Rhs:Int
 Pattern:List Cell
 deriving DecidableEq
structure OD where
 Lhs:List Int
 Rhs:List Int
 deriving DecidableEq
structure IND where
 From:List UInt8
 Lhs:List Int
 To:List UInt8
 Rhs:List Int
 deriving DecidableEq
structure Constraint where
 Name:List UInt8
 Table:List UInt8
 Kind:Int
 FD:FD
 MVD:YtpealiejioeonaaGreatDoor.FD
 IND:IND
 CFD:CFD
 OD:OD
 Denial:Denial
 deriving DecidableEq
structure Arr3_int64 where
 x0:Int
 x1:Int
 x2:Int
 deriving DecidableEq
structure Hypergraph where
 Vertices:List Int
 Edges:List (List Int)
 deriving DecidableEq
structure Drossref09_Dep where
 L:Int
 R:Int
 deriving DecidableEq
structure Arr2_int where
 x0:Int
 x1:Int
 deriving DecidableEq
structure Graph_tarjan where
 next:List (List Int)
 index:List Int
 low:List Int
 on:List Bool
 stack:List Int
 count:Int
 out:List (List Int)
 deriving DecidableEq
structure Arr2_int64 where
 x0:Int
 x1:Int
 deriving DecidableEq
structure Priority_game where
 h:Hypergraph
 free:Int
 near:List Int
 above:List Int
 deriving DecidableEq
def qd1 (code_1:Int):Option (Value) :=
 if ((v2h code_1 12) == 0)=true then
 some (Value.mk 1 0 [])
 else
 if ((v2h code_1 12) == 1)=true then
 some (Value.mk 1 1 [])
 else
 if ((v2h code_1 12) == 2)=true then
 some (Value.mk 1 2 [])
 else
 if ((v2h code_1 12) == 3)=true then
 some (Value.mk 0 0 [])
 else
 if ((v2h code_1 12) == 4)=true then
 some (Value.mk 2 0 [97])
 else
 if ((v2h code_1 12) == 5)=true then
 some (Value.mk 2 0 [98])
 else
 if ((v2h code_1 12) == 6)=true then
 some (Value.mk 2 0 [])
 else
 if ((v2h code_1 12) == 7)=true then
 some (Value.mk 3 1 [])
 else
 if ((v2h code_1 12) == 8)=true then
 some (Value.mk 1 (-1) [])
 else
 if ((v2h code_1 12) == 9)=true then
 some (Value.mk 2 0 [97,98])
 else
 if ((v2h code_1 12) == 10)=true then
 some (Value.mk 3 2 [])
 else
 some (Value.mk 1 7 [])
def qfz (x_14:Drossref03_Recipe) (n_15:Int) (i_77:Int):(List Value×Int)→Option (LS (List Value×Int) (List Value)):=fun (r1,k2) =>
 if k2 < n_15 then
 (idx x_14.Rows i_77).bind fun (x3:List Int) =>
 if k2 < (x3.length:Int) then
 (idx x3 k2).bind fun (x4:Int) =>
 (qd1 x4).bind fun (r5:Value) =>
 if qcm (r1.length+1) 32=true then
 some (.next ((r1++[r5]),(vz8.wrap (k2+1))))
 else none
 else
 (qd1 0).bind fun (r6:Value) =>
 if qcm (r1.length+1) 32=true then
 some (.next ((r1++[r6]),(vz8.wrap (k2+1))))
 else none
 else
 some (.done r1)
def qf0 (x_14:Drossref03_Recipe) (n_15:Int):(List Row×Int)→Option (LS (List Row×Int) (List Row)):=fun (t_76,i_77) =>
 if i_77 < (x_14.Rows.length:Int) then
 (qaj (qfz x_14 n_15 i_77) ([],0)).bind (fun r1 =>
 if qcm (t_76.length+1) 32=true then
 some (.next ((t_76++[(Row.mk (vz8.wrap (1+(vz8.wrap (i_77 * (vz8.wrap (1+(vz8.wrap (v2h x_14.Gap 3)))))))) r1)]),(vz8.wrap (i_77+1))))
 else none)
 else
 some (.done t_76)
def qh6 (x_14:Drossref03_Recipe) (n_15:Int):Option (Table) :=
 if (0:Int)≤n_15 then
 if n_15≤8 then
 (some ([[97],[98],[99],[100],[101],[102],[103],[104]]:List (List UInt8))).bind fun (l_23:List (List UInt8)) =>
 if qcm ((l_23.take n_15.toNat).length) 16=true then
 (qaj (qf0 x_14 n_15) ([],0)).bind (fun t1 =>
 some (Table.mk [114] (l_23.take n_15.toNat) t1))
 else none
 else none
 else none
def qee (x1:Drossref03_Recipe) (m2:Int):Option (Table×Bool) :=
 if (x1.Rows.length:Int) > m2 then
 some ((Table.mk [] [] []),false)
 else
 (qh6 x1 (vz8.wrap (v2h x1.Attrs 6))).bind fun (r3:Table) =>
 some (r3,true)
def qhe:Option Bool:=some true
def qgl (s1:List UInt8):Int→Option (LS (Int) ((Unit) ⊕ (Bool))):=fun t2 =>
 if t2 < (s1.length:Int) then
 (idx s1 t2).bind fun (c3:UInt8) =>
 (show Option (Bool) from
 if ((c3.toNat:Nat):Int)≥97 then
 if ((c3.toNat:Nat):Int)≤122 then
 some true
 else
 if ((c3.toNat:Nat):Int)≥65 then
 if ((c3.toNat:Nat):Int)≤90 then
 some true
 else
 some (((c3.toNat:Nat):Int) == 95)
 else
 some (((c3.toNat:Nat):Int) == 95)
 else
 if ((c3.toNat:Nat):Int)≥65 then
 if ((c3.toNat:Nat):Int)≤90 then
 some true
 else
 some (((c3.toNat:Nat):Int) == 95)
 else
 some (((c3.toNat:Nat):Int) == 95)).bind (fun l4 =>
 if l4=true then
 some (.next (vz8.wrap (t2+1)))
 else
 if (t2 == 0)=true then
 some (.done (.inr false))
 else
 if ((c3.toNat:Nat):Int) < 48 then
 some (.done (.inr false))
 else
 if ((c3.toNat:Nat):Int) > 57 then
 some (.done (.inr false))
 else
 some (.next (vz8.wrap (t2+1))))
 else
 some (.done (.inl ()))
def qjr (s1:List UInt8):Option (Bool) :=
 if (s1 == [])=true then
 some false
 else
 if (s1.length:Int) > 24 then
 some false
 else
 if (s1 == [110,117,108,108])=true then
 some false
 else
 (qaj (qgl s1) 0).bind (fun o=>match o with
 | .inl () =>
 some true
 | .inr r2 =>
 some r2)
def qcn (s1:List (List UInt8)) (v2:List UInt8):Int→Option (LS (Int) ((Unit) ⊕ (Int))):=fun t3 =>
 if t3 < (s1.length:Int) then
 (idx s1 t3).bind fun (x4:List UInt8) =>
 if (v2 == x4)=true then
 some (.done (.inr t3))
 else
 some (.next (vz8.wrap (t3+1)))
 else
 some (.done (.inl ()))
def qe4 (s1:List (List UInt8)) (v2:List UInt8):Option (Int) :=
 (qaj (qcn s1 v2) 0).bind (fun o=>match o with
 | .inl () =>
 some (-1)
 | .inr r3 =>
 some r3)
def qdq (s1:List (List UInt8)) (v2:List UInt8):Option (Bool) :=
 (qe4 s1 v2).bind fun (r3:Int) =>
 some (decide (r3≥0))
def qb3 (s1:List Value) (f2:Value→Option (Bool)):Int→Option (LS (Int) ((Unit) ⊕ (Int))):=fun t3 =>
 if t3 < (s1.length:Int) then
 (idx s1 t3).bind fun (x4:Value) =>
 (f2 x4).bind fun (r5:Bool) =>
 if r5=true then
 some (.done (.inr t3))
 else
 some (.next (vz8.wrap (t3+1)))
 else
 some (.done (.inl ()))
def qdr (s1:List Value) (f2:Value→Option (Bool)):Option (Int) :=
 (qaj (qb3 s1 f2) 0).bind (fun o=>match o with
 | .inl () =>
 some (-1)
 | .inr r3 =>
 some r3)
def qcr (s1:List Value) (f2:Value→Option (Bool)):Option (Bool) :=
 (qdr s1 f2).bind fun (r3:Int) =>
 some (decide (r3≥0))
def qjh (v1:Value):Option (Bool) :=
 if (v1.Kind == 0)=true then
 if (v1.Num == 0)=true then
 some (v1.Str == [])
 else
 some false
 else
 if (v1.Kind == 1)=true then
 some (v1.Str == [])
 else
 if (v1.Kind == 2)=true then
 if (v1.Num == 0)=true then
 some (decide ((v1.Str.length:Int)≤200))
 else
 some false
 else
 if (v1.Kind == 3)=true then
 if v1.Num≥1 then
 some (v1.Str == [])
 else
 some false
 else
 some false
def qdu (v1:Value):Option (Bool) :=
 (qjh v1).bind fun (r2:Bool) =>
 some (!r2)
def qgm (l1:List Value):Option (Bool) :=
 (qcr l1 (fun (y2:Value)=>qdu y2)).bind fun (r3:Bool) =>
 some (!r3)
def qho (t1:Table):Int→Option (LS (Int) ((Unit) ⊕ (Int))):=fun t2 =>
 if t2 < (t1.Attrs.length:Int) then
 (idx t1.Attrs t2).bind fun (x3:List UInt8) =>
 (qjr x3).bind fun (r4:Bool) =>
 if r4=true then
 if (0:Int)≤t2 then
 if t2≤(t1.Attrs.length:Int) then
 (qdq (t1.Attrs.take (t2.toNat)) x3).bind fun (r5:Bool) =>
 if r5=true then
 some (.done (.inr 1))
 else
 some (.next (vz8.wrap (t2+1)))
 else none
 else none
 else
 some (.done (.inr 1))
 else
 some (.done (.inl ()))
def qix (t1:Table):(Int×Int)→Option (LS (Int×Int) ((Unit) ⊕ (Int))):=fun (l2,t3) =>
 if t3 < (t1.Rows.length:Int) then
 (idx t1.Rows t3).bind fun (x4:Row) =>
 if x4.ID≤l2 then
 some (.done (.inr 1))
 else
 if ((x4.Values.length:Int) != (t1.Attrs.length:Int))=true then
 some (.done (.inr 6))
 else
 (qgm x4.Values).bind fun (r5:Bool) =>
 if r5=true then
 some (.next (x4.ID,(vz8.wrap (t3+1))))
 else
 some (.done (.inr 1))
 else
 some (.done (.inl ()))
def qh7 (t1:Table):Option (Int) :=
 (qjr t1.Name).bind fun (r2:Bool) =>
 if r2=true then
 if (t1.Attrs.length:Int) > 16 then
 some 3
 else
 if (t1.Rows.length:Int) > 1000 then
 some 3
 else
 (qaj (qho t1) 0).bind (fun o=>match o with
 | .inl () =>
 (qaj (qix t1) (0,0)).bind (fun o=>match o with
 | .inl () =>
 some 0
 | .inr r3 =>
 some r3)
 | .inr r4 =>
 some r4)
 else
 some 1
def qfn (n1:Int) (f2:List FD):Int→Option (LS (Int) ((Unit) ⊕ (Int))):=fun t3 =>
 if t3 < (f2.length:Int) then
 (idx f2 t3).bind fun (x4:FD) =>
 if n1 < 0 then none else
 if ((vz6 (v0b.wrap ((BitVec.ofInt 32 x4.Lhs ||| (BitVec.ofInt 32 x4.Rhs)).toNat:Int)) (2 ^ (min (n1).toNat 32))) != 0)=true then
 some (.done (.inr 1))
 else
 some (.next (vz8.wrap (t3+1)))
 else
 some (.done (.inl ()))
def qj4 (n1:Int) (f2:List FD):Option (Int) :=
 if n1 < 0 then
 some 7
 else
 if n1 > 16 then
 some 7
 else
 if (f2.length:Int) > 64 then
 some 3
 else
 (qaj (qfn n1 f2) 0).bind (fun o=>match o with
 | .inl () =>
 some 0
 | .inr r3 =>
 some r3)
def qge (x:Int):Option Int:=if 0≤x∧x < 4294967296 then some (vq1 x.toNat) else none
def qf1:(Int×List Int)→Option (LS (Int×List Int) (List Int)):=fun (s1,o2) =>
 if (s1 != 0)=true then
 (qge s1).bind fun (r3:Int) =>
 if qcm (o2.length+1) 8=true then
 some (.next ((v0b.wrap ((BitVec.ofInt 32 s1 &&& (BitVec.ofInt 32 (v0b.wrap (s1 - 1)))).toNat:Int)),(o2++[r3])))
 else none
 else
 some (.done o2)
def qgn (s1:Int):Option (List Int) :=
 (qaj qf1 (s1,[])).bind (fun o2 =>
 some o2)
def qt4 (v1:Int) (a2:Int):Option (Term) :=
 some (Term.mk v1 a2 (Value.mk 0 0 []))
def qmg (o1:Int) (a2:Int):Option (Atom) :=
 (qt4 1 a2).bind fun (r3:Term) =>
 (qt4 2 a2).bind fun (r4:Term) =>
 some (Atom.mk r3 o1 r4)
def qfo (r1:List Int):(List Atom×Int)→Option (LS (List Atom×Int) (List Atom)):=fun (d2,t3) =>
 if t3 < (r1.length:Int) then
 (idx r1 t3).bind fun (x4:Int) =>
 (qmg 1 x4).bind fun (r5:Atom) =>
 if qcm (d2.length+1) 104=true then
 some (.next ((d2++[r5]),(vz8.wrap (t3+1))))
 else none
 else
 some (.done d2)
def qhf (f1:FD) (r2:List Int):(List Denial×Int)→Option (LS (List Denial×Int) (List Denial)):=fun (o3,t4) =>
 if t4 < (r2.length:Int) then
 (idx r2 t4).bind fun (x5:Int) =>
 (qgn f1.Lhs).bind fun (r6:List Int) =>
 (qaj (qfo r6) ([],0)).bind (fun d7 =>
 (qmg 2 x5).bind fun (r8:Atom) =>
 if qcm (d7.length+1) 104=true then
 if qcm (o3.length+1) 32=true then
 some (.next ((o3++[(Denial.mk 2 (d7++[r8]))]),(vz8.wrap (t4+1))))
 else none
 else none)
 else
 some (.done o3)
def qj5 (n1:Int) (f2:FD):Option (List Denial×Int) :=
 (qj4 n1 [f2]).bind fun (r3:Int) =>
 if (r3 != 0)=true then
 some ([],r3)
 else
 (qgn (v0b.wrap ((BitVec.ofInt 32 f2.Rhs &&& ~~~ (BitVec.ofInt 32 f2.Lhs)).toNat:Int))).bind fun (r4:List Int) =>
 (qaj (qhf f2 r4) ([],0)).bind (fun o5 =>
 some (o5,0))
def qcb (s1:List Atom) (f2:Atom→Option (Bool)):Int→Option (LS (Int) ((Unit) ⊕ (Int))):=fun t3 =>
 if t3 < (s1.length:Int) then
 (idx s1 t3).bind fun (x4:Atom) =>
 (f2 x4).bind fun (r5:Bool) =>
 if r5=true then
 some (.done (.inr t3))
 else
 some (.next (vz8.wrap (t3+1)))
 else
 some (.done (.inl ()))
def qd5 (s1:List Atom) (f2:Atom→Option (Bool)):Option (Int) :=
 (qaj (qcb s1 f2) 0).bind (fun o=>match o with
 | .inl () =>
 some (-1)
 | .inr r3 =>
 some r3)
def qc1 (s1:List Atom) (f2:Atom→Option (Bool)):Option (Bool) :=
 (qd5 s1 f2).bind fun (r3:Int) =>
 some (decide (r3≥0))
def qfp (n1:Int) (v2:Int) (t3:Term):Option (Bool) :=
 if (t3.Var == 0)=true then
 if (t3.Attr == 0)=true then
 (qjh t3.Value).bind fun (r4:Bool) =>
 some r4
 else
 some false
 else
 if t3.Var > 0 then
 if t3.Var≤v2 then
 if t3.Attr≥0 then
 if t3.Attr < n1 then
 some ((t3.Value.Kind == 0) && ((t3.Value.Num == 0) && (t3.Value.Str == [])))
 else
 some false
 else
 some false
 else
 some false
 else
 some false
def qhp (a1:Atom) (c2:Int) (c3:Denial):Option (Bool) :=
 if a1.Op < 1 then
 some true
 else
 if a1.Op > 4 then
 some true
 else
 (qfp c2 c3.Vars a1.Left).bind fun (r4:Bool) =>
 if r4=true then
 (qfp c2 c3.Vars a1.Right).bind fun (r5:Bool) =>
 some (!r5)
 else
 some true
def qjs (n1:Int) (d2:Denial):Option (Bool) :=
 if d2.Vars < 1 then
 some false
 else
 if d2.Vars > 3 then
 some false
 else
 if (d2.Atoms.length:Int) > 20 then
 some false
 else
 (qc1 d2.Atoms (fun (y3:Atom)=>qhp y3 n1 d2)).bind fun (r4:Bool) =>
 some (!r4)
def qjt (s1:List Cell) (f2:Cell→Option (Bool)):Int→Option (LS (Int) ((Unit) ⊕ (Int))):=fun t3 =>
 if t3 < (s1.length:Int) then
 (idx s1 t3).bind fun (x4:Cell) =>
 (f2 x4).bind fun (r5:Bool) =>
 if r5=true then
 some (.done (.inr t3))
 else
 some (.next (vz8.wrap (t3+1)))
 else
 some (.done (.inl ()))
def qh8 (s1:List Cell) (f2:Cell→Option (Bool)):Option (Int) :=
 (qaj (qjt s1 f2) 0).bind (fun o=>match o with
 | .inl () =>
 some (-1)
 | .inr r3 =>
 some r3)
def qgo (s1:List Cell) (f2:Cell→Option (Bool)):Option (Bool) :=
 (qh8 s1 f2).bind fun (r3:Int) =>
 some (decide (r3≥0))
def qg7 (p1:Cell):Option (Bool) :=
 if p1.Any=true then
 if ((p1.Value.Kind == 0) && ((p1.Value.Num == 0) && (p1.Value.Str == [])))=true then
 some false
 else
 some true
 else
 (qjh p1.Value).bind fun (r2:Bool) =>
 some (!r2)
def qlf (n1:Int) (c2:CFD):(Int×Int)→Option (LS (Int×Int) ((Unit) ⊕ (Bool))):=fun (b3,t4) =>
 if t4 < (c2.Lhs.length:Int) then
 (idx c2.Lhs t4).bind fun (x5:Int) =>
 if x5≤b3 then
 some (.done (.inr false))
 else
 if x5≥n1 then
 some (.done (.inr false))
 else
 if (x5 == c2.Rhs)=true then
 some (.done (.inr false))
 else
 some (.next (x5,(vz8.wrap (t4+1))))
 else
 some (.done (.inl ()))
def qij (n1:Int) (c2:CFD):Option (Bool) :=
 if n1 < 0 then
 some false
 else
 if n1 > 16 then
 some false
 else
 if c2.Rhs < 0 then
 some false
 else
 if c2.Rhs≥n1 then
 some false
 else
 if ((c2.Pattern.length:Int) != (vz8.wrap ((c2.Lhs.length:Int)+1)))=true then
 some false
 else
 (qaj (qlf n1 c2) ((-1),0)).bind (fun o=>match o with
 | .inl () =>
 (qgo c2.Pattern (fun (y3:Cell)=>qg7 y3)).bind fun (r4:Bool) =>
 some (!r4)
 | .inr r5 =>
 some r5)
def qj6 (s1:List Int) (f2:Int→Option (Bool)):Int→Option (LS (Int) ((Unit) ⊕ (Int))):=fun t3 =>
 if t3 < (s1.length:Int) then
 (idx s1 t3).bind fun (x4:Int) =>
 (f2 x4).bind fun (r5:Bool) =>
 if r5=true then
 some (.done (.inr t3))
 else
 some (.next (vz8.wrap (t3+1)))
 else
 some (.done (.inl ()))
def qis (s1:List Int) (f2:Int→Option (Bool)):Option (Int) :=
 (qaj (qj6 s1 f2) 0).bind (fun o=>match o with
 | .inl () =>
 some (-1)
 | .inr r3 =>
 some r3)
def qep (s1:List Int) (f2:Int→Option (Bool)):Option (Bool) :=
 (qis s1 f2).bind fun (r3:Int) =>
 some (decide (r3≥0))
def qj7 (a1:Int) (c2:Int):Option (Bool) :=
 if a1 < 0 then
 some true
 else
 some (decide (a1≥c2))
def qlx (n1:Int) (l2:List Int):Option (Bool) :=
 if (l2.length:Int)≤8 then
 (qep l2 (fun (y3:Int)=>qj7 y3 n1)).bind fun (r4:Bool) =>
 some (!r4)
 else
 some false
def qks (n1:Int) (d2:OD):Option (Bool) :=
 (qlx n1 d2.Lhs).bind fun (r3:Bool) =>
 if r3=true then
 (qlx n1 d2.Rhs).bind fun (r4:Bool) =>
 some r4
 else
 some false
def qcx (t1:Table) (c2:Constraint):Option (List Denial×Int) :=
 if (c2.Table == t1.Name)=true then
 if c2.Kind < 1 then
 some ([],1)
 else
 if c2.Kind > 6 then
 some ([],1)
 else
 if (c2.Kind == 2)=true then
 some ([],14)
 else
 if (c2.Kind == 3)=true then
 some ([],14)
 else
 if (c2.Kind == 1)=true then
 if (t1.Attrs.length:Int) < 0 then none else
 if ((vz6 (v0b.wrap ((BitVec.ofInt 32 c2.FD.Lhs ||| (BitVec.ofInt 32 c2.FD.Rhs)).toNat:Int)) (2 ^ (min ((t1.Attrs.length:Int)).toNat 32))) != 0)=true then
 some ([],1)
 else
 (qj5 (t1.Attrs.length:Int) c2.FD).bind fun (r3:List Denial×Int) =>
 some (r3.1,r3.2)
 else
 if (c2.Kind == 6)=true then
 (qjs (t1.Attrs.length:Int) c2.Denial).bind fun (r4:Bool) =>
 if r4=true then
 some ([c2.Denial],0)
 else
 some ([],1)
 else
 if (c2.Kind == 4)=true then
 (qij (t1.Attrs.length:Int) c2.CFD).bind fun (r5:Bool) =>
 if r5=true then
 some ([],0)
 else
 some ([],1)
 else
 if (c2.Kind == 5)=true then
 (qks (t1.Attrs.length:Int) c2.OD).bind fun (r6:Bool) =>
 if r6=true then
 some ([],0)
 else
 some ([],1)
 else
 some ([],0)
 else
 some ([],1)
def qjb (p1:Cell) (v2:Value):Option (Bool) :=
 if p1.Any=true then
 some true
 else
 some ((p1.Value.Kind == v2.Kind) && ((p1.Value.Num == v2.Num) && (p1.Value.Str == v2.Str)))
def qmh (c1:CFD) (l2:List Value):Int→Option (LS (Int) ((Unit) ⊕ (Bool))):=fun t3 =>
 if t3 < (c1.Lhs.length:Int) then
 (idx c1.Lhs t3).bind fun (x4:Int) =>
 (idx c1.Pattern t3).bind fun (x5:Cell) =>
 (idx l2 x4).bind fun (x6:Value) =>
 (qjb x5 x6).bind fun (r7:Bool) =>
 if r7=true then
 some (.next (vz8.wrap (t3+1)))
 else
 some (.done (.inr false))
 else
 some (.done (.inl ()))
def qk8 (c1:CFD) (l2:List Value):Option (Bool) :=
 (qaj (qmh c1 l2) 0).bind (fun o=>match o with
 | .inl () =>
 some true
 | .inr r3 =>
 some r3)
def qkp (c1:CFD):Option (Cell) :=
 (idx c1.Pattern (c1.Lhs.length:Int)).bind fun (x2:Cell) =>
 some x2
def qhv (k1:Int) (c2:List Value) (c3:List Value):Option (Bool) :=
 (idx c2 k1).bind fun (x4:Value) =>
 (idx c3 k1).bind fun (x5:Value) =>
 some (!((x4.Kind == x5.Kind) && ((x4.Num == x5.Num) && (x4.Str == x5.Str))))
def qjc (c1:CFD) (a2:List Value) (b3:List Value):Option (Bool) :=
 (idx a2 c1.Rhs).bind fun (x4:Value) =>
 (idx b3 c1.Rhs).bind fun (x5:Value) =>
 if ((x4.Kind == x5.Kind) && ((x4.Num == x5.Num) && (x4.Str == x5.Str)))=true then
 some false
 else
 (qep c1.Lhs (fun (y6:Int)=>qhv y6 a2 b3)).bind fun (r7:Bool) =>
 some (!r7)
def qiy (t1:Table) (c2:CFD):(List Row×Int)→Option (LS (List Row×Int) (List Row)):=fun (m3,t4) =>
 if t4 < (t1.Rows.length:Int) then
 (idx t1.Rows t4).bind fun (x5:Row) =>
 (qk8 c2 x5.Values).bind fun (r6:Bool) =>
 if r6=true then
 if qcm (m3.length+1) 32=true then
 some (.next ((m3++[x5]),(vz8.wrap (t4+1))))
 else none
 else
 some (.next (m3,(vz8.wrap (t4+1))))
 else
 some (.done m3)
def qiz (c1:CFD) (m2:List Row) (t3:Int) (x4:Row):(List (List Int)×Int)→Option (LS (List (List Int)×Int) (List (List Int))):=fun (b5,t6) =>
 if t6 < (((m2.length - (vz8.wrap (t3+1)).toNat):Nat):Int) then
 (idx ((m2.drop ((vz8.wrap (t3+1)).toNat)).take (m2.length - (vz8.wrap (t3+1)).toNat)) t6).bind fun (x7:Row) =>
 (qjc c1 x4.Values x7.Values).bind fun (r8:Bool) =>
 if r8=true then
 if qcm (b5.length+1) 24=true then
 some (.next ((b5++[[x4.ID,x7.ID]]),(vz8.wrap (t6+1))))
 else none
 else
 some (.next (b5,(vz8.wrap (t6+1))))
 else
 some (.done b5)
def qi0 (c1:CFD) (m2:List Row) (t3:Int) (x4:Row):(List (List Int)×Int)→Option (LS (List (List Int)×Int) (List (List Int))):=fun (b5,t6) =>
 if t6 < (((m2.length - (vz8.wrap (t3+1)).toNat):Nat):Int) then
 (idx ((m2.drop ((vz8.wrap (t3+1)).toNat)).take (m2.length - (vz8.wrap (t3+1)).toNat)) t6).bind fun (x7:Row) =>
 (qjc c1 x4.Values x7.Values).bind fun (r8:Bool) =>
 if r8=true then
 if qcm (b5.length+1) 24=true then
 some (.next ((b5++[[x4.ID,x7.ID]]),(vz8.wrap (t6+1))))
 else none
 else
 some (.next (b5,(vz8.wrap (t6+1))))
 else
 some (.done b5)
def qi1 (c1:CFD) (m2:List Row):(List (List Int)×List (List Int)×Int)→Option (LS (List (List Int)×List (List Int)×Int) (List (List Int)×List (List Int))):=fun (o3,b4,t5) =>
 if t5 < ((m2.length:Nat):Int) then
 (idx m2 t5).bind fun (x6:Row) =>
 (qkp c1).bind fun (r7:Cell) =>
 (idx x6.Values c1.Rhs).bind fun (x8:Value) =>
 (qjb r7 x8).bind fun (r9:Bool) =>
 if r9=true then
 if 0≤(vz8.wrap (t5+1)) then
 if (vz8.wrap (t5+1))≤((m2.length:Nat):Int) then
 (qaj (qiz c1 m2 t5 x6) (b4,0)).bind (fun b10 =>
 some (.next (o3,b10,(vz8.wrap (t5+1)))))
 else none
 else none
 else
 if qcm (o3.length+1) 24=true then
 if 0≤(vz8.wrap (t5+1)) then
 if (vz8.wrap (t5+1))≤((m2.length:Nat):Int) then
 (qaj (qi0 c1 m2 t5 x6) (b4,0)).bind (fun b11 =>
 some (.next ((o3++[[x6.ID]]),b11,(vz8.wrap (t5+1)))))
 else none
 else none
 else none
 else
 some (.done (o3,b4))
def qhs (t1:Table) (c2:CFD):Option (List (List Int)×Int) :=
 (qh7 t1).bind fun (r3:Int) =>
 if (r3 != 0)=true then
 some ([],r3)
 else
 (qij (t1.Attrs.length:Int) c2).bind fun (r4:Bool) =>
 if r4=true then
 (qaj (qiy t1 c2) ([],0)).bind (fun m5 =>
 (qaj (qi1 c2 m5) ([],[],0)).bind (fun (o6,b7) =>
 if qcm (o6.length+b7.length) 24=true then
 some ((o6++b7),0)
 else none))
 else
 some ([],1)
def qnx (t1:Table) (o2:Int→Option (Bool)):Option (Int) :=
 (qh7 t1).bind fun (r3:Int) =>
 if (r3 != 0)=true then
 some r3
 else
 (o2 (t1.Attrs.length:Int)).bind fun (r4:Bool) =>
 if r4=true then
 some 0
 else
 some 1
def qf2 (n1:Int) (c2:OD):Option (Bool) :=
 (qks n1 c2).bind fun (r3:Bool) =>
 some r3
def qc8 (x1:Int):Option (Bool) :=
 some (x1 != x1)
def qes (x1:Int) (y2:Int):Option (Int) :=
 (qc8 x1).bind fun (r3:Bool) =>
 (qc8 y2).bind fun (r4:Bool) =>
 if r3=true then
 if r4=true then
 some 0
 else
 some (-1)
 else
 if r4=true then
 some 1
 else
 if x1 < y2 then
 some (-1)
 else
 if x1 > y2 then
 some 1
 else
 some 0
def qcv (v1:List Int):Int→Option (LS (Int) ((Unit) ⊕ (Int))):=fun t2 =>
 if t2 < (v1.length:Int) then
 (idx v1 t2).bind fun (x3:Int) =>
 if (x3 != 0)=true then
 some (.done (.inr x3))
 else
 some (.next (vz8.wrap (t2+1)))
 else
 some (.done (.inl ()))
def qoj (v1:List Int):Option (Int) :=
 (qaj (qcv v1) 0).bind (fun o=>match o with
 | .inl () =>
 some 0
 | .inr r2 =>
 some r2)
def qg8 (x1:Int):Option (Bool) :=
 some (x1 != x1)
def qgp (x1:Int) (y2:Int):Option (Int) :=
 (qg8 x1).bind fun (r3:Bool) =>
 (qg8 y2).bind fun (r4:Bool) =>
 if r3=true then
 if r4=true then
 some 0
 else
 some (-1)
 else
 if r4=true then
 some 1
 else
 if x1 < y2 then
 some (-1)
 else
 if x1 > y2 then
 some 1
 else
 some 0
def qf3 (a1:List UInt8) (b2:List UInt8):Option (Int) :=
 some (Lib.compareBytes a1 b2)
def qh9 (a1:List UInt8) (b2:List UInt8):Option (Int) :=
 (qf3 a1 b2).bind fun (r3:Int) =>
 some r3
def qik (a1:Value) (b2:Value):Option (Int) :=
 (qgp a1.Kind b2.Kind).bind fun (r3:Int) =>
 (qes a1.Num b2.Num).bind fun (r4:Int) =>
 (qh9 a1.Str b2.Str).bind fun (r5:Int) =>
 (qoj [r3,r4,r5]).bind fun (r6:Int) =>
 some r6
def qmi (a1:Row) (b2:Row) (l3:List Int):Int→Option (LS (Int) ((Unit) ⊕ (Int))):=fun t4 =>
 if t4 < (l3.length:Int) then
 (idx l3 t4).bind fun (x5:Int) =>
 (idx a1.Values x5).bind fun (x6:Value) =>
 (idx b2.Values x5).bind fun (x7:Value) =>
 (qik x6 x7).bind fun (r8:Int) =>
 if (r8 != 0)=true then
 some (.done (.inr r8))
 else
 some (.next (vz8.wrap (t4+1)))
 else
 some (.done (.inl ()))
def qjd (a1:Row) (b2:Row) (l3:List Int):Option (Int) :=
 (qaj (qmi a1 b2 l3) 0).bind (fun o=>match o with
 | .inl () =>
 some 0
 | .inr r4 =>
 some r4)
def qo7 (a1:Row) (b2:Row) (d3:OD):Option (Int) :=
 (qjd a1 b2 d3.Lhs).bind fun (r4:Int) =>
 (qjd a1 b2 d3.Rhs).bind fun (r5:Int) =>
 (show Option (Bool) from
 if (r4 == 0)=true then
 some (r5 != 0)
 else
 some false).bind (fun t6 =>
 if t6=true then
 some 1
 else
 if (vz8.wrap (r4 * r5)) < 0 then
 some 2
 else
 some 0)
def qkh (t1:Table) (d2:OD) (t3:Int) (x4:Row):(List (List Int)×Int)→Option (LS (List (List Int)×Int) (List (List Int))):=fun (o5,t6) =>
 if t6 < (((t1.Rows.drop (vz8.wrap (t3+1)).toNat).take (t1.Rows.length - (vz8.wrap (t3+1)).toNat)).length:Int) then
 (idx ((t1.Rows.drop (vz8.wrap (t3+1)).toNat).take (t1.Rows.length - (vz8.wrap (t3+1)).toNat)) t6).bind fun (x7:Row) =>
 (qo7 x4 x7 d2).bind fun (r8:Int) =>
 if (r8 != 0)=true then
 if qcm (o5.length+1) 24=true then
 some (.next ((o5++[[x4.ID,x7.ID]]),(vz8.wrap (t6+1))))
 else none
 else
 some (.next (o5,(vz8.wrap (t6+1))))
 else
 some (.done o5)
def qki (t1:Table) (d2:OD):(List (List Int)×Int)→Option (LS (List (List Int)×Int) (List (List Int))):=fun (o3,t4) =>
 if t4 < (t1.Rows.length:Int) then
 (idx t1.Rows t4).bind fun (x5:Row) =>
 if 0≤(vz8.wrap (t4+1)) then
 if (vz8.wrap (t4+1))≤(t1.Rows.length:Int) then
 (qaj (qkh t1 d2 t4 x5) (o3,0)).bind (fun o6 =>
 some (.next (o6,(vz8.wrap (t4+1)))))
 else none
 else none
 else
 some (.done o3)
def qji (t1:Table) (d2:OD):Option (List (List Int)×Int) :=
 (qnx t1 (fun (y3:Int)=>qf2 y3 d2)).bind fun (r4:Int) =>
 if (r4 != 0)=true then
 some ([],r4)
 else
 (qaj (qki t1 d2) ([],0)).bind (fun o5 =>
 some (o5,0))
def qvf (x:Int):Option (Int):=if 0≤x∧x < 13 then some (if x=0 then 0 else if x < 2 then 1 else if x < 4 then 2 else if x < 8 then 3 else 4) else none
def qrk (x1:Int):Option (Int) :=
 (qvf x1).bind fun (r2:Int) =>
 some r2
def qba (s1:List Int) (s2:List Int):Int→Option (LS (Int) ((Unit) ⊕ (Int))):=fun t3 =>
 if t3 < (s1.length:Int) then
 (idx s1 t3).bind fun (x4:Int) =>
 if t3≥(s2.length:Int) then
 some (.done (.inr 1))
 else
 (idx s2 t3).bind fun (x5:Int) =>
 (qes x4 x5).bind fun (r6:Int) =>
 if (r6 != 0)=true then
 some (.done (.inr r6))
 else
 some (.next (vz8.wrap (t3+1)))
 else
 some (.done (.inl ()))
def qae (s1:List Int) (s2:List Int):Option (Int) :=
 (qaj (qba s1 s2) 0).bind (fun o=>match o with
 | .inl () =>
 if (s1.length:Int) < (s2.length:Int) then
 some (-1)
 else
 some 0
 | .inr r3 =>
 some r3)
def qi2 (t1:Table) (d2:Denial):Option (Int) :=
 (qh7 t1).bind fun (r3:Int) =>
 if (r3 != 0)=true then
 some r3
 else
 (qjs (t1.Attrs.length:Int) d2).bind fun (r4:Bool) =>
 if r4=true then
 if (d2.Vars == 3)=true then
 if (t1.Rows.length:Int) > 200 then
 some 3
 else
 some 0
 else
 some 0
 else
 some 1
def ql4 (r1:List Row) (t2:Term):Option (Value) :=
 if (t2.Var == 0)=true then
 some t2.Value
 else
 (idx r1 (vz8.wrap (t2.Var - 1))).bind fun (x3:Row) =>
 (idx x3.Values t2.Attr).bind fun (x4:Value) =>
 some x4
def qdv (r1:List Row) (l2:List Atom):Int→Option (LS (Int) ((Unit) ⊕ (Bool))):=fun t3 =>
 if t3 < (l2.length:Int) then
 (idx l2 t3).bind fun (x4:Atom) =>
 (ql4 r1 x4.Left).bind fun (r5:Value) =>
 (ql4 r1 x4.Right).bind fun (r6:Value) =>
 (qik r5 r6).bind fun (r7:Int) =>
 if (x4.Op == 1)=true then
 if (r7 == 0)=true then
 some (.next (vz8.wrap (t3+1)))
 else
 some (.done (.inr false))
 else
 if (x4.Op == 2)=true then
 if (r7 != 0)=true then
 some (.next (vz8.wrap (t3+1)))
 else
 some (.done (.inr false))
 else
 if (x4.Op == 3)=true then
 if r7 < 0 then
 some (.next (vz8.wrap (t3+1)))
 else
 some (.done (.inr false))
 else
 if (x4.Op == 4)=true then
 if r7≤0 then
 some (.next (vz8.wrap (t3+1)))
 else
 some (.done (.inr false))
 else
 some (.done (.inr false))
 else
 some (.done (.inl ()))
def qdo (r1:List Row) (l2:List Atom):Option (Bool) :=
 (qaj (qdv r1 l2) 0).bind (fun o=>match o with
 | .inl () =>
 some true
 | .inr r3 =>
 some r3)
def qch (s1:List Row) (f2:Row→Option (Bool)):Int→Option (LS (Int) ((Unit) ⊕ (Int))):=fun t3 =>
 if t3 < (s1.length:Int) then
 (idx s1 t3).bind fun (x4:Row) =>
 (f2 x4).bind fun (r5:Bool) =>
 if r5=true then
 some (.done (.inr t3))
 else
 some (.next (vz8.wrap (t3+1)))
 else
 some (.done (.inl ()))
def qek (s1:List Row) (f2:Row→Option (Bool)):Option (Int) :=
 (qaj (qch s1 f2) 0).bind (fun o=>match o with
 | .inl () =>
 some (-1)
 | .inr r3 =>
 some r3)
def qbb (s1:List Row) (f2:Row→Option (Bool)):Option (Bool) :=
 (qek s1 f2).bind fun (r3:Int) =>
 some (decide (r3≥0))
def qcs (x1:Row) (c2:Row):Option (Bool) :=
 some (x1.ID == c2.ID)
def qi3 (x1:Int) (y2:Int):Option (Bool) :=
 (qc8 x1).bind fun (r3:Bool) =>
 if r3=true then
 (qc8 y2).bind fun (r4:Bool) =>
 if r4=true then
 some (decide (x1 < y2))
 else
 some true
 else
 some (decide (x1 < y2))
def qlg (l1:List Row):(List Int×Int)→Option (LS (List Int×Int) (List Int)):=fun (l2,t3) =>
 if t3 < (l1.length:Int) then
 (idx l1 t3).bind fun (x4:Row) =>
 if qcm (l2.length+1) 8=true then
 some (.next ((l2++[x4.ID]),(vz8.wrap (t3+1))))
 else none
 else
 some (.done l2)
def qit (l1:List Row):(List Int×Int)→Option (LS (List Int×Int) (List Int)):=fun (l2,t3) =>
 if t3 < (l1.length:Int) then
 (idx l1 t3).bind fun (x4:Row) =>
 if qcm (l2.length+1) 8=true then
 some (.next ((l2++[x4.ID]),(vz8.wrap (t3+1))))
 else none
 else
 some (.done l2)
def qiu (l1:List Row):(List Int×Int)→Option (LS (List Int×Int) (List Int)):=fun (l2,t3) =>
 if t3 < (l1.length:Int) then
 (idx l1 t3).bind fun (x4:Row) =>
 if qcm (l2.length+1) 8=true then
 some (.next ((l2++[x4.ID]),(vz8.wrap (t3+1))))
 else none
 else
 some (.done l2)
def qdi (l1:List Row):(List Int×Int)→Option (LS (List Int×Int) (List Int)):=fun (l2,t3) =>
 if t3 < (l1.length:Int) then
 (idx l1 t3).bind fun (x4:Row) =>
 if qcm (l2.length+1) 8=true then
 some (.next ((l2++[x4.ID]),(vz8.wrap (t3+1))))
 else none
 else
 some (.done l2)
def qlh (t1:Table) (l2:List Row):Int→Option (LS (Int) (Unit)):=fun t3 =>
 if t3 < (t1.Rows.length:Int) then
 (idx t1.Rows t3).bind fun (x4:Row) =>
 (qbb l2 (fun (y5:Row)=>qcs y5 x4)).bind fun (r6:Bool) =>
 if r6=true then
 some (.next (vz8.wrap (t3+1)))
 else
 none
 else
 some (.done ())
def qdj (t1:Table) (d2:Denial) (l3:List Row):((List (Arr3_int64×Bool))×List (List Int)×Int)→Option (LS ((List (Arr3_int64×Bool))×List (List Int)×Int) (((List (Arr3_int64×Bool))×List (List Int)) ⊕ ((List (Arr3_int64×Bool))×List (List Int)))):=fun (f4,f5,t6) =>
 if t6 < (t1.Rows.length:Int) then
 (idx t1.Rows t6).bind fun (x7:Row) =>
 (qbb l3 (fun (y8:Row)=>qcs y8 x7)).bind fun (r9:Bool) =>
 if r9=true then
 some (.next (f4,f5,(vz8.wrap (t6+1))))
 else
 if l3.length≤1000000000 then
 if qcm (l3.length+1) 32=true then
 (some ((l3++[x7]):List Row)).bind fun (l10:List Row) =>
 if ((l10.length:Int) == d2.Vars)=true then
 (qdo l10 d2.Atoms).bind fun (r11:Bool) =>
 if r11=true then
 (qaj (qdi l10) ([],0)).bind (fun l12 =>
 (qu9 l12).bind fun (l13:List Int) =>
 if ((quy f4 (Arr3_int64.mk (l13.getD 0 0) (l13.getD 1 0) (l13.getD 2 0))).getD false)=true then
 if ((f5.length:Nat):Int)≤20000 then
 some (.next (f4,f5,(vz8.wrap (t6+1))))
 else
 some (.done (.inr (f4,f5)))
 else
 if qcm (f5.length+1) 24=true then
 if (((f5.length+1):Nat):Int)≤20000 then
 some (.next ((qzg f4 (Arr3_int64.mk (l13.getD 0 0) (l13.getD 1 0) (l13.getD 2 0)) true),(f5++[l13]),(vz8.wrap (t6+1))))
 else
 some (.done (.inr ((qzg f4 (Arr3_int64.mk (l13.getD 0 0) (l13.getD 1 0) (l13.getD 2 0)) true),(f5++[l13]))))
 else none)
 else
 some (.next (f4,f5,(vz8.wrap (t6+1))))
 else
 (qaj (qlh t1 l10) 0).bind (fun () =>
 some (.next (f4,f5,(vz8.wrap (t6+1)))))
 else none
 else none
 else
 some (.done (.inl (f4,f5)))
def qbv (t1:Table) (d2:Denial) (l3:List Row):((List (Arr3_int64×Bool))×List (List Int)×Int)→Option (LS ((List (Arr3_int64×Bool))×List (List Int)×Int) (((List (Arr3_int64×Bool))×List (List Int)) ⊕ ((List (Arr3_int64×Bool))×List (List Int)))):=fun (f4,f5,t6) =>
 if t6 < (t1.Rows.length:Int) then
 (idx t1.Rows t6).bind fun (x7:Row) =>
 (qbb l3 (fun (y8:Row)=>qcs y8 x7)).bind fun (r9:Bool) =>
 if r9=true then
 some (.next (f4,f5,(vz8.wrap (t6+1))))
 else
 if l3.length≤1000000000 then
 if qcm (l3.length+1) 32=true then
 (some ((l3++[x7]):List Row)).bind fun (l10:List Row) =>
 if ((l10.length:Int) == d2.Vars)=true then
 (qdo l10 d2.Atoms).bind fun (r11:Bool) =>
 if r11=true then
 (qaj (qiu l10) ([],0)).bind (fun l12 =>
 (qu9 l12).bind fun (l13:List Int) =>
 if ((quy f4 (Arr3_int64.mk (l13.getD 0 0) (l13.getD 1 0) (l13.getD 2 0))).getD false)=true then
 if ((f5.length:Nat):Int)≤20000 then
 some (.next (f4,f5,(vz8.wrap (t6+1))))
 else
 some (.done (.inr (f4,f5)))
 else
 if qcm (f5.length+1) 24=true then
 if (((f5.length+1):Nat):Int)≤20000 then
 some (.next ((qzg f4 (Arr3_int64.mk (l13.getD 0 0) (l13.getD 1 0) (l13.getD 2 0)) true),(f5++[l13]),(vz8.wrap (t6+1))))
 else
 some (.done (.inr ((qzg f4 (Arr3_int64.mk (l13.getD 0 0) (l13.getD 1 0) (l13.getD 2 0)) true),(f5++[l13]))))
 else none)
 else
 some (.next (f4,f5,(vz8.wrap (t6+1))))
 else
 (qaj (qdj t1 d2 l10) (f4,f5,0)).bind (fun o=>match o with
 | .inl (f14,b15) =>
 some (.next (f14,b15,(vz8.wrap (t6+1))))
 | .inr (f16,b17) =>
 some (.done (.inr (f16,b17))))
 else none
 else none
 else
 some (.done (.inl (f4,f5)))
def qbw (t1:Table) (d2:Denial) (l3:List Row):((List (Arr3_int64×Bool))×List (List Int)×Int)→Option (LS ((List (Arr3_int64×Bool))×List (List Int)×Int) (((List (Arr3_int64×Bool))×List (List Int)) ⊕ ((List (Arr3_int64×Bool))×List (List Int)))):=fun (f4,f5,t6) =>
 if t6 < (t1.Rows.length:Int) then
 (idx t1.Rows t6).bind fun (x7:Row) =>
 (qbb l3 (fun (y8:Row)=>qcs y8 x7)).bind fun (r9:Bool) =>
 if r9=true then
 some (.next (f4,f5,(vz8.wrap (t6+1))))
 else
 if l3.length≤1000000000 then
 if qcm (l3.length+1) 32=true then
 (some ((l3++[x7]):List Row)).bind fun (l10:List Row) =>
 if ((l10.length:Int) == d2.Vars)=true then
 (qdo l10 d2.Atoms).bind fun (r11:Bool) =>
 if r11=true then
 (qaj (qit l10) ([],0)).bind (fun l12 =>
 (qu9 l12).bind fun (l13:List Int) =>
 if ((quy f4 (Arr3_int64.mk (l13.getD 0 0) (l13.getD 1 0) (l13.getD 2 0))).getD false)=true then
 if ((f5.length:Nat):Int)≤20000 then
 some (.next (f4,f5,(vz8.wrap (t6+1))))
 else
 some (.done (.inr (f4,f5)))
 else
 if qcm (f5.length+1) 24=true then
 if (((f5.length+1):Nat):Int)≤20000 then
 some (.next ((qzg f4 (Arr3_int64.mk (l13.getD 0 0) (l13.getD 1 0) (l13.getD 2 0)) true),(f5++[l13]),(vz8.wrap (t6+1))))
 else
 some (.done (.inr ((qzg f4 (Arr3_int64.mk (l13.getD 0 0) (l13.getD 1 0) (l13.getD 2 0)) true),(f5++[l13]))))
 else none)
 else
 some (.next (f4,f5,(vz8.wrap (t6+1))))
 else
 (qaj (qbv t1 d2 l10) (f4,f5,0)).bind (fun o=>match o with
 | .inl (f14,b15) =>
 some (.next (f14,b15,(vz8.wrap (t6+1))))
 | .inr (f16,b17) =>
 some (.done (.inr (f16,b17))))
 else none
 else none
 else
 some (.done (.inl (f4,f5)))
def qet (t1:Table) (d2:Denial):Option (List (List Int)×Int) :=
 (qi2 t1 d2).bind fun (r3:Int) =>
 if (r3 != 0)=true then
 some ([],r3)
 else
 (show Option (List (List Int)×Bool) from
 (some ([]:List (Arr3_int64×Bool))).bind fun (m4:List (Arr3_int64×Bool)) =>
 (some (([]:List Row):List Row)).bind fun (l5:List Row) =>
 if ((l5.length:Int) == d2.Vars)=true then
 (qdo l5 d2.Atoms).bind fun (r6:Bool) =>
 if r6=true then
 (qaj (qlg l5) ([],0)).bind (fun l7 =>
 (qu9 l7).bind fun (l8:List Int) =>
 if ((quy m4 (Arr3_int64.mk (l8.getD 0 0) (l8.getD 1 0) (l8.getD 2 0))).getD false)=true then
 some ([],true)
 else
 some ([l8],true))
 else
 some ([],true)
 else
 (qaj (qbw t1 d2 l5) (m4,[],0)).bind (fun o=>match o with
 | .inl (f9,b10) =>
 some (b10,true)
 | .inr (f11,b12) =>
 some (b12,false))).bind (fun (o13,a14) =>
 if a14=true then
 (qzi (fun (y15:List Int) (y16:List Int)=>qae y15 y16) o13).bind fun (l17:List (List Int)) =>
 some (l17,0)
 else
 some ([],3))
def qco (t1:Table) (r2:List Denial×Int):(List (List Int)×Int)→Option (LS (List (List Int)×Int) ((List (List Int)) ⊕ (List (List Int)×Int))):=fun (o3,t4) =>
 if t4 < (r2.1.length:Int) then
 (idx r2.1 t4).bind fun (x5:Denial) =>
 (qet t1 x5).bind fun (r6:List (List Int)×Int) =>
 if (r6.2 != 0)=true then
 some (.done (.inr ([],r6.2)))
 else
 if qcm (o3.length+r6.1.length) 24=true then
 some (.next ((o3++r6.1),(vz8.wrap (t4+1))))
 else none
 else
 some (.done (.inl o3))
def qe5 (t1:Table) (c2:Constraint):Option (List (List Int)×Int) :=
 (qcx t1 c2).bind fun (r3:List Denial×Int) =>
 if (r3.2 != 0)=true then
 some ([],r3.2)
 else
 if (c2.Kind == 4)=true then
 (qhs t1 c2.CFD).bind fun (r4:List (List Int)×Int) =>
 some (r4.1,r4.2)
 else
 if (c2.Kind == 5)=true then
 (qji t1 c2.OD).bind fun (r5:List (List Int)×Int) =>
 some (r5.1,r5.2)
 else
 (qaj (qco t1 r3) ([],0)).bind (fun o=>match o with
 | .inl o6 =>
 some (o6,0)
 | .inr r7 =>
 some r7)
def qeq (l1:List Int):Option (Arr3_int64) :=
 some (Arr3_int64.mk (l1.getD 0 0) (l1.getD 1 0) (l1.getD 2 0))
def qbt (s1:List (List Int)):(Int×Int)→Option (LS (Int×Int) (Int)):=fun (s2,t3) =>
 if t3 < (s1.length:Int) then
 (idx s1 t3).bind fun (x4:List Int) =>
 if (vz8.wrap (s2+(x4.length:Int))) < 0 then
 none
 else
 some (.next ((vz8.wrap (s2+(x4.length:Int))),(vz8.wrap (t3+1))))
 else
 some (.done s2)
def qbu (s1:List (List Int)):(List Int×Int)→Option (LS (List Int×Int) (List Int)):=fun (n2,t3) =>
 if t3 < (s1.length:Int) then
 (idx s1 t3).bind fun (x4:List Int) =>
 if qcm (n2.length+x4.length) 8=true then
 some (.next ((n2++x4),(vz8.wrap (t3+1))))
 else none
 else
 some (.done n2)
def qa5 (s1:List (List Int)):Option (List Int) :=
 (qaj (qbt s1) (0,0)).bind (fun s2 =>
 if 0≤s2 then
 if s2≤1000000000000 then
 (qaj (qbu s1) (([]:List Int),0)).bind (fun n3 =>
 some n3)
 else none
 else none)
def qaq (l1:List Int) (c2:List (Arr3_int64×Bool)):Int→Option (LS (Int) ((Unit) ⊕ (Bool))):=fun t3 =>
 if t3 < (l1.length:Int) then
 if (l1.length:Int) > 1 then
 if 0≤t3 then
 if t3≤(vz8.wrap (t3+1)) then
 if (vz8.wrap (t3+1))≤(l1.length:Int) then
 (qeq ((l1.drop t3.toNat).take ((vz8.wrap (t3+1)).toNat - t3.toNat))).bind fun (r4:Arr3_int64) =>
 if ((quy c2 r4).getD false)=true then
 some (.done (.inr true))
 else
 if (l1.length:Int) > 2 then
 if (0:Int)≤t3 then
 if t3≤(l1.length:Int) then
 if 0≤(vz8.wrap (t3+1)) then
 (qa5 [(l1.take (t3.toNat)),((l1.drop (vz8.wrap (t3+1)).toNat).take (l1.length - (vz8.wrap (t3+1)).toNat))]).bind fun (r5:List Int) =>
 (qeq r5).bind fun (r6:Arr3_int64) =>
 if ((quy c2 r6).getD false)=true then
 some (.done (.inr true))
 else
 some (.next (vz8.wrap (t3+1)))
 else none
 else none
 else none
 else
 some (.next (vz8.wrap (t3+1)))
 else none
 else none
 else none
 else
 if (l1.length:Int) > 2 then
 if (0:Int)≤t3 then
 if t3≤(l1.length:Int) then
 if 0≤(vz8.wrap (t3+1)) then
 if (vz8.wrap (t3+1))≤(l1.length:Int) then
 (qa5 [(l1.take (t3.toNat)),((l1.drop (vz8.wrap (t3+1)).toNat).take (l1.length - (vz8.wrap (t3+1)).toNat))]).bind fun (r7:List Int) =>
 (qeq r7).bind fun (r8:Arr3_int64) =>
 if ((quy c2 r8).getD false)=true then
 some (.done (.inr true))
 else
 some (.next (vz8.wrap (t3+1)))
 else none
 else none
 else none
 else none
 else
 some (.next (vz8.wrap (t3+1)))
 else
 some (.done (.inl ()))
def qbz (l1:List Int) (c2:List (Arr3_int64×Bool)):Option (Bool) :=
 (qaj (qaq l1 c2) 0).bind (fun o=>match o with
 | .inl () =>
 some false
 | .inr r3 =>
 some r3)
def qhw (l:List Int):Option (List Int):=if qcm l.length 8=true then some l else none
def qf4 (s1:List Int) (s2:List Int):Int→Option (LS (Int) ((Unit) ⊕ (Bool))):=fun t3 =>
 if t3 < (s1.length:Int) then
 (idx s1 t3).bind fun (x4:Int) =>
 (idx s2 t3).bind fun (x5:Int) =>
 if (x4 != x5)=true then
 some (.done (.inr false))
 else
 some (.next (vz8.wrap (t3+1)))
 else
 some (.done (.inl ()))
def qd9 (s1:List Int) (s2:List Int):Option (Bool) :=
 if ((s1.length:Int) != (s2.length:Int))=true then
 some false
 else
 (qaj (qf4 s1 s2) 0).bind (fun o=>match o with
 | .inl () =>
 some true
 | .inr r3 =>
 some r3)
def qdw (a1:List (List Int)):((List (Arr3_int64×Bool))×Int)→Option (LS ((List (Arr3_int64×Bool))×Int) ((List (Arr3_int64×Bool)))):=fun (s2,t3) =>
 if t3 < (a1.length:Int) then
 (idx a1 t3).bind fun (x4:List Int) =>
 (qeq x4).bind fun (r5:Arr3_int64) =>
 some (.next ((qzg s2 r5 true),(vz8.wrap (t3+1))))
 else
 some (.done s2)
def qe6 (a1:List (List Int)) (s2:List (Arr3_int64×Bool)):(List (List Int)×Int)→Option (LS (List (List Int)×Int) (List (List Int))):=fun (o3,t4) =>
 if t4 < (a1.length:Int) then
 (idx a1 t4).bind fun (x5:List Int) =>
 (qeq x5).bind fun (r6:Arr3_int64) =>
 (show Option (Bool) from
 if ((quy s2 r6).getD false)=true then
 (qbz x5 s2).bind fun (r7:Bool) =>
 some (!r7)
 else
 some false).bind (fun t8 =>
 if t8=true then
 (qhw x5).bind fun (r9:List Int) =>
 if qcm (o3.length+1) 24=true then
 some (.next ((o3++[r9]),(vz8.wrap (t4+1))))
 else none
 else
 some (.next (o3,(vz8.wrap (t4+1)))))
 else
 some (.done o3)
def qcy (l1:List (List Int)) (k2:Int):(List (List Int)×Int×Int)→Option (LS (List (List Int)×Int×Int) (List (List Int)×Int)):=fun (s3,k4,k5) =>
 if k5 < (((l1.length - k2.toNat):Nat):Int) then
 (idx ((s3.drop k2.toNat).take (l1.length - k2.toNat)) k5).bind fun (x6:List Int) =>
 (idx ((s3.drop k2.toNat).take (l1.length - k2.toNat)) (vz8.wrap (k5 - 1))).bind fun (x7:List Int) =>
 (qd9 x6 x7).bind fun (r8:Bool) =>
 if r8=true then
 some (.next (s3,k4,(vz8.wrap (k5+1))))
 else
 (idx s3 k4).bind fun (x9:List Int) =>
 some (.next ((s3.set k4.toNat x6),(vz8.wrap (k4+1)),(vz8.wrap (k5+1))))
 else
 some (.done (s3,k4))
def qdx (l1:List (List Int)):Int→Option (LS (Int) ((Unit) ⊕ (List (List Int)))):=fun k2 =>
 if k2 < ((l1.length:Nat):Int) then
 (idx l1 k2).bind fun (x3:List Int) =>
 (idx l1 (vz8.wrap (k2 - 1))).bind fun (x4:List Int) =>
 (qd9 x3 x4).bind fun (r5:Bool) =>
 if r5=true then
 if 0≤k2 then
 if k2≤((l1.length:Nat):Int) then
 (qaj (qcy l1 k2) (l1,k2,1)).bind (fun (s6,k7) =>
 if 0≤k7 then
 if k7≤((s6.length:Nat):Int) then
 if (0:Int)≤k7 then
 if k7≤((((((s6.take k7.toNat)).length+((vyw (s6.length - k7.toNat) ([]:List Int))).length)+((s6.drop (k7.toNat+(s6.length - k7.toNat)))).length):Nat):Int) then
 (some ((((s6.take k7.toNat)++(vyw (s6.length - k7.toNat) ([]:List Int)))++(s6.drop (k7.toNat+(s6.length - k7.toNat)))):List (List Int))).bind fun (l8:List (List Int)) =>
 if k7.toNat≤l8.length then
 (some (l8.take k7.toNat:List (List Int))).bind fun (l9:List (List Int)) =>
 some (.done (.inr l9))
 else none
 else none
 else none
 else none
 else none)
 else none
 else none
 else
 some (.next (vz8.wrap (k2+1)))
 else
 some (.done (.inl ()))
def qfq (a1:List (List Int)):Option (List (List Int)) :=
 (qaj (qdw a1) ([],0)).bind (fun s2 =>
 (qaj (qe6 a1 s2) ([],0)).bind (fun o3 =>
 (qzi (fun (y4:List Int) (y5:List Int)=>qae y4 y5) o3).bind fun (l6:List (List Int)) =>
 if ((l6.length:Nat):Int) < 2 then
 some l6
 else
 (qaj (qdx l6) 1).bind (fun o=>match o with
 | .inl () =>
 some l6
 | .inr t7 =>
 some t7)))
def qeu (t1:Table) (l2:List Constraint):Int→Option (LS (Int) ((Unit) ⊕ (Hypergraph×Int))):=fun t3 =>
 if t3 < (l2.length:Int) then
 (idx l2 t3).bind fun (x4:Constraint) =>
 (qcx t1 x4).bind fun (r5:List Denial×Int) =>
 if (r5.2 != 0)=true then
 some (.done (.inr ((Hypergraph.mk [] []),r5.2)))
 else
 some (.next (vz8.wrap (t3+1)))
 else
 some (.done (.inl ()))
def qgq (t1:Table) (l2:List Constraint):(List (List Int)×Int)→Option (LS (List (List Int)×Int) ((List (List Int)) ⊕ (Hypergraph×Int))):=fun (a3,t4) =>
 if t4 < (l2.length:Int) then
 (idx l2 t4).bind fun (x5:Constraint) =>
 (qe5 t1 x5).bind fun (r6:List (List Int)×Int) =>
 if (r6.2 != 0)=true then
 some (.done (.inr ((Hypergraph.mk [] []),r6.2)))
 else
 if qcm (a3.length+r6.1.length) 24=true then
 some (.next ((a3++r6.1),(vz8.wrap (t4+1))))
 else none
 else
 some (.done (.inl a3))
def qgr (t1:Table):(List Int×Int)→Option (LS (List Int×Int) (List Int)):=fun (h2,t3) =>
 if t3 < (t1.Rows.length:Int) then
 (idx t1.Rows t3).bind fun (x4:Row) =>
 if qcm (h2.length+1) 8=true then
 some (.next ((h2++[x4.ID]),(vz8.wrap (t3+1))))
 else none
 else
 some (.done h2)
def qi4 (t1:Table) (l2:List Constraint):Option (Hypergraph×Int) :=
 (qh7 t1).bind fun (r3:Int) =>
 if (r3 != 0)=true then
 some ((Hypergraph.mk [] []),r3)
 else
 if (t1.Rows.length:Int) > 200 then
 some ((Hypergraph.mk [] []),3)
 else
 (qaj (qeu t1 l2) 0).bind (fun o=>match o with
 | .inl () =>
 (qaj (qgq t1 l2) ([],0)).bind (fun o=>match o with
 | .inl a4 =>
 (qfq a4).bind fun (r5:List (List Int)) =>
 (qaj (qgr t1) ([],0)).bind (fun h6 =>
 if (r5.length:Int) > 20000 then
 some ((Hypergraph.mk [] []),3)
 else
 some ((Hypergraph.mk h6 r5),0))
 | .inr r7 =>
 some r7)
 | .inr r8 =>
 some r8)
def qgs (l1:List FD):(List Constraint×Int)→Option (LS (List Constraint×Int) (List Constraint)):=fun (o2,t3) =>
 if t3 < (l1.length:Int) then
 (idx l1 t3).bind fun (x4:FD) =>
 if (0:Int)≤(v2i.wrap (vz8.wrap (97+t3))) then
 if (v2i.wrap (vz8.wrap (97+t3))) < 128 then
 if qcm (o2.length+1) 272=true then
 some (.next ((o2++[(Constraint.mk [UInt8.ofNat (v2i.wrap (vz8.wrap (97+t3))).toNat] [114] 1 x4 (FD.mk 0 0) (IND.mk [] [] [] []) (CFD.mk [] 0 []) (OD.mk [] []) (Denial.mk 0 []))]),(vz8.wrap (t3+1))))
 else none
 else none
 else none
 else
 some (.done o2)
def qi5 (l1:List FD):Option (List Constraint) :=
 (qaj (qgs l1) ([],0)).bind (fun o2 =>
 some o2)
def qf5 (n1:Int):(Int×Int)→Option (LS (Int×Int) (Int)):=fun (s2,i3) =>
 if i3 < n1 then
 if i3 < 32 then
 if i3 < 0 then none else
 some (.next ((v0b.wrap ((BitVec.ofInt 32 s2 ||| (BitVec.ofInt 32 (v0b.wrap (1 * 2 ^ (min (i3).toNat 32))))).toNat:Int)),(vz8.wrap (i3+1))))
 else
 some (.done s2)
 else
 some (.done s2)
def qia (n1:Int):Option (Int) :=
 (qaj (qf5 n1) (0,0)).bind (fun s2 =>
 some s2)
def qf6 (l1:List Drossref09_Dep) (r2:Int):(List FD×Int)→Option (LS (List FD×Int) (List FD)):=fun (o3,i4) =>
 if i4 < (l1.length:Int) then
 (idx l1 i4).bind fun (x5:Drossref09_Dep) =>
 if qcm (o3.length+1) 8=true then
 some (.next ((o3++[(FD.mk (v0b.wrap ((BitVec.ofInt 32 (v0b.wrap x5.L) &&& (BitVec.ofInt 32 r2)).toNat:Int)) (v0b.wrap ((BitVec.ofInt 32 (v0b.wrap x5.R) &&& (BitVec.ofInt 32 r2)).toNat:Int)))]),(vz8.wrap (i4+1))))
 else none
 else
 some (.done o3)
def qib (n1:Int) (l2:List Drossref09_Dep):Option (List FD) :=
 (qia n1).bind fun (r3:Int) =>
 (qaj (qf6 l2 r3) ([],0)).bind (fun o4 =>
 some o4)
def qcc (l1:List Int):Int→Option (LS (Int) ((Unit) ⊕ (Bool))):=fun i2 =>
 if i2 < (l1.length:Int) then
 (idx l1 i2).bind fun (x3:Int) =>
 (idx l1 (vz8.wrap (i2 - 1))).bind fun (x4:Int) =>
 if x3≤x4 then
 some (.done (.inr false))
 else
 some (.next (vz8.wrap (i2+1)))
 else
 some (.done (.inl ()))
def qc9 (l1:List Int):Option (Bool) :=
 (qaj (qcc l1) 1).bind (fun o=>match o with
 | .inl () =>
 some true
 | .inr r2 =>
 some r2)
def qea (x1:Int):Option (Bool) :=
 some (x1 != x1)
def qa2 (x1:List Int) (t2:Int):(Int×Int)→Option (LS (Int×Int) (Int)):=fun (i3,j4) =>
 if i3 < j4 then
 (idx x1 (vz8.wrap (vz6 (v2j.wrap (vz8.wrap (i3+j4))) (2 ^ (min 1 64))))).bind fun (x5:Int) =>
 (qi3 x5 t2).bind fun (r6:Bool) =>
 if r6=true then
 some (.next ((vz8.wrap ((vz8.wrap (vz6 (v2j.wrap (vz8.wrap (i3+j4))) (2 ^ (min 1 64))))+1)),j4))
 else
 some (.next (i3,(vz8.wrap (vz6 (v2j.wrap (vz8.wrap (i3+j4))) (2 ^ (min 1 64))))))
 else
 some (.done i3)
def qax (x1:List Int) (t2:Int):Option (Int×Bool) :=
 (qaj (qa2 x1 t2) (0,(x1.length:Int))).bind (fun i3 =>
 if i3 < (x1.length:Int) then
 (idx x1 i3).bind fun (x4:Int) =>
 if (x4 == t2)=true then
 some (i3,true)
 else
 (qea x4).bind fun (r5:Bool) =>
 if r5=true then
 (qea t2).bind fun (r6:Bool) =>
 some (i3,r6)
 else
 some (i3,false)
 else
 some (i3,false))
def qdk (l1:List Int) (p2:List Int):Int→Option (LS (Int) ((Unit) ⊕ (Bool))):=fun t3 =>
 if t3 < (p2.length:Int) then
 (idx p2 t3).bind fun (x4:Int) =>
 (qax l1 x4).bind fun (r5:Int×Bool) =>
 if r5.2=true then
 some (.next (vz8.wrap (t3+1)))
 else
 some (.done (.inr false))
 else
 some (.done (.inl ()))
def qc2 (l1:List Int) (p2:List Int):Option (Bool) :=
 (qaj (qdk l1 p2) 0).bind (fun o=>match o with
 | .inl () =>
 some true
 | .inr r3 =>
 some r3)
def qgt (h1:Hypergraph):Int→Option (LS (Int) ((Unit) ⊕ (Bool))):=fun t2 =>
 if t2 < (h1.Edges.length:Int) then
 (idx h1.Edges t2).bind fun (x3:List Int) =>
 if ((x3.length:Int) == 0)=true then
 some (.done (.inr false))
 else
 (qc9 x3).bind fun (r4:Bool) =>
 if r4=true then
 (qc2 h1.Vertices x3).bind fun (r5:Bool) =>
 if r5=true then
 if t2 > 0 then
 (idx h1.Edges (vz8.wrap (t2 - 1))).bind fun (x6:List Int) =>
 (qae x6 x3).bind fun (r7:Int) =>
 if r7≥0 then
 some (.done (.inr false))
 else
 some (.next (vz8.wrap (t2+1)))
 else
 some (.next (vz8.wrap (t2+1)))
 else
 some (.done (.inr false))
 else
 some (.done (.inr false))
 else
 some (.done (.inl ()))
def qgu (h1:Hypergraph) (t2:Int) (x3:List Int):Int→Option (LS (Int) ((Unit) ⊕ (Bool))):=fun t4 =>
 if t4 < (h1.Edges.length:Int) then
 (idx h1.Edges t4).bind fun (x5:List Int) =>
 if (t2 != t4)=true then
 (qc2 x3 x5).bind fun (r6:Bool) =>
 if r6=true then
 some (.done (.inr false))
 else
 some (.next (vz8.wrap (t4+1)))
 else
 some (.next (vz8.wrap (t4+1)))
 else
 some (.done (.inl ()))
def qgv (h1:Hypergraph):Int→Option (LS (Int) ((Unit) ⊕ (Bool))):=fun t2 =>
 if t2 < (h1.Edges.length:Int) then
 (idx h1.Edges t2).bind fun (x3:List Int) =>
 (qaj (qgu h1 t2 x3) 0).bind (fun o=>match o with
 | .inl () =>
 some (.next (vz8.wrap (t2+1)))
 | .inr r4 =>
 some (.done (.inr r4)))
 else
 some (.done (.inl ()))
def qhq (h1:Hypergraph):Option (Bool) :=
 (qc9 h1.Vertices).bind fun (r2:Bool) =>
 if r2=true then
 if (h1.Edges.length:Int) > 20000 then
 some false
 else
 (qaj (qgt h1) 0).bind (fun o=>match o with
 | .inl () =>
 (qaj (qgv h1) 0).bind (fun o=>match o with
 | .inl () =>
 some true
 | .inr r3 =>
 some r3)
 | .inr r4 =>
 some r4)
 else
 some false
def qe7 (h1:Hypergraph):Option (Int) :=
 (qhq h1).bind fun (r2:Bool) =>
 if r2=true then
 if (h1.Vertices.length:Int) > 40 then
 some 3
 else
 some 0
 else
 some 1
def qc3 (s1:List Int) (v2:Int):Int→Option (LS (Int) ((Unit) ⊕ (Int))):=fun t3 =>
 if t3 < (s1.length:Int) then
 (idx s1 t3).bind fun (x4:Int) =>
 if (v2 == x4)=true then
 some (.done (.inr t3))
 else
 some (.next (vz8.wrap (t3+1)))
 else
 some (.done (.inl ()))
def qf7 (s1:List Int) (v2:Int):Option (Int) :=
 (qaj (qc3 s1 v2) 0).bind (fun o=>match o with
 | .inl () =>
 some (-1)
 | .inr r3 =>
 some r3)
def qb0 (s1:List Int) (f2:Int→Option (Bool)):Int→Option (LS (Int) ((Unit) ⊕ (Int))):=fun t3 =>
 if t3 < (s1.length:Int) then
 (idx s1 t3).bind fun (x4:Int) =>
 (f2 x4).bind fun (r5:Bool) =>
 if r5=true then
 some (.done (.inr t3))
 else
 some (.next (vz8.wrap (t3+1)))
 else
 some (.done (.inl ()))
def qda (s1:List Int) (f2:Int→Option (Bool)):Option (Int) :=
 (qaj (qb0 s1 f2) 0).bind (fun o=>match o with
 | .inl () =>
 some (-1)
 | .inr r3 =>
 some r3)
def qbm (s1:List Int) (f2:Int→Option (Bool)):Option (Bool) :=
 (qda s1 f2).bind fun (r3:Int) =>
 some (decide (r3≥0))
def qbn (e1:Int) (c2:Int) (c3:Int) (c4:Int):Option (Bool) :=
 if c2 < 0 then none else
 if ((v2j.wrap ((BitVec.ofInt 64 (vz6 e1 (2 ^ (min (c2).toNat 64))) &&& (1#64)).toNat:Int)) == 1)=true then
 some ((v2j.wrap ((BitVec.ofInt 64 (v2j.wrap ((BitVec.ofInt 64 e1 &&& ~~~ (BitVec.ofInt 64 (v2j.wrap (1 * 2 ^ (min (c2).toNat 64))))).toNat:Int)) &&& ~~~ (BitVec.ofInt 64 (v2j.wrap ((BitVec.ofInt 64 c3 ||| (BitVec.ofInt 64 c4)).toNat:Int)))).toNat:Int)) == 0)
 else
 some false
def qbr (e1:Int) (c2:Int):Option (Bool) :=
 some ((v2j.wrap ((BitVec.ofInt 64 e1 &&& ~~~ (BitVec.ofInt 64 c2)).toNat:Int)) == 0)
def qev (h1:Hypergraph) (x2:List Int):(Int×Int)→Option (LS (Int×Int) (Int)):=fun (b3,t4) =>
 if t4 < (x2.length:Int) then
 (idx x2 t4).bind fun (x5:Int) =>
 (qf7 h1.Vertices x5).bind fun (r6:Int) =>
 if r6 < 0 then none else
 some (.next ((v2j.wrap ((BitVec.ofInt 64 b3 ||| (BitVec.ofInt 64 (v2j.wrap (1 * 2 ^ (min (r6).toNat 64))))).toNat:Int)),(vz8.wrap (t4+1))))
 else
 some (.done b3)
def qew (h1:Hypergraph):(List Int×Int)→Option (LS (List Int×Int) (List Int)):=fun (w2,t3) =>
 if t3 < (h1.Edges.length:Int) then
 (idx h1.Edges t3).bind fun (x4:List Int) =>
 (qaj (qev h1 x4) (0,0)).bind (fun b5 =>
 if qcm (w2.length+1) 8=true then
 some (.next ((w2++[b5]),(vz8.wrap (t3+1))))
 else none)
 else
 some (.done w2)
def qdy (h1:Hypergraph) (w2:List Int) (v3:Int) (i4:Int) (o5:Int):Int→Option (LS (Int) ((Unit) ⊕ (Unit))):=fun t6 =>
 if t6 < v3 then
 if t6 < 0 then none else
 if ((v2j.wrap ((BitVec.ofInt 64 (vz6 o5 (2 ^ (min (t6).toNat 64))) &&& (1#64)).toNat:Int)) == 1)=true then
 (qbm w2 (fun (y7:Int)=>qbn y7 t6 i4 (v2j.wrap ((BitVec.ofInt 64 (v2j.wrap (18446744073709551615 * 2 ^ (min (v3).toNat 64))) &&& (BitVec.ofInt 64 (v2j.wrap ((v2j.wrap (1 * 2 ^ (min h1.Vertices.length 64))) - 1)))).toNat:Int)))).bind fun (r8:Bool) =>
 if r8=true then
 some (.next (vz8.wrap (t6+1)))
 else
 some (.done (.inr ()))
 else
 some (.next (vz8.wrap (t6+1)))
 else
 some (.done (.inl ()))
def qci (h1:Hypergraph) (m2:Int) (w3:List Int) (r4:(List Int×Int×Int×Int)→Option (Bool×List Int)):(List Int×Int×Int×Int)→Option (Bool×List Int):=fun (i5,v6,i7,o8) =>
 if v6 < 0 then none else
 if (h1.Vertices.length:Int) < 0 then none else
 (qaj (qdy h1 w3 v6 i7 o8) 0).bind (fun o=>match o with
 | .inl () =>
 if (v6 == (h1.Vertices.length:Int))=true then
 if qcm (i5.length+1) 8=true then
 some ((decide ((((i5.length+1):Nat):Int)≤m2)),(i5++[i7]))
 else none
 else
 (qbm w3 (fun (y9:Int)=>qbr y9 (v2j.wrap ((BitVec.ofInt 64 i7 ||| (BitVec.ofInt 64 (v2j.wrap (1 * 2 ^ (min (v6).toNat 64))))).toNat:Int)))).bind fun (r10:Bool) =>
 if r10=true then
 (r4 (i5,(vz8.wrap (v6+1)),i7,(v2j.wrap ((BitVec.ofInt 64 o8 ||| (BitVec.ofInt 64 (v2j.wrap (1 * 2 ^ (min (v6).toNat 64))))).toNat:Int)))).bind (fun (o:Bool×List Int)=>match o with
 | (t11,i12) =>
 some (t11,i12))
 else
 (r4 (i5,(vz8.wrap (v6+1)),(v2j.wrap ((BitVec.ofInt 64 i7 ||| (BitVec.ofInt 64 (v2j.wrap (1 * 2 ^ (min (v6).toNat 64))))).toNat:Int)),o8)).bind (fun (o:Bool×List Int)=>match o with
 | (t13,i14) =>
 if t13=true then
 (r4 (i14,(vz8.wrap (v6+1)),i7,(v2j.wrap ((BitVec.ofInt 64 o8 ||| (BitVec.ofInt 64 (v2j.wrap (1 * 2 ^ (min (v6).toNat 64))))).toNat:Int)))).bind (fun (o:Bool×List Int)=>match o with
 | (t15,i16) =>
 some (t15,i16))
 else
 some (false,i14))
 | .inr () =>
 some (true,i5))
def qgb (h1:Hypergraph) (m2:Int):Option (List Int×Bool) :=
 (qaj (qew h1) ([],0)).bind (fun w3 =>
 (ve6 (qci h1 m2 w3) 64 ([],0,0,0)).bind (fun (o:Bool×List Int)=>match o with
 | (t4,i5) =>
 some (i5,t4)))
def qhg (h1:Hypergraph) (s2:Int):(List Int×Int)→Option (LS (List Int×Int) (List Int)):=fun (o3,t4) =>
 if t4 < (h1.Vertices.length:Int) then
 (idx h1.Vertices t4).bind fun (x5:Int) =>
 if t4 < 0 then none else
 if ((v2j.wrap ((BitVec.ofInt 64 (vz6 s2 (2 ^ (min (t4).toNat 64))) &&& (1#64)).toNat:Int)) == 1)=true then
 if qcm (o3.length+1) 8=true then
 some (.next ((o3++[x5]),(vz8.wrap (t4+1))))
 else none
 else
 some (.next (o3,(vz8.wrap (t4+1))))
 else
 some (.done o3)
def qil (h1:Hypergraph) (s2:Int):Option (List Int) :=
 (qaj (qhg h1 s2) ([],0)).bind (fun o3 =>
 some o3)
def qcw (h1:Hypergraph) (r2:List Int×Bool):(List (List Int)×Int)→Option (LS (List (List Int)×Int) (List (List Int))):=fun (o3,t4) =>
 if t4 < (r2.1.length:Int) then
 (idx r2.1 t4).bind fun (x5:Int) =>
 (qil h1 x5).bind fun (r6:List Int) =>
 if qcm (o3.length+1) 24=true then
 some (.next ((o3++[r6]),(vz8.wrap (t4+1))))
 else none
 else
 some (.done o3)
def qf8 (h1:Hypergraph) (m2:Int):Option (List (List Int)×Int) :=
 (qe7 h1).bind fun (r3:Int) =>
 if (r3 != 0)=true then
 some ([],r3)
 else
 (qgb h1 m2).bind fun (r4:List Int×Bool) =>
 if r4.2=true then
 (qaj (qcw h1 r4) ([],0)).bind (fun o5 =>
 some (o5,0))
 else
 some ([],3)
def qdb (h1:Hypergraph) (r2:List Int) (i3:Int):Int→Option (LS (Int) ((Unit) ⊕ (Int))):=fun t4 =>
 if t4 < (h1.Vertices.length:Int) then
 (idx h1.Vertices t4).bind fun (x5:Int) =>
 (show Option (Bool) from
 if (x5 == i3)=true then
 some (decide (t4 < (r2.length:Int)))
 else
 some false).bind (fun t6 =>
 if t6=true then
 (idx r2 t4).bind fun (x7:Int) =>
 some (.done (.inr x7))
 else
 some (.next (vz8.wrap (t4+1))))
 else
 some (.done (.inl ()))
def qe8 (h1:Hypergraph) (r2:List Int) (i3:Int):Option (Int) :=
 (qaj (qdb h1 r2 i3) 0).bind (fun o=>match o with
 | .inl () =>
 some 0
 | .inr r4 =>
 some r4)
def qan (s1:List (List Int)) (f2:(List Int)→Option (Bool)):Int→Option (LS (Int) ((Unit) ⊕ (Int))):=fun t3 =>
 if t3 < (s1.length:Int) then
 (idx s1 t3).bind fun (x4:List Int) =>
 (f2 x4).bind fun (r5:Bool) =>
 if r5=true then
 some (.done (.inr t3))
 else
 some (.next (vz8.wrap (t3+1)))
 else
 some (.done (.inl ()))
def qat (s1:List (List Int)) (f2:(List Int)→Option (Bool)):Option (Int) :=
 (qaj (qan s1 f2) 0).bind (fun o=>match o with
 | .inl () =>
 some (-1)
 | .inr r3 =>
 some r3)
def qa6 (s1:List (List Int)) (f2:(List Int)→Option (Bool)):Option (Bool) :=
 (qat s1 f2).bind fun (r3:Int) =>
 some (decide (r3≥0))
def qef (e1:List Int):Option (Bool) :=
 some (decide ((e1.length:Int) > 2))
def qb4 (h1:Hypergraph) (i2:Int):Option (Int) :=
 (qax h1.Vertices i2).bind fun (r3:Int×Bool) =>
 if r3.2=true then
 some r3.1
 else
 some (-1)
def qfr (a1:Arr2_int) (b2:Arr2_int):Option (Int) :=
 some (vz8.wrap ((vz8.wrap ((vz8.wrap (20 * (vz8.wrap (a1.x0 - b2.x0))))+a1.x1)) - b2.x1))
def qi6 (n1:Int) (e2:List Arr2_int):Int→Option (LS (Int) ((Unit) ⊕ (Int))):=fun t3 =>
 if t3 < (e2.length:Int) then
 (idx e2 t3).bind fun (x4:Arr2_int) =>
 if (if x4.x1 < x4.x0 then x4.x1 else x4.x0) < 0 then
 some (.done (.inr 1))
 else
 if (if x4.x1 > x4.x0 then x4.x1 else x4.x0)≥n1 then
 some (.done (.inr 1))
 else
 some (.next (vz8.wrap (t3+1)))
 else
 some (.done (.inl ()))
def qkq (n1:Int) (e2:List Arr2_int):Option (Int) :=
 (show Option (Bool) from
 if n1 > 1000 then
 some true
 else
 some (decide ((e2.length:Int) > 20000))).bind (fun t3 =>
 if t3=true then
 some 3
 else
 if n1 < 0 then
 some 1
 else
 (qaj (qi6 n1 e2) 0).bind (fun o=>match o with
 | .inl () =>
 some 0
 | .inr r4 =>
 some r4))
def qql (x1:Int) (y2:Int):Option (Bool) :=
 (qg8 x1).bind fun (r3:Bool) =>
 if r3=true then
 (qg8 y2).bind fun (r4:Bool) =>
 if r4=true then
 some (decide (x1 < y2))
 else
 some true
 else
 some (decide (x1 < y2))
def qfk (d1:List Int) (a2:Int) (i3:Int):Unit→Option (LS (Unit) (Unit)):=fun () =>
 if i3 > a2 then
 (idx d1 i3).bind fun (x4:Int) =>
 (idx d1 (vz8.wrap (i3 - 1))).bind fun (x5:Int) =>
 (qql x4 x5).bind fun (r6:Bool) =>
 if r6=true then
 none
 else
 some (.done ())
 else
 some (.done ())
def qb2 (d1:List Int) (a2:Int) (b3:Int):Int→Option (LS (Int) (Unit)):=fun i4 =>
 if i4 < b3 then
 (qaj (qfk d1 a2 i4) ()).bind (fun () =>
 some (.next (vz8.wrap (i4+1))))
 else
 some (.done ())
def qby (d1:List Int) (a2:Int) (b3:Int):Option (Unit) :=
 (qaj (qb2 d1 a2 b3) (vz8.wrap (a2+1))).bind (fun () =>
 some ())
def qc6 (d1:List Int) (a2:Int) (b3:Int):Unit→Option (LS (Unit) (Unit)):=fun () =>
 if (vz8.wrap (b3 - a2))≤12 then
 (qby d1 a2 b3).bind fun (r4:Unit) =>
 some (.done ())
 else
 none
def qb5 (d1:List Int) (a2:Int) (b3:Int) (l4:Int):Option (Unit) :=
 (qaj (qc6 d1 a2 b3) ()).bind (fun r5 =>
 some r5)
def slices_Sort_int (x1:List Int):Option (Unit) :=
 (qrk (v2j.wrap (x1.length:Int))).bind fun (r2:Int) =>
 (qb5 x1 0 (x1.length:Int) r2).bind fun (r3:Unit) =>
 some ()
def qe9 (e1:List Arr2_int):(List (List Int)×Int)→Option (LS (List (List Int)×Int) (List (List Int))):=fun (o2,t3) =>
 if t3 < (e1.length:Int) then
 (idx e1 t3).bind fun (x4:Arr2_int) =>
 (idx o2 x4.x0).bind fun (x5:List Int) =>
 if qcm (x5.length+1) 8=true then
 some (.next ((o2.set x4.x0.toNat (x5++[x4.x1])),(vz8.wrap (t3+1))))
 else none
 else
 some (.done o2)
def qfa (o1:List (List Int)):(List (List Int)×Int)→Option (LS (List (List Int)×Int) (List (List Int))):=fun (o2,t3) =>
 if t3 < ((o1.length:Nat):Int) then
 (idx o2 t3).bind fun (x4:List Int) =>
 (qu9 x4).bind fun (l5:List Int) =>
 (idx (o2.set t3.toNat l5) t3).bind fun (x6:List Int) =>
 (vq5 x6).bind fun (l7:List Int) =>
 some (.next (((o2.set t3.toNat l5).set t3.toNat l7),(vz8.wrap (t3+1))))
 else
 some (.done o2)
def qhh (n1:Int) (e2:List Arr2_int):Option (List (List Int)) :=
 if 0≤n1 then
 if qcm (n1).toNat 24=true then
 (qaj (qe9 e2) ((vyw (n1).toNat ([]:List Int)),0)).bind (fun o3 =>
 (qaj (qfa o3) (o3,0)).bind (fun o4 =>
 some o4))
 else none
 else none
def qdz (s1:List Int) (v2:Int):Int→Option (LS (Int) ((Unit) ⊕ (Int))):=fun t3 =>
 if t3 < (s1.length:Int) then
 (idx s1 t3).bind fun (x4:Int) =>
 if (v2 == x4)=true then
 some (.done (.inr t3))
 else
 some (.next (vz8.wrap (t3+1)))
 else
 some (.done (.inl ()))
def qeg (s1:List Int) (v2:Int):Option (Int) :=
 (qaj (qdz s1 v2) 0).bind (fun o=>match o with
 | .inl () =>
 some (-1)
 | .inr r3 =>
 some r3)
def qa3 (a1:List Int) (b2:List Int):Option (Int) :=
 (a1[0]?).bind fun (x3:Int) =>
 (b2[0]?).bind fun (x4:Int) =>
 (qgp x3 x4).bind fun (r5:Int) =>
 some r5
def qfs (v1:Int) (r2:(List Int×List Int×List Bool×List Int×Int×List (List Int)×Int)→Option (List Int×List Int×List Bool×List Int×Int×List (List Int))) (x3:List Int):(List Int×List Int×List Bool×List Int×Int×List (List Int)×Int)→Option (LS (List Int×List Int×List Bool×List Int×Int×List (List Int)×Int) (List Int×List Int×List Bool×List Int×Int×List (List Int))):=fun (t4,t5,t6,t7,t8,t9,t10) =>
 if t10 < (x3.length:Int) then
 (idx x3 t10).bind fun (x11:Int) =>
 (idx t4 x11).bind fun (x12:Int) =>
 if (x12 == 0)=true then
 (r2 (t4,t5,t6,t7,t8,t9,x11)).bind (fun (o:List Int×List Int×List Bool×List Int×Int×List (List Int))=>match o with
 | (b13,b14,b15,b16,b17,b18) =>
 (idx b14 v1).bind fun (x19:Int) =>
 (idx b14 x11).bind fun (x20:Int) =>
 some (.next (b13,(b14.set v1.toNat (if x20 < x19 then x20 else x19)),b15,b16,b17,b18,(vz8.wrap (t10+1)))))
 else
 (idx t6 x11).bind fun (x21:Bool) =>
 if x21=true then
 (idx t5 v1).bind fun (x22:Int) =>
 some (.next (t4,(t5.set v1.toNat (if x12 < x22 then x12 else x22)),t6,t7,t8,t9,(vz8.wrap (t10+1))))
 else
 some (.next (t4,t5,t6,t7,t8,t9,(vz8.wrap (t10+1))))
 else
 some (.done (t4,t5,t6,t7,t8,t9))
def qft (l1:List Int):(List Bool×Int)→Option (LS (List Bool×Int) (List Bool)):=fun (t2,t3) =>
 if t3 < ((l1.length:Nat):Int) then
 (idx l1 t3).bind fun (x4:Int) =>
 (idx t2 x4).bind fun (x5:Bool) =>
 some (.next ((t2.set x4.toNat false),(vz8.wrap (t3+1))))
 else
 some (.done t2)
def qdc (r1:List (List Int)) (r2:(List Int×List Int×List Bool×List Int×Int×List (List Int)×Int)→Option (List Int×List Int×List Bool×List Int×Int×List (List Int))):(List Int×List Int×List Bool×List Int×Int×List (List Int)×Int)→Option (List Int×List Int×List Bool×List Int×Int×List (List Int)):=fun (t3,t4,t5,t6,t7,t8,v9) =>
 (idx t3 v9).bind fun (x10:Int) =>
 (idx t4 v9).bind fun (x11:Int) =>
 if qcm (t6.length+1) 8=true then
 (idx t5 v9).bind fun (x12:Bool) =>
 (idx r1 v9).bind fun (x13:List Int) =>
 (qaj (qfs v9 r2 x13) ((t3.set v9.toNat (vz8.wrap (t7+1))),(t4.set v9.toNat (vz8.wrap (t7+1))),(t5.set v9.toNat true),(t6++[v9]),(vz8.wrap (t7+1)),t8,0)).bind (fun (t14,t15,t16,t17,t18,t19) =>
 (idx t15 v9).bind fun (x20:Int) =>
 (idx t14 v9).bind fun (x21:Int) =>
 if (x20 != x21)=true then
 some (t14,t15,t16,t17,t18,t19)
 else
 (qeg t17 v9).bind fun (r22:Int) =>
 if 0≤r22 then
 if r22≤((t17.length:Nat):Int) then
 if (t17.length - r22.toNat)≤1000000000 then
 (some ((t17.drop r22.toNat).take (t17.length - r22.toNat))).bind fun (l23:List Int) =>
 if (0:Int)≤r22 then
 if r22.toNat≤t17.length then
 (some (t17.take r22.toNat:List Int)).bind fun (l24:List Int) =>
 (qaj (qft l23) (t16,0)).bind (fun t25 =>
 if qcm (t19.length+1) 24=true then
 some (t14,t15,t25,l24,t18,(t19++[l23]))
 else none)
 else none
 else none
 else none
 else none
 else none)
 else none
def qfu (n1:Int) (r2:List (List Int)):(List Int×List Int×List Bool×List Int×Int×List (List Int)×Int)→Option (LS (List Int×List Int×List Bool×List Int×Int×List (List Int)×Int) (List Int×List Int×List Bool×List Int×Int×List (List Int))):=fun (t3,t4,t5,t6,t7,t8,t9) =>
 if t9 < n1 then
 (idx t3 t9).bind fun (x10:Int) =>
 if (x10 == 0)=true then
 (ve6 (qdc r2) 64 (t3,t4,t5,t6,t7,t8,t9)).bind (fun (o:List Int×List Int×List Bool×List Int×Int×List (List Int))=>match o with
 | (b11,b12,b13,b14,b15,b16) =>
 some (.next (b11,b12,b13,b14,b15,b16,(vz8.wrap (t9+1)))))
 else
 some (.next (t3,t4,t5,t6,t7,t8,(vz8.wrap (t9+1))))
 else
 some (.done (t3,t4,t5,t6,t7,t8))
def qhi (t1:List (List Int)):Int→Option (LS (Int) (Unit)):=fun t2 =>
 if t2 < ((t1.length:Nat):Int) then
 (idx t1 t2).bind fun (x3:List Int) =>
 (slices_Sort_int x3).bind fun (r4:Unit) =>
 some (.next (vz8.wrap (t2+1)))
 else
 some (.done ())
def qkx (n1:Int) (e2:List Arr2_int):Option (List (List Int)×Int) :=
 (qkq n1 e2).bind fun (r3:Int) =>
 if (r3 != 0)=true then
 some ([],r3)
 else
 (qhh n1 e2).bind fun (r4:List (List Int)) =>
 if 0≤n1 then
 if qcm (n1).toNat 8=true then
 if qcm (n1).toNat 1=true then
 (qaj (qfu n1 r4) ((vyw (n1).toNat 0),(vyw (n1).toNat 0),(vyw (n1).toNat false),[],0,[],0)).bind (fun (t5,t6,t7,t8,t9,t10) =>
 (qaj (qhi t10) 0).bind (fun () =>
 (qzi (fun (y11:List Int) (y12:List Int)=>qa3 y11 y12) t10).bind fun (l13:List (List Int)) =>
 if l13.length=t10.length then
 some (l13,0)
 else none))
 else none
 else none
 else none
def qjj (s1:List Int) (v2:Int):Option (Bool) :=
 (qeg s1 v2).bind fun (r3:Int) =>
 some (decide (r3≥0))
def qnm (n1:Int) (v2:Int):Option (Bool) :=
 if v2≥0 then
 some (decide (v2 < n1))
 else
 some false
def qvg (n1:Int) (e2:List Arr2_int) (f3:Int) (t4:Int):Option (List Int×Int) :=
 (qkq n1 e2).bind fun (r5:Int) =>
 if (r5 != 0)=true then
 some ([],r5)
 else
 (qnm n1 f3).bind fun (r6:Bool) =>
 if r6=true then
 (qnm n1 t4).bind fun (r7:Bool) =>
 if r7=true then
 none
 else
 some ([],7)
 else
 some ([],7)
def qi7 (e1:List Arr2_int):Int→Option (LS (Int) ((Unit) ⊕ (List Int×Bool))):=fun t2 =>
 if t2 < (e1.length:Int) then
 (idx e1 t2).bind fun (x3:Arr2_int) =>
 if (x3.x0 == x3.x1)=true then
 some (.done (.inr ([x3.x0],true)))
 else
 some (.next (vz8.wrap (t2+1)))
 else
 some (.done (.inl ()))
def qsb (n1:Int) (e2:List Arr2_int) (x3:List Int):Int→Option (LS (Int) ((Unit) ⊕ (List Int×Bool))):=fun t4 =>
 if t4 < (e2.length:Int) then
 (idx e2 t4).bind fun (x5:Arr2_int) =>
 (show Option (Bool) from
 (x3[0]?).bind fun (x6:Int) =>
 if (x5.x0 == x6)=true then
 (qjj x3 x5.x1).bind fun (r7:Bool) =>
 some r7
 else
 some false).bind (fun t8 =>
 if t8=true then
 (x3[0]?).bind fun (x9:Int) =>
 (qvg n1 e2 x5.x1 x9).bind fun (r10:List Int×Int) =>
 some (.done (.inr (r10.1,true)))
 else
 some (.next (vz8.wrap (t4+1))))
 else
 some (.done (.inl ()))
def qi8 (n1:Int) (e2:List Arr2_int) (r3:List (List Int)×Int):Int→Option (LS (Int) ((Unit) ⊕ (List Int×Bool))):=fun t4 =>
 if t4 < (r3.1.length:Int) then
 (idx r3.1 t4).bind fun (x5:List Int) =>
 if ((x5.length:Int) == 1)=true then
 some (.next (vz8.wrap (t4+1)))
 else
 (qaj (qsb n1 e2 x5) 0).bind (fun o=>match o with
 | .inl () =>
 some (.next (vz8.wrap (t4+1)))
 | .inr r6 =>
 some (.done (.inr r6)))
 else
 some (.done (.inl ()))
def qjk (n1:Int) (e2:List Arr2_int):Option (List Int×Bool) :=
 (qkx n1 e2).bind fun (r3:List (List Int)×Int) =>
 if (r3.2 != 0)=true then
 some ([],false)
 else
 (qaj (qi7 e2) 0).bind (fun o=>match o with
 | .inl () =>
 (qaj (qi8 n1 e2 r3) 0).bind (fun o=>match o with
 | .inl () =>
 some ([],false)
 | .inr r4 =>
 some r4)
 | .inr r5 =>
 some r5)
def qex (h1:Hypergraph):(Int×List Int×Int)→Option (LS (Int×List Int×Int) (Int×List Int)):=fun (g2,g3,t4) =>
 if t4 < (h1.Edges.length:Int) then
 (idx h1.Edges t4).bind fun (x5:List Int) =>
 (x5[0]?).bind fun (x6:Int) =>
 (qb4 h1 x6).bind fun (r7:Int) =>
 (idx x5 (vz8.wrap ((x5.length:Int) - 1))).bind fun (x8:Int) =>
 (qb4 h1 x8).bind fun (r9:Int) =>
 if (r7 == r9)=true then
 if r7 < 0 then none else
 some (.next ((v0a.wrap ((BitVec.ofInt 16 g2 &&& ~~~ (BitVec.ofInt 16 (v0a.wrap (1 * 2 ^ (min (r7).toNat 16))))).toNat:Int)),g3,(vz8.wrap (t4+1))))
 else
 (idx g3 r7).bind fun (x10:Int) =>
 if r9 < 0 then none else
 (idx (g3.set r7.toNat (v0a.wrap ((BitVec.ofInt 16 x10 ||| (BitVec.ofInt 16 (v0a.wrap (1 * 2 ^ (min (r9).toNat 16))))).toNat:Int))) r9).bind fun (x11:Int) =>
 if r7 < 0 then none else
 some (.next (g2,((g3.set r7.toNat (v0a.wrap ((BitVec.ofInt 16 x10 ||| (BitVec.ofInt 16 (v0a.wrap (1 * 2 ^ (min (r9).toNat 16))))).toNat:Int))).set r9.toNat (v0a.wrap ((BitVec.ofInt 16 x11 ||| (BitVec.ofInt 16 (v0a.wrap (1 * 2 ^ (min (r7).toNat 16))))).toNat:Int))),(vz8.wrap (t4+1))))
 else
 some (.done (g2,g3))
def qey (h1:Hypergraph) (p2:List Arr2_int64) (g3:List Int):(List Int×List Arr2_int×Int)→Option (LS (List Int×List Arr2_int×Int) ((List Int×List Arr2_int) ⊕ (Option Priority_game×Int))):=fun (g4,e5,t6) =>
 if t6 < (p2.length:Int) then
 (idx p2 t6).bind fun (x7:Arr2_int64) =>
 (qb4 h1 x7.x0).bind fun (r8:Int) =>
 (qb4 h1 x7.x1).bind fun (r9:Int) =>
 if r8 < 0 then
 some (.done (.inr (none,1)))
 else
 if r9 < 0 then
 some (.done (.inr (none,1)))
 else
 (idx g3 r8).bind fun (x10:Int) =>
 if r9 < 0 then none else
 if ((v0a.wrap ((BitVec.ofInt 16 (vz6 x10 (2 ^ (min (r9).toNat 16))) &&& (1#16)).toNat:Int)) == 0)=true then
 some (.done (.inr (none,1)))
 else
 (idx g4 r9).bind fun (x11:Int) =>
 if r8 < 0 then none else
 if qcm (e5.length+1) 16=true then
 some (.next ((g4.set r9.toNat (v0a.wrap ((BitVec.ofInt 16 x11 ||| (BitVec.ofInt 16 (v0a.wrap (1 * 2 ^ (min (r8).toNat 16))))).toNat:Int))),(e5++[(Arr2_int.mk r8 r9)]),(vz8.wrap (t6+1))))
 else none
 else
 some (.done (.inl (g4,e5)))
def qok (l1:List Arr2_int) (k2:Int):(List Arr2_int×Int×Int)→Option (LS (List Arr2_int×Int×Int) (List Arr2_int×Int)):=fun (s3,k4,k5) =>
 if k5 < (((l1.length - k2.toNat):Nat):Int) then
 (idx ((s3.drop k2.toNat).take (l1.length - k2.toNat)) k5).bind fun (x6:Arr2_int) =>
 (idx ((s3.drop k2.toNat).take (l1.length - k2.toNat)) (vz8.wrap (k5 - 1))).bind fun (x7:Arr2_int) =>
 if ((x6.x0 == x7.x0) && (x6.x1 == x7.x1))=true then
 some (.next (s3,k4,(vz8.wrap (k5+1))))
 else
 (idx s3 k4).bind fun (x8:Arr2_int) =>
 some (.next ((s3.set k4.toNat x6),(vz8.wrap (k4+1)),(vz8.wrap (k5+1))))
 else
 some (.done (s3,k4))
def qez (l1:List Arr2_int):Int→Option (LS (Int) ((Unit) ⊕ (List Arr2_int))):=fun k2 =>
 if k2 < ((l1.length:Nat):Int) then
 (idx l1 k2).bind fun (x3:Arr2_int) =>
 (idx l1 (vz8.wrap (k2 - 1))).bind fun (x4:Arr2_int) =>
 if ((x3.x0 == x4.x0) && (x3.x1 == x4.x1))=true then
 if 0≤k2 then
 if k2≤((l1.length:Nat):Int) then
 (qaj (qok l1 k2) (l1,k2,1)).bind (fun (s5,k6) =>
 if 0≤k6 then
 if k6≤((s5.length:Nat):Int) then
 if (0:Int)≤k6 then
 if k6≤((((((s5.take k6.toNat)).length+((vyw (s5.length - k6.toNat) (Arr2_int.mk 0 0))).length)+((s5.drop (k6.toNat+(s5.length - k6.toNat)))).length):Nat):Int) then
 (some ((((s5.take k6.toNat)++(vyw (s5.length - k6.toNat) (Arr2_int.mk 0 0)))++(s5.drop (k6.toNat+(s5.length - k6.toNat)))):List Arr2_int)).bind fun (l7:List Arr2_int) =>
 if k6.toNat≤l7.length then
 (some (l7.take k6.toNat:List Arr2_int)).bind fun (l8:List Arr2_int) =>
 some (.done (.inr l8))
 else none
 else none
 else none
 else none
 else none)
 else none
 else none
 else
 some (.next (vz8.wrap (k2+1)))
 else
 some (.done (.inl ()))
def qgc (h1:Hypergraph) (p2:List Arr2_int64):Option (Option Priority_game×Int) :=
 (qhq h1).bind fun (r3:Bool) =>
 if r3=true then
 (qa6 h1.Edges (fun (y4:List Int)=>qef y4)).bind fun (r5:Bool) =>
 if r5=true then
 some (none,14)
 else
 if (h1.Vertices.length:Int) > 14 then
 some (none,3)
 else
 if (h1.Vertices.length:Int) < 0 then none else
 if 0≤(h1.Vertices.length:Int) then
 if qcm h1.Vertices.length 2=true then
 (qaj (qex h1) ((v0a.wrap ((v0a.wrap (1 * 2 ^ (min h1.Vertices.length 16))) - 1)),(vyw h1.Vertices.length 0),0)).bind (fun (g6,g7) =>
 (qaj (qey h1 p2 g7) ((vyw h1.Vertices.length 0),[],0)).bind (fun o=>match o with
 | .inl (g8,e9) =>
 (qzi (fun (y10:Arr2_int) (y11:Arr2_int)=>qfr y10 y11) e9).bind fun (l12:List Arr2_int) =>
 if ((l12.length:Nat):Int) < 2 then
 (qjk (h1.Vertices.length:Int) l12).bind fun (r13:List Int×Bool) =>
 if r13.2=true then
 some (none,9)
 else
 some ((some (Priority_game.mk h1 g6 g7 g8)),0)
 else
 (qaj (qez l12) 1).bind (fun o=>match o with
 | .inl () =>
 (qjk (h1.Vertices.length:Int) l12).bind fun (r14:List Int×Bool) =>
 if r14.2=true then
 some (none,9)
 else
 some ((some (Priority_game.mk h1 g6 g7 g8)),0)
 | .inr t15 =>
 (qjk (h1.Vertices.length:Int) t15).bind fun (r16:List Int×Bool) =>
 if r16.2=true then
 some (none,9)
 else
 some ((some (Priority_game.mk h1 g6 g7 g8)),0))
 | .inr r17 =>
 some r17))
 else none
 else none
 else
 some (none,1)
def qd6 (g1:Priority_game):Option (List (List Int)) :=
 (qf8 g1.h 20000).bind fun (r2:List (List Int)×Int) =>
 some r2.1
def qfb (g1:Priority_game) (l2:List Int):(Int×Int)→Option (LS (Int×Int) (Int)):=fun (s3,t4) =>
 if t4 < (l2.length:Int) then
 (idx l2 t4).bind fun (x5:Int) =>
 (qb4 g1.h x5).bind fun (r6:Int) =>
 if r6 < 0 then none else
 some (.next ((v0a.wrap ((BitVec.ofInt 16 s3 ||| (BitVec.ofInt 16 (v0a.wrap (1 * 2 ^ (min (r6).toNat 16))))).toNat:Int)),(vz8.wrap (t4+1))))
 else
 some (.done s3)
def qdp (g1:Priority_game) (l2:List Int):Option (Int) :=
 (qaj (qfb g1 l2) (0,0)).bind (fun s3 =>
 some s3)
def qb6 (g1:Priority_game) (r2:Int) (b3:Int→Int→Option (Bool)) (r4:List (List Int)):Int→Option (LS (Int) ((Unit) ⊕ (List Int×Bool))):=fun t5 =>
 if t5 < (r4.length:Int) then
 (idx r4 t5).bind fun (x6:List Int) =>
 (qdp g1 x6).bind fun (r7:Int) =>
 (b3 r2 r7).bind fun (r8:Bool) =>
 if r8=true then
 some (.done (.inr (x6,false)))
 else
 some (.next (vz8.wrap (t5+1)))
 else
 some (.done (.inl ()))
def qcp (g1:Priority_game) (r2:Int) (b3:Int→Int→Option (Bool)):Option (List Int×Bool) :=
 (qd6 g1).bind fun (r4:List (List Int)) =>
 (qaj (qb6 g1 r2 b3 r4) 0).bind (fun o=>match o with
 | .inl () =>
 some ([],true)
 | .inr r5 =>
 some r5)
def qa7 (x:Int):Option Int:=if 0≤x∧x < 65536 then some (vt0 x.toNat) else none
def qbs (g1:Priority_game) (r2:Int) (s3:Int):Int→Option (LS (Int) ((Unit) ⊕ (Bool))):=fun x4 =>
 if x4 > 0 then
 (qa7 x4).bind fun (r5:Int) =>
 (idx g1.above r5).bind fun (x6:Int) =>
 if ((v0a.wrap ((BitVec.ofInt 16 (v0a.wrap ((BitVec.ofInt 16 x6 &&& (BitVec.ofInt 16 s3)).toNat:Int)) &&& ~~~ (BitVec.ofInt 16 r2)).toNat:Int)) == 0)=true then
 some (.done (.inr false))
 else
 some (.next (v0a.wrap ((BitVec.ofInt 16 x4 &&& (BitVec.ofInt 16 (v0a.wrap (x4 - 1)))).toNat:Int)))
 else
 some (.done (.inl ()))
def qcj (g1:Priority_game) (r2:Int) (s3:Int):Option (Bool) :=
 (qaj (qbs g1 r2 s3) (v0a.wrap ((BitVec.ofInt 16 r2 &&& ~~~ (BitVec.ofInt 16 s3)).toNat:Int))).bind (fun o=>match o with
 | .inl () =>
 some (r2 != s3)
 | .inr r4 =>
 some r4)
def qaz (l1:List Int) (c2:Priority_game):Option (Bool) :=
 (qdp c2 l1).bind fun (r3:Int) =>
 (qcp c2 r3 (fun (y4:Int) (y5:Int)=>qcj c2 y4 y5)).bind fun (r6:List Int×Bool) =>
 some (!r6.2)
def qjl (g1:Priority_game) (r2:List Int×Bool):(List (List Int)×Int)→Option (LS (List (List Int)×Int) (List (List Int))):=fun (o3,t4) =>
 if t4 < (r2.1.length:Int) then
 (idx r2.1 t4).bind fun (x5:Int) =>
 (qil g1.h x5).bind fun (r6:List Int) =>
 if qcm (o3.length+1) 24=true then
 some (.next ((o3++[r6]),(vz8.wrap (t4+1))))
 else none
 else
 some (.done o3)
def qcz (g1:Priority_game):(List (List Int)×Int×Int)→Option (LS (List (List Int)×Int×Int) (List (List Int)×Int)):=fun (s2,i3,j4) =>
 if j4 < ((s2.length:Nat):Int) then
 (idx s2 j4).bind fun (x5:List Int) =>
 (qaz x5 g1).bind fun (r6:Bool) =>
 if r6=true then
 some (.next (s2,i3,(vz8.wrap (j4+1))))
 else
 (idx s2 i3).bind fun (x7:List Int) =>
 some (.next ((s2.set i3.toNat x5),(vz8.wrap (i3+1)),(vz8.wrap (j4+1))))
 else
 some (.done (s2,i3))
def qfv (h1:Hypergraph) (p2:List Arr2_int64):Option (List (List Int)×Int) :=
 (qgc h1 p2).bind fun (r3:Option Priority_game×Int) =>
 (r3.1).bind fun (g4:Priority_game) =>
 if (r3.2 != 0)=true then
 some ([],r3.2)
 else
 (qe7 g4.h).bind fun (r5:Int) =>
 if (r5 != 0)=true then
 (qat [] (fun (y6:List Int)=>qaz y6 g4)).bind fun (r7:Int) =>
 if (r7 == (-1))=true then
 some ([],0)
 else
 none
 else
 (qgb g4.h 20000).bind fun (r8:List Int×Bool) =>
 if r8.2=true then
 (qaj (qjl g4 r8) ([],0)).bind (fun o9 =>
 (qat o9 (fun (y10:List Int)=>qaz y10 g4)).bind fun (r11:Int) =>
 if (r11 == (-1))=true then
 some (o9,0)
 else
 (qaj (qcz g4) (o9,r11,(vz8.wrap (r11+1)))).bind (fun (s12,i13) =>
 if 0≤i13 then
 if i13≤((s12.length:Nat):Int) then
 if (0:Int)≤i13 then
 if i13≤((((((s12.take i13.toNat)).length+((vyw (s12.length - i13.toNat) ([]:List Int))).length)+((s12.drop (i13.toNat+(s12.length - i13.toNat)))).length):Nat):Int) then
 (some ((((s12.take i13.toNat)++(vyw (s12.length - i13.toNat) ([]:List Int)))++(s12.drop (i13.toNat+(s12.length - i13.toNat)))):List (List Int))).bind fun (l14:List (List Int)) =>
 if i13.toNat≤l14.length then
 (some (l14.take i13.toNat:List (List Int))).bind fun (l15:List (List Int)) =>
 some (l15,0)
 else none
 else none
 else none
 else none
 else none))
 else
 (qat [] (fun (y16:List Int)=>qaz y16 g4)).bind fun (r17:Int) =>
 if (r17 == (-1))=true then
 some ([],0)
 else
 none
def qa8 (g1:Priority_game):(Int×Int×Bool×Int)→Option (LS (Int×Int×Bool×Int) (Int×Int×Bool)):=fun (k2,r3,f4,x5) =>
 if x5 > 0 then
 if f4=true then
 some (.done (k2,r3,f4))
 else
 (show Option (Int×Int×Bool) from
 (qa7 x5).bind fun (r6:Int) =>
 (idx g1.above r6).bind fun (x7:Int) =>
 if ((v0a.wrap ((BitVec.ofInt 16 x7 &&& (BitVec.ofInt 16 r3)).toNat:Int)) == 0)=true then
 if r6 < 0 then none else
 (idx g1.near r6).bind fun (x8:Int) =>
 some ((v0a.wrap ((BitVec.ofInt 16 k2 ||| (BitVec.ofInt 16 (v0a.wrap (1 * 2 ^ (min (r6).toNat 16))))).toNat:Int)),(v0a.wrap ((BitVec.ofInt 16 r3 &&& ~~~ (BitVec.ofInt 16 (v0a.wrap ((BitVec.ofInt 16 (v0a.wrap (1 * 2 ^ (min (r6).toNat 16))) ||| (BitVec.ofInt 16 x8)).toNat:Int)))).toNat:Int)),true)
 else
 some (k2,r3,f4)).bind (fun (k9,r10,f11) =>
 some (.next (k9,r10,f11,(v0a.wrap ((BitVec.ofInt 16 x5 &&& (BitVec.ofInt 16 (v0a.wrap (x5 - 1)))).toNat:Int)))))
 else
 some (.done (k2,r3,f4))
def qbj (g1:Priority_game) (a2:Int):(Int×Int)→Option (LS (Int×Int) ((Int) ⊕ (Int×Bool))):=fun (k3,r4) =>
 if r4 > 0 then
 (qaj (qa8 g1) (k3,r4,false,(v0a.wrap ((BitVec.ofInt 16 r4 &&& (BitVec.ofInt 16 a2)).toNat:Int)))).bind (fun (k5,r6,f7) =>
 if f7=true then
 some (.next (k5,r6))
 else
 some (.done (.inr (k5,false))))
 else
 some (.done (.inl k3))
def qc4 (g1:Priority_game) (a2:Int):Option (Int×Bool) :=
 (qaj (qbj g1 a2) (0,g1.free)).bind (fun o=>match o with
 | .inl k3 =>
 some (k3,true)
 | .inr r4 =>
 some r4)
def qcd (g1:Priority_game):(Int×List Int)→Option (LS (Int×List Int) (List Int)):=fun (s2,o3) =>
 if s2 > 0 then
 (qa7 s2).bind fun (r4:Int) =>
 (idx g1.h.Vertices r4).bind fun (x5:Int) =>
 if qcm (o3.length+1) 8=true then
 some (.next ((v0a.wrap ((BitVec.ofInt 16 s2 &&& (BitVec.ofInt 16 (v0a.wrap (s2 - 1)))).toNat:Int)),(o3++[x5])))
 else none
 else
 some (.done o3)
def qf9 (g1:Priority_game) (s2:Int):Option (List Int) :=
 (qaj (qcd g1) (s2,[])).bind (fun o3 =>
 some o3)
def qic (h1:Hypergraph) (p2:List Arr2_int64):Option (List Int×Int) :=
 (qgc h1 p2).bind fun (r3:Option Priority_game×Int) =>
 if (r3.2 != 0)=true then
 some ([],r3.2)
 else
 (r3.1).bind fun (g4:Priority_game) =>
 (qc4 g4 g4.free).bind fun (r5:Int×Bool) =>
 (qf9 g4 r5.1).bind fun (r6:List Int) =>
 some (r6,0)
def qe0 (a1:List Int) (b2:List Int):Int→Option (LS (Int) ((Unit) ⊕ (Bool))):=fun i3 =>
 if i3 < (a1.length:Int) then
 (idx a1 i3).bind fun (x4:Int) =>
 (idx b2 i3).bind fun (x5:Int) =>
 if (x4 != x5)=true then
 some (.done (.inr false))
 else
 some (.next (vz8.wrap (i3+1)))
 else
 some (.done (.inl ()))
def qgd (a1:List Int) (b2:List Int):Option (Bool) :=
 if ((a1.length:Int) != (b2.length:Int))=true then
 some false
 else
 (qaj (qe0 a1 b2) 0).bind (fun o=>match o with
 | .inl () =>
 some true
 | .inr r3 =>
 some r3)
def qfc (a1:List (List Int)) (b2:List (List Int)):Int→Option (LS (Int) ((Unit) ⊕ (Bool))):=fun i3 =>
 if i3 < (a1.length:Int) then
 (idx a1 i3).bind fun (x4:List Int) =>
 (idx b2 i3).bind fun (x5:List Int) =>
 (qgd x4 x5).bind fun (r6:Bool) =>
 if r6=true then
 some (.next (vz8.wrap (i3+1)))
 else
 some (.done (.inr false))
 else
 some (.done (.inl ()))
def qhj (a1:List (List Int)) (b2:List (List Int)):Option (Bool) :=
 if ((a1.length:Int) != (b2.length:Int))=true then
 some false
 else
 (qaj (qfc a1 b2) 0).bind (fun o=>match o with
 | .inl () =>
 some true
 | .inr r3 =>
 some r3)
def qe1 (l1:List Int) (i2:Int):Int→Option (LS (Int) ((Unit) ⊕ (Bool))):=fun i3 =>
 if i3 < (l1.length:Int) then
 (idx l1 i3).bind fun (x4:Int) =>
 if (x4 == i2)=true then
 some (.done (.inr true))
 else
 some (.next (vz8.wrap (i3+1)))
 else
 some (.done (.inl ()))
def qi9 (l1:List Int) (i2:Int):Option (Bool) :=
 (qaj (qe1 l1 i2) 0).bind (fun o=>match o with
 | .inl () =>
 some false
 | .inr r3 =>
 some r3)
def qdl (p1:List Arr2_int64) (a2:Int) (b3:Int):Int→Option (LS (Int) ((Unit) ⊕ (Bool))):=fun i4 =>
 if i4 < (p1.length:Int) then
 (idx p1 i4).bind fun (x5:Arr2_int64) =>
 if (x5.x0 == a2)=true then
 if (x5.x1 == b3)=true then
 some (.done (.inr true))
 else
 some (.next (vz8.wrap (i4+1)))
 else
 some (.next (vz8.wrap (i4+1)))
 else
 some (.done (.inl ()))
def qgw (p1:List Arr2_int64) (a2:Int) (b3:Int):Option (Bool) :=
 (qaj (qdl p1 a2 b3) 0).bind (fun o=>match o with
 | .inl () =>
 some false
 | .inr r4 =>
 some r4)
def qeb (p1:List Arr2_int64) (l2:List Int) (v3:Int):Int→Option (LS (Int) ((Unit) ⊕ (Bool))):=fun i4 =>
 if i4 < (l2.length:Int) then
 (idx l2 i4).bind fun (x5:Int) =>
 (qgw p1 x5 v3).bind fun (r6:Bool) =>
 if r6=true then
 some (.done (.inr false))
 else
 some (.next (vz8.wrap (i4+1)))
 else
 some (.done (.inl ()))
def qid (p1:List Arr2_int64) (l2:List Int) (v3:Int):Option (Bool) :=
 (qaj (qeb p1 l2 v3) 0).bind (fun o=>match o with
 | .inl () =>
 some true
 | .inr r4 =>
 some r4)
def qec (h1:Hypergraph) (l2:List Int):Int→Option (LS (Int) ((Unit) ⊕ (Bool))):=fun i3 =>
 if i3 < (h1.Edges.length:Int) then
 (idx h1.Edges i3).bind fun (x4:List Int) =>
 (qgd x4 l2).bind fun (r5:Bool) =>
 if r5=true then
 some (.done (.inr true))
 else
 some (.next (vz8.wrap (i3+1)))
 else
 some (.done (.inl ()))
def qgx (h1:Hypergraph) (l2:List Int):Option (Bool) :=
 (qaj (qec h1 l2) 0).bind (fun o=>match o with
 | .inl () =>
 some false
 | .inr r3 =>
 some r3)
def qd7 (h1:Hypergraph) (a2:Int) (b3:Int):Option (Bool) :=
 if (a2 != b3)=true then
 (qgx h1 [(if b3 < a2 then b3 else a2),(if b3 > a2 then b3 else a2)]).bind fun (r4:Bool) =>
 some r4
 else
 some false
def qfd (h1:Hypergraph) (r2:List Int) (v3:Int):(List Int×Int)→Option (LS (List Int×Int) (List Int)):=fun (o4,i5) =>
 if i5 < (r2.length:Int) then
 (show Option (Bool) from
 (idx r2 i5).bind fun (x6:Int) =>
 if (x6 != v3)=true then
 (qd7 h1 x6 v3).bind fun (r7:Bool) =>
 some (!r7)
 else
 some false).bind (fun t8 =>
 if t8=true then
 (idx r2 i5).bind fun (x9:Int) =>
 if qcm (o4.length+1) 8=true then
 some (.next ((o4++[x9]),(vz8.wrap (i5+1))))
 else none
 else
 some (.next (o4,(vz8.wrap (i5+1)))))
 else
 some (.done o4)
def qhk (h1:Hypergraph) (r2:List Int) (v3:Int):Option (List Int) :=
 (qaj (qfd h1 r2 v3) ([],0)).bind (fun o4 =>
 some o4)
def qb8 (h1:Hypergraph) (p2:List Arr2_int64) (r3:List Int) (r4:List Int) (r5:Hypergraph→(List Arr2_int64)→(List Int)→(List Int)→Option (Bool)):Int→Option (LS (Int) ((Unit) ⊕ (Bool))):=fun i6 =>
 if i6 < (r3.length:Int) then
 (idx r3 i6).bind fun (x7:Int) =>
 (qi9 r4 x7).bind fun (r8:Bool) =>
 if r8=true then
 (qid p2 r3 x7).bind fun (r9:Bool) =>
 if r9=true then
 (qhk h1 r3 x7).bind fun (r10:List Int) =>
 (r5 h1 p2 r10 r4).bind fun (r11:Bool) =>
 if r11=true then
 some (.done (.inr true))
 else
 some (.next (vz8.wrap (i6+1)))
 else
 some (.next (vz8.wrap (i6+1)))
 else
 some (.next (vz8.wrap (i6+1)))
 else
 some (.done (.inl ()))
def qe2 (r1:Hypergraph→(List Arr2_int64)→(List Int)→(List Int)→Option (Bool)) (h2:Hypergraph) (p3:List Arr2_int64) (r4:List Int) (r5:List Int):Option (Bool) :=
 if ((r4.length:Int) == 0)=true then
 some true
 else
 (qaj (qb8 h2 p3 r4 r5 r1) 0).bind (fun o=>match o with
 | .inl () =>
 some false
 | .inr r6 =>
 some r6)
def qce:Nat→Hypergraph→(List Arr2_int64)→(List Int)→(List Int)→Option (Bool)
 | 0,_,_,_,_=>none
 | n+1,h1,p2,r3,r4=>qe2 (qce n) h1 p2 r3 r4
def qny (h1:Hypergraph) (p2:List Arr2_int64) (r3:List Int) (r4:List Int):Option (Bool):=qce 64 h1 p2 r3 r4
def qfe (h1:Hypergraph):(List Int×Int)→Option (LS (List Int×Int) (List Int)):=fun (o2,i3) =>
 if i3 < (h1.Vertices.length:Int) then
 (idx h1.Vertices i3).bind fun (x4:Int) =>
 (qgx h1 [x4]).bind fun (r5:Bool) =>
 if r5=true then
 some (.next (o2,(vz8.wrap (i3+1))))
 else
 if qcm (o2.length+1) 8=true then
 some (.next ((o2++[x4]),(vz8.wrap (i3+1))))
 else none
 else
 some (.done o2)
def qhl (h1:Hypergraph):Option (List Int) :=
 (qaj (qfe h1) ([],0)).bind (fun o2 =>
 some o2)
def qdd (h1:Hypergraph) (p2:List Arr2_int64) (r3:List Int):Option (Bool) :=
 (qhl h1).bind fun (r4:List Int) =>
 (qny h1 p2 r4 r3).bind fun (r5:Bool) =>
 some r5
def qcq (m1:List Int) (c2:List Int):Option (Bool) :=
 (qc2 c2 m1).bind fun (r3:Bool) =>
 some r3
def qdm (h1:Hypergraph) (l2:List Int):Option (Bool) :=
 (qc9 l2).bind fun (r3:Bool) =>
 if r3=true then
 (qc2 h1.Vertices l2).bind fun (r4:Bool) =>
 if r4=true then
 (qa6 h1.Edges (fun (y5:List Int)=>qcq y5 l2)).bind fun (r6:Bool) =>
 some (!r6)
 else
 some false
 else
 some false
def qff (h1:Hypergraph) (l2:List Int):Int→Option (LS (Int) ((Unit) ⊕ (Bool))):=fun t3 =>
 if t3 < (h1.Vertices.length:Int) then
 (idx h1.Vertices t3).bind fun (x4:Int) =>
 (qax l2 x4).bind fun (r5:Int×Bool) =>
 if r5.2=true then
 some (.next (vz8.wrap (t3+1)))
 else
 if l2.length≤1000000000 then
 if (0:Int)≤r5.1 then
 if r5.1≤((l2.length:Nat):Int) then
 (qdm h1 (qpu l2 r5.1.toNat x4)).bind fun (r6:Bool) =>
 if r6=true then
 some (.done (.inr false))
 else
 some (.next (vz8.wrap (t3+1)))
 else none
 else none
 else none
 else
 some (.done (.inl ()))
def qfw (h1:Hypergraph) (l2:List Int):Option (Bool) :=
 (qdm h1 l2).bind fun (r3:Bool) =>
 if r3=true then
 (qaj (qff h1 l2) 0).bind (fun o=>match o with
 | .inl () =>
 some true
 | .inr r4 =>
 some r4)
 else
 some false
def qim (h1:Hypergraph) (p2:List Arr2_int64) (r3:List Int) (s4:List Int):Option (Option Priority_game×Int×Int×Int) :=
 (qgc h1 p2).bind fun (r5:Option Priority_game×Int) =>
 if (r5.2 != 0)=true then
 some (none,0,0,r5.2)
 else
 (qfw h1 r3).bind fun (r6:Bool) =>
 if r6=true then
 (qfw h1 s4).bind fun (r7:Bool) =>
 if r7=true then
 (r5.1).bind fun (g8:Priority_game) =>
 (qdp g8 r3).bind fun (r9:Int) =>
 (qdp g8 s4).bind fun (r10:Int) =>
 some ((some g8),r9,r10,0)
 else
 some (none,0,0,1)
 else
 some (none,0,0,1)
def qc5 (h1:Hypergraph) (p2:List Arr2_int64) (r3:List Int):Option (Bool×Int) :=
 (qim h1 p2 r3 r3).bind fun (r4:Option Priority_game×Int×Int×Int) =>
 if (r4.2.2.2 != 0)=true then
 some (false,r4.2.2.2)
 else
 (r4.1).bind fun (g5:Priority_game) =>
 (qc4 g5 r4.2.1).bind fun (r6:Int×Bool) =>
 some (r6.2,0)
def qb1 (g1:Priority_game):(Int×Int)→Option (LS (Int×Int) (Int)):=fun (b2,x3) =>
 if x3 > 0 then
 (qa7 x3).bind fun (r4:Int) =>
 (idx g1.above r4).bind fun (x5:Int) =>
 some (.next ((v0a.wrap ((BitVec.ofInt 16 b2 &&& (BitVec.ofInt 16 x5)).toNat:Int)),(v0a.wrap ((BitVec.ofInt 16 x3 &&& (BitVec.ofInt 16 (v0a.wrap (x3 - 1)))).toNat:Int))))
 else
 some (.done b2)
def qck (g1:Priority_game) (r2:Int) (s3:Int):Option (Bool) :=
 (qaj (qb1 g1) ((v0a.wrap ((BitVec.ofInt 16 s3 &&& ~~~ (BitVec.ofInt 16 r2)).toNat:Int)),(v0a.wrap ((BitVec.ofInt 16 r2 &&& ~~~ (BitVec.ofInt 16 s3)).toNat:Int)))).bind (fun b4 =>
 some (b4 != 0))
def qgy (h1:Hypergraph) (p2:List Arr2_int64) (r3:List Int):Option (List Int×Bool×Int) :=
 (qim h1 p2 r3 r3).bind fun (r4:Option Priority_game×Int×Int×Int) =>
 if (r4.2.2.2 != 0)=true then
 some ([],false,r4.2.2.2)
 else
 (r4.1).bind fun (g5:Priority_game) =>
 (qcp g5 r4.2.1 (fun (y6:Int) (y7:Int)=>qck g5 y6 y7)).bind fun (r8:List Int×Bool) =>
 some (r8.1,r8.2,0)
def qbd (r1:List Int) (r2:Hypergraph×Int):(List Arr2_int64×Int)→Option (LS (List Arr2_int64×Int) (List Arr2_int64)):=fun (p3,t4) =>
 if t4 < (r2.1.Edges.length:Int) then
 (idx r2.1.Edges t4).bind fun (x5:List Int) =>
 (x5[0]?).bind fun (x6:Int) =>
 (qe8 r2.1 r1 x6).bind fun (r7:Int) =>
 (x5[1]?).bind fun (x8:Int) =>
 (qe8 r2.1 r1 x8).bind fun (r9:Int) =>
 if r7 < r9 then
 if qcm (p3.length+1) 16=true then
 if r9 < r7 then
 if qcm ((p3.length+1)+1) 16=true then
 some (.next (((p3++[(Arr2_int64.mk x6 x8)])++[(Arr2_int64.mk x8 x6)]),(vz8.wrap (t4+1))))
 else none
 else
 some (.next ((p3++[(Arr2_int64.mk x6 x8)]),(vz8.wrap (t4+1))))
 else none
 else
 if r9 < r7 then
 if qcm (p3.length+1) 16=true then
 some (.next ((p3++[(Arr2_int64.mk x8 x6)]),(vz8.wrap (t4+1))))
 else none
 else
 some (.next (p3,(vz8.wrap (t4+1))))
 else
 some (.done p3)
def qb7 (r1:List (List Int)×Int) (x2:List Int):(Bool×Int)→Option (LS (Bool×Int) (Bool)):=fun (g3,t4) =>
 if t4 < (r1.1.length:Int) then
 (idx r1.1 t4).bind fun (x5:List Int) =>
 if g3=true then
 some (.next (true,(vz8.wrap (t4+1))))
 else
 (qgd x2 x5).bind fun (r6:Bool) =>
 some (.next (r6,(vz8.wrap (t4+1))))
 else
 some (.done g3)
def qct (r1:Hypergraph×Int) (r2:List (List Int)×Int) (p3:List Arr2_int64) (r4:List (List Int)×Int):Int→Option (LS (Int) ((Unit) ⊕ (Bool))):=fun t5 =>
 if t5 < (r2.1.length:Int) then
 (idx r2.1 t5).bind fun (x6:List Int) =>
 (qaj (qb7 r4 x6) (false,0)).bind (fun g7 =>
 (qc5 r1.1 p3 x6).bind fun (r8:Bool×Int) =>
 (qgy r1.1 p3 x6).bind fun (r9:List Int×Bool×Int) =>
 if (r8.2 != 0)=true then
 some (.done (.inr false))
 else
 if (r9.2.2 != 0)=true then
 some (.done (.inr false))
 else
 if r8.1=true then
 if g7=true then
 if r9.2.1=true then
 some (.next (vz8.wrap (t5+1)))
 else
 some (.done (.inr false))
 else
 some (.done (.inr false))
 else
 if g7=true then
 if r9.2.1=true then
 some (.next (vz8.wrap (t5+1)))
 else
 some (.done (.inr false))
 else
 some (.next (vz8.wrap (t5+1))))
 else
 some (.done (.inl ()))
def qfi (x1:Drossref03_Recipe) (d2:List Drossref09_Dep) (r3:List Int):Option (Bool) :=
 (qee x1 6).bind fun (r4:Table×Bool) =>
 (show Option (Bool) from
 (qhe ).bind fun (r5:Bool) =>
 if r5=true then
 if r4.2=true then
 some (decide ((d2.length:Int) > 3))
 else
 some true
 else
 some true).bind (fun t6 =>
 if t6=true then
 (qhe ).bind fun (r7:Bool) =>
 some r7
 else
 (qib (r4.1.Attrs.length:Int) d2).bind fun (r8:List FD) =>
 (qi5 r8).bind fun (r9:List Constraint) =>
 (qi4 r4.1 r9).bind fun (r10:Hypergraph×Int) =>
 (qf8 r10.1 1000).bind fun (r11:List (List Int)×Int) =>
 if (r10.2 != 0)=true then
 some false
 else
 if (r11.2 != 0)=true then
 some false
 else
 (qaj (qbd r3 r10) ([],0)).bind (fun p12 =>
 (qfv r10.1 p12).bind fun (r13:List (List Int)×Int) =>
 (qic r10.1 p12).bind fun (r14:List Int×Int) =>
 (qfv r10.1 []).bind fun (r15:List (List Int)×Int) =>
 if (r13.2 != 0)=true then
 some false
 else
 if (r14.2 != 0)=true then
 some false
 else
 if (r15.2 != 0)=true then
 some false
 else
 (qhj r15.1 r11.1).bind fun (r16:Bool) =>
 if r16=true then
 (qdd r10.1 p12 r14.1).bind fun (r17:Bool) =>
 if r17=true then
 (qaj (qct r10 r11 p12 r13) 0).bind (fun o=>match o with
 | .inl () =>
 some true
 | .inr r18 =>
 some r18)
 else
 some false
 else
 some false))
end Go.Proofs.YtpealiejioeonaaGreatDoor
namespace Go.Ab
open Go
def q4h {α β τ:Type} (f:β→α→β ⊕ τ) (fin:β→τ):List α→β→τ
 | [],b=>fin b
 | x :: r,b=>match f b x with
  | .inl b'=>q4h f fin r b'
  | .inr t=>t
theorem q7d {α β σ τ:Type} (l:List α) (S:β→Int→σ) (B:σ→Option (LS σ τ)) (f:β→α→β ⊕ τ) (fin:β→τ) (I:Nat→β→Prop)
  (hs:∀(k:Nat) b x,l[k]?=some x→I k b→(∀b',f b x=.inl b'→B (S b k)=some (.next (S b' (k+1:Nat)))∧I (k+1) b')∧(∀t,f b x=.inr t→B (S b k)=some (.done t)))
  (he:∀b,I l.length b→B (S b l.length)=some (.done (fin b))) :
  ∀(r:List α) (k:Nat) (b:β),l.drop k=r→k≤l.length→I k b→qaj B (S b k)=some (q4h f fin r b):=by
 intro r
 induction r with
 | nil =>
  intro k b hd hk hI;have:k=l.length:=by
   have:=congrArg v2m hd;simp at this;omega
  subst this;exact qam (he b hI)
 | cons x r ih =>
  intro k b hd hk hI;have hx:l[k]?=some x:=by
   have:=congrArg (·[0]?) hd;simpa [vx3] using this
  have hlt:k < l.length:=(List.getElem?_eq_some_iff.1 hx).1;have hd':l.drop (k+1)=r:=by
   rw [←v2k,hd];rfl
  obtain⟨h1,h2⟩:=hs k b x hx hI;cases hf:f b x with
  | inl b' =>
   obtain⟨h3,h4⟩:=h1 b' hf;rw [qa1 h3,ih (k+1) b' hd' hlt h4];simp [q4h,hf]
  | inr t =>
   rw [qam (h2 t hf)];simp [q4h,hf]
theorem q0n {α β σ τ:Type} (l:List α) (S:β→Int→σ) (B:σ→Option (LS σ τ)) (f:β→α→β ⊕ τ) (fin:β→τ) (I:Nat→β→Prop) {b0:β} {s0:σ} (h0:s0=S b0 0) (hI:I 0 b0)
  (hs:∀(k:Nat) b x,l[k]?=some x→k < l.length→I k b→(∀b',f b x=.inl b'→B (S b k)=some (.next (S b' (k+1:Nat)))∧I (k+1) b')∧(∀t,f b x=.inr t→B (S b k)=some (.done t)))
  (he:∀b,I l.length b→B (S b l.length)=some (.done (fin b))):qaj B s0=some (q4h f fin l b0):=by
 subst h0;exact q7d l S B f fin I (fun k b x hx=>hs k b x hx (qb9 hx)) he l 0 b0 rfl (Nat.zero_le _) hI
theorem qcu {k n:Nat} (h:k < n) (hn:n≤4611686018427387904):vz8.wrap ((k:Int)+1)=((k+1:Nat):Int):=by
 rw [wrap_i64 (by omega) (by omega)];omega
theorem qg9 {k:Nat} (h:k < 4611686018427387904):vz8.wrap ((k:Int)+1)=((k+1:Nat):Int):=by
 rw [wrap_i64 (by omega) (by omega)];omega
theorem wqn (k:Nat) (h:k < 4611686018427387904:=by omega):vz8.wrap ((k:Int)+1)=((k+1:Nat):Int):=qg9 h
theorem qeh {n b:Nat} (h:n≤1073741824) (hb:b≤65536):qcm n b=true:=by
 unfold qcm;have:n * b≤1073741824 * 65536:=Nat.mul_le_mul h hb;simp only [decide_eq_true_eq];omega
theorem RLE (n b:Nat) (h:n≤1073741824:=by omega) (hb:b≤65536:=by omega):qcm n b=true:=qeh h hb
theorem qaf {α:Type} {l:List α} {k:Nat} {x:α} (h:l[k]?=some x):idx l (k:Int)=some x:=by rw [q6k,h]
theorem qah {α:Type} {l:List α} {k:Nat} {x:α} (h:l[k]?=some x):((k:Int) < (l.length:Int)):=by have:=qb9 h;omega
theorem q4i {α β τ:Type} (g:β→α→β) (fin:β→τ):∀(l:List α) (b:β),q4h (fun b x=>(Sum.inl (g b x):β ⊕ τ)) fin l b=fin (l.foldl g b)
 | [],_=>rfl
 | x :: r,b=>by simp only [q4h,List.foldl_cons];exact q4i g fin r _
theorem qfg {α ρ:Type} (l:List α) (B:Int→Option (LS Int (Unit ⊕ ρ))) (p:α→Bool) (bad:ρ)
  (h1:∀(k:Nat) x,l[k]?=some x→k < l.length→p x=true→B k=some (.next (k+1:Nat))) (h2:∀(k:Nat) x,l[k]?=some x→p x=false→B k=some (.done (.inr bad))) (h3:B l.length=some (.done (.inl ()))) :
  qaj B 0=some (if l.all p then .inl () else .inr bad):=by
 have h:=q0n l (fun (_:Unit) i=>i) B (fun (_:Unit) x=>if p x then Sum.inl () else Sum.inr (Sum.inr bad)) (fun _=>Sum.inl ()) (fun _ _=>True) (b0:=()) (s0:=0) rfl trivial
  (fun k b x hx hk _=>by
   constructor
   ·intro b' hf;refine⟨?_,trivial⟩;rcases v2g (p x) with hp | hp
    ·exact h1 k x hx hk hp
    ·simp [hp] at hf
   ·intro t hf;rcases v2g (p x) with hp | hp
    ·simp [hp] at hf
    ·simp [hp] at hf;subst hf;exact h2 k x hx hp)
  (fun b _=>h3)
 rw [h];congr 1;clear h h1 h2 h3
 induction l with
 | nil=>rfl
 | cons x r ih=>rcases v2g (p x) with hp | hp <;> simp [q4h,hp,ih]
theorem qhr {α:Type} (l:List α) (B:Int→Option (LS Int (Unit ⊕ Int))) (p:α→Bool)
  (h1:∀(k:Nat) x,l[k]?=some x→k < l.length→p x=false→B k=some (.next (k+1:Nat))) (h2:∀(k:Nat) x,l[k]?=some x→p x=true→B k=some (.done (.inr k))) (h3:B l.length=some (.done (.inl ()))) :
  qaj B 0=some (match l.findIdx? p with | some i=>.inr (i:Int) | none=>.inl ()):=by
 have key:∀(r:List α) (k:Nat),l.drop k=r→k≤l.length→qaj B (k:Int)=some (match r.findIdx? p with | some i=>.inr ((k+i:Nat):Int) | none=>.inl ()):=by
  intro r
  induction r with
  | nil =>
   intro k hd hk;have:k=l.length:=by
    have:=congrArg v2m hd;simp at this;omega
   subst this;exact qam h3
  | cons x r ih =>
   intro k hd hk;have hx:l[k]?=some x:=by
    have:=congrArg (·[0]?) hd;simpa [vx3] using this
   have hd':l.drop (k+1)=r:=by rw [←v2k,hd];rfl
   rcases v2g (p x) with hp | hp
   ·rw [qam (h2 k x hx hp)];simp [v2l,hp]
   ·rw [qa1 (h1 k x hx (qb9 hx) hp),ih (k+1) hd' (qb9 hx)];simp only [v2l,hp];cases r.findIdx? p with
    | none=>rfl
    | some i=>simp;omega
 have:=key l 0 (by simp) (Nat.zero_le _);simpa using this
theorem qcl {α β σ τ:Type} (l:List α) (S:β→Int→σ) (B:σ→Option (LS σ τ)) (g:β→α→β) (fin:β→τ) (I:Nat→β→Prop) {b0:β} {s0:σ} (h0:s0=S b0 0) (hI:I 0 b0)
  (hs:∀(k:Nat) b x,l[k]?=some x→k < l.length→I k b→B (S b k)=some (.next (S (g b x) (k+1:Nat)))∧I (k+1) (g b x))
  (he:∀b,I l.length b→B (S b l.length)=some (.done (fin b))):qaj B s0=some (fin (l.foldl g b0)):=by
 rw [q0n l S B (fun b x=>Sum.inl (g b x)) fin I h0 hI (fun k b x hx hk hi=>⟨fun b' hb=>by cases hb;exact hs k b x hx hk hi,fun t ht=>by cases ht⟩) he,q4i]
def okI (k:IntKind) (n:Int):Prop:=(Lit.int k n).wf=true
def okS (s:List UInt8):Prop:=s.length≤1048576
def okL {α:Type} (ok:α→Prop) (l:List α):Prop:=l.length≤1048576∧∀x∈l,ok x
def qie {α:Type} (p:Nat→α→Bool):Nat→List α→Bool
 | _,[]=>true
 | k,x :: r=>p k x && qie p (k+1) r
theorem qvh {α ρ:Type} (l:List α) (B:Int→Option (LS Int (Unit ⊕ ρ))) (p:Nat→α→Bool) (bad:ρ)
  (h1:∀(k:Nat) x,l[k]?=some x→k < l.length→p k x=true→B k=some (.next (k+1:Nat))) (h2:∀(k:Nat) x,l[k]?=some x→p k x=false→B k=some (.done (.inr bad))) (h3:B l.length=some (.done (.inl ()))) :
  ∀(r:List α) (k:Nat),l.drop k=r→k≤l.length→qaj B (k:Int)=some (if qie p k r then .inl () else .inr bad):=by
 intro r
 induction r with
 | nil =>
  intro k hd hk;have:k=l.length:=by
   have:=congrArg v2m hd;simp at this;omega
  subst this;exact qam h3
 | cons x r ih =>
  intro k hd hk;have hx:l[k]?=some x:=by
   have:=congrArg (·[0]?) hd;simpa [vx3] using this
  have hd':l.drop (k+1)=r:=by rw [←v2k,hd];rfl
  rcases v2g (p k x) with hp | hp
  ·rw [qa1 (h1 k x hx (qb9 hx) hp),ih (k+1) hd' (qb9 hx)];simp [qie,hp]
  ·rw [qam (h2 k x hx hp)];simp [qie,hp]
theorem qyc {α:Type} (q:α→Bool):∀(l:List α) (k:Nat),qie (fun _ x=>q x) k l=l.all q
 | [],_=>rfl
 | x :: r,k=>by simp [qie,qyc q r]
theorem qt5 {α:Type} {p q:Nat→α→Bool}:∀(l:List α) (k:Nat),(∀j x,k≤j→x∈l→p j x=q j x)→qie p k l=qie q k l
 | [],_,_=>rfl
 | x :: r,k,h=>by
  simp only [qie];rw [h k x (Nat.le_refl _) (by simp),qt5 r (k+1) (fun j y hj hy=>h j y (by omega) (by simp [hy]))]
theorem qt6 {n:Nat} (h:n≤17592186044416):qcm n 8=true:=by
 unfold qcm;simp only [decide_eq_true_eq];omega
end Go.Ab
namespace Go.Proofs.YtpealiejioeonaaGreatDoor
open Go Go.Ab
def vfx (x:Value):Prop:=(okI .i64) x.Kind∧(okI .i64) x.Num∧okS x.Str
def qha (x:Drossref03_Recipe):Prop:=(okI .u8) x.Attrs∧(okI .u8) x.Gap∧(okL (okL (okI .u8))) x.Rows
def okRow (x:Row):Prop:=(okI .i64) x.ID∧(okL vfx) x.Values
def qs0 (x:Table):Prop:=okS x.Name∧(okL okS) x.Attrs∧(okL okRow) x.Rows
def qhm (x:Drossref09_Dep):Prop:=(okI .u8) x.L∧(okI .u8) x.R
end Go.Proofs.YtpealiejioeonaaGreatDoor

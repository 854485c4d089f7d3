/- The Lean functions that the program's functions are lifted to, and the plain laws about them. -/
import Derived.Test.YtfnmcjkkfnhpnaaGreatDoorA2
import Derived.Test.YtfnmcjkkfnhpnaaGreatDoorA3
set_option linter.unusedVariables false
set_option linter.unusedSimpArgs false
open Bool renaming eq_false_or_eq_true→vt8
open Int renaming fdiv→vt9,tmod→vua
open Go.IntKind renaming i64→vsg,u32→vsi,u64→vub
open List renaming drop_drop→vuc,findIdx?_cons→vud,getElem?_drop→vqc,length→vue,replicate→vq5
noncomputable section
namespace Go.Proofs.YtfnmcjkkfnhpnaaGreatDoor
open Go Go.Ab
structure Value where
 Kind:Int
 Num:Int
 Str:List UInt8
 deriving DecidableEq
structure Drossref03_Recipe where
 Attrs:Int
 Gap:Int
 Rows:List (List Int)
 deriving DecidableEq
structure Row where
 ID:Int
 Values:List Value
 deriving DecidableEq
structure Table where
 Name:List UInt8
 Attrs:List (List UInt8)
 Rows:List Row
 deriving DecidableEq
structure Drossref16_Draft where
 Lhs:Int
 Rhs:Int
 Codes:List Int
 deriving DecidableEq
structure Cell where
 Any:Bool
 Value:Value
 deriving DecidableEq
structure CFD where
 Lhs:List Int
 Rhs:Int
 Pattern:List Cell
 deriving DecidableEq
structure Drossref17_Lists where
 X:List Int
 Y:List Int
 deriving DecidableEq
structure OD where
 Lhs:List Int
 Rhs:List Int
 deriving DecidableEq
structure Drossref18_Side where
 Var:Int
 Code:Int
 deriving DecidableEq
structure Term where
 Var:Int
 Attr:Int
 Value:Value
 deriving DecidableEq
structure Drossref18_Sentence where
 Left:Drossref18_Side
 Op:Int
 Right:Drossref18_Side
 deriving DecidableEq
structure Drossref18_Recipe where
 Vars:Int
 Atoms:List Drossref18_Sentence
 deriving DecidableEq
structure Atom where
 Left:Term
 Op:Int
 Right:Term
 deriving DecidableEq
structure Denial where
 Vars:Int
 Atoms:List Atom
 deriving DecidableEq
structure Drossref09_Dep where
 L:Int
 R:Int
 deriving DecidableEq
structure FD where
 Lhs:Int
 Rhs:Int
 deriving DecidableEq
structure Drossref37_Rule where
 Kind:Int
 F:Drossref09_Dep
 C:Drossref16_Draft
 O:Drossref17_Lists
 N:Drossref18_Recipe
 deriving DecidableEq
structure IND where
 From:List UInt8
 Lhs:List Int
 To:List UInt8
 Rhs:List Int
 deriving DecidableEq
structure Constraint where
 Name:List UInt8
 Table:List UInt8
 Kind:Int
 FD:FD
 MVD:YtfnmcjkkfnhpnaaGreatDoor.FD
 IND:IND
 CFD:CFD
 OD:OD
 Denial:Denial
 deriving DecidableEq
structure Drossref41_Case where
 T:Drossref03_Recipe
 Rules:List Drossref37_Rule
 Weights:List Int
 deriving DecidableEq
structure Arr3_int64 where
 x0:Int
 x1:Int
 x2:Int
 deriving DecidableEq
structure Hypergraph where
 Vertices:List Int
 Edges:List (List Int)
 deriving DecidableEq
def qch (code_1:Int):Option (Value) :=
 if ((vua code_1 12) == 0)=true then
 some (Value.mk 1 0 [])
 else
 if ((vua code_1 12) == 1)=true then
 some (Value.mk 1 1 [])
 else
 if ((vua code_1 12) == 2)=true then
 some (Value.mk 1 2 [])
 else
 if ((vua code_1 12) == 3)=true then
 some (Value.mk 0 0 [])
 else
 if ((vua code_1 12) == 4)=true then
 some (Value.mk 2 0 [97])
 else
 if ((vua code_1 12) == 5)=true then
 some (Value.mk 2 0 [98])
 else
 if ((vua code_1 12) == 6)=true then
 some (Value.mk 2 0 [])
 else
 if ((vua code_1 12) == 7)=true then
 some (Value.mk 3 1 [])
 else
 if ((vua code_1 12) == 8)=true then
 some (Value.mk 1 (-1) [])
 else
 if ((vua code_1 12) == 9)=true then
 some (Value.mk 2 0 [97,98])
 else
 if ((vua code_1 12) == 10)=true then
 some (Value.mk 3 2 [])
 else
 some (Value.mk 1 7 [])
def qeq (x_14:Drossref03_Recipe) (n_15:Int) (i_77:Int):(List Value×Int)→Option (LS (List Value×Int) (List Value)):=fun (r1,k2) =>
 if k2 < n_15 then
 (idx x_14.Rows i_77).bind fun (x3:List Int) =>
 if k2 < (x3.length:Int) then
 (idx x3 k2).bind fun (x4:Int) =>
 (qch x4).bind fun (r5:Value) =>
 if qdi (r1.length+1) 32=true then
 some (.next ((r1++[r5]),(vsg.wrap (k2+1))))
 else none
 else
 (qch 0).bind fun (r6:Value) =>
 if qdi (r1.length+1) 32=true then
 some (.next ((r1++[r6]),(vsg.wrap (k2+1))))
 else none
 else
 some (.done r1)
def qer (x_14:Drossref03_Recipe) (n_15:Int):(List Row×Int)→Option (LS (List Row×Int) (List Row)):=fun (t_76,i_77) =>
 if i_77 < (x_14.Rows.length:Int) then
 (qal (qeq x_14 n_15 i_77) ([],0)).bind (fun r1 =>
 if qdi (t_76.length+1) 32=true then
 some (.next ((t_76++[(Row.mk (vsg.wrap (1+(vsg.wrap (i_77 * (vsg.wrap (1+(vsg.wrap (vua x_14.Gap 3)))))))) r1)]),(vsg.wrap (i_77+1))))
 else none)
 else
 some (.done t_76)
def qgp (x_14:Drossref03_Recipe) (n_15:Int):Option (Table) :=
 if (0:Int)≤n_15 then
 if n_15≤8 then
 (some ([[97],[98],[99],[100],[101],[102],[103],[104]]:List (List UInt8))).bind fun (l_23:List (List UInt8)) =>
 if qdi ((l_23.take n_15.toNat).length) 16=true then
 (qal (qer x_14 n_15) ([],0)).bind (fun t1 =>
 some (Table.mk [114] (l_23.take n_15.toNat) t1))
 else none
 else none
 else none
def qdt (x1:Drossref03_Recipe) (m2:Int):Option (Table×Bool) :=
 if (x1.Rows.length:Int) > m2 then
 some ((Table.mk [] [] []),false)
 else
 (qgp x1 (vsg.wrap (vua x1.Attrs 6))).bind fun (r3:Table) =>
 some (r3,true)
def qgb (s1:Int) (i2:Int):Option (Bool) :=
 if i2≥0 then
 if i2 < 32 then
 if i2 < 0 then none else
 some ((vsi.wrap ((BitVec.ofInt 32 (vt9 s1 (2 ^ (min (i2).toNat 32))) &&& (1#32)).toNat:Int)) == 1)
 else
 some false
 else
 some false
def qf1 (n1:Int) (d2:Drossref16_Draft):(List Int×Int)→Option (LS (List Int×Int) (List Int)):=fun (c3,a4) =>
 if a4 < n1 then
 (show Option (Bool) from
 (qgb (vsi.wrap d2.Lhs) a4).bind fun (r5:Bool) =>
 if r5=true then
 some (a4 != (vua (vsg.wrap d2.Rhs) n1))
 else
 some false).bind (fun t6 =>
 if t6=true then
 if qdi (c3.length+1) 8=true then
 some (.next ((c3++[a4]),(vsg.wrap (a4+1))))
 else none
 else
 some (.next (c3,(vsg.wrap (a4+1)))))
 else
 some (.done c3)
def qf2 (d1:Drossref16_Draft) (c2:List Int):(List Cell×Int)→Option (LS (List Cell×Int) (List Cell)):=fun (c3,k4) =>
 if k4≤((c2.length:Nat):Int) then
 (show Option (Bool) from
 if k4≥(d1.Codes.length:Int) then
 some true
 else
 (idx d1.Codes k4).bind fun (x5:Int) =>
 some ((vua x5 2) == 0)).bind (fun t6 =>
 if t6=true then
 if qdi (c3.length+1) 40=true then
 some (.next ((c3++[(Cell.mk true (Value.mk 0 0 []))]),(vsg.wrap (k4+1))))
 else none
 else
 (idx d1.Codes k4).bind fun (x7:Int) =>
 (qch (vua (IntKind.u8.wrap (Int.tdiv x7 2)) 3)).bind fun (r8:Value) =>
 if qdi (c3.length+1) 40=true then
 some (.next ((c3++[(Cell.mk false r8)]),(vsg.wrap (k4+1))))
 else none)
 else
 some (.done c3)
def qh5 (n1:Int) (d2:Drossref16_Draft):Option (CFD) :=
 if n1=0 then none else
 (qal (qf1 n1 d2) ([],0)).bind (fun c3 =>
 (qal (qf2 d2 c3) ([],0)).bind (fun c4 =>
 some (CFD.mk c3 (vua (vsg.wrap d2.Rhs) n1) c4)))
def qbu (n1:Int) (l2:List Int):(List Int×Int)→Option (LS (List Int×Int) (List Int)):=fun (o3,i4) =>
 if i4 < (l2.length:Int) then
 if i4 < 5 then
 if n1 > 0 then
 (idx l2 i4).bind fun (x5:Int) =>
 if n1=0 then none else
 if qdi (o3.length+1) 8=true then
 some (.next ((o3++[(vua (vsg.wrap x5) n1)]),(vsg.wrap (i4+1))))
 else none
 else
 some (.done o3)
 else
 some (.done o3)
 else
 some (.done o3)
def qcs (n1:Int) (l2:List Int):Option (List Int) :=
 (qal (qbu n1 l2) ([],0)).bind (fun o3 =>
 some o3)
def qh6 (n1:Int) (x2:Drossref17_Lists):Option (OD) :=
 (qcs n1 x2.X).bind fun (r3:List Int) =>
 (qcs n1 x2.Y).bind fun (r4:List Int) =>
 some (OD.mk r3 r4)
def qfb (n1:Int) (v2:Int) (s3:Drossref18_Side):Option (Term) :=
 if (vsg.wrap (v2+1))=0 then none else
 (show Option (Bool) from
 if ((vua (vsg.wrap s3.Var) (vsg.wrap (v2+1))) == 0)=true then
 some true
 else
 some (n1 == 0)).bind (fun t4 =>
 if t4=true then
 (qch s3.Code).bind fun (r5:Value) =>
 some (Term.mk 0 0 r5)
 else
 if n1=0 then none else
 some (Term.mk (vua (vsg.wrap s3.Var) (vsg.wrap (v2+1))) (vua (vsg.wrap s3.Code) n1) (Value.mk 0 0 [])))
def qf3 (n1:Int) (r2:Drossref18_Recipe):(List Atom×Int)→Option (LS (List Atom×Int) (List Atom)):=fun (d3,i4) =>
 if i4 < (r2.Atoms.length:Int) then
 (idx r2.Atoms i4).bind fun (x5:Drossref18_Sentence) =>
 (qfb n1 (vsg.wrap (1+(vsg.wrap (vua r2.Vars 3)))) x5.Left).bind fun (r6:Term) =>
 (qfb n1 (vsg.wrap (1+(vsg.wrap (vua r2.Vars 3)))) x5.Right).bind fun (r7:Term) =>
 if qdi (d3.length+1) 104=true then
 some (.next ((d3++[(Atom.mk r6 (vsg.wrap (1+(vsg.wrap (vua x5.Op 4)))) r7)]),(vsg.wrap (i4+1))))
 else none
 else
 some (.done d3)
def qh7 (n1:Int) (r2:Drossref18_Recipe):Option (Denial×Bool) :=
 (qal (qf3 n1 r2) ([],0)).bind (fun d3 =>
 some ((Denial.mk (vsg.wrap (1+(vsg.wrap (vua r2.Vars 3)))) d3),(decide ((r2.Atoms.length:Int)≤5))))
def qes (n1:Int):(Int×Int)→Option (LS (Int×Int) (Int)):=fun (s2,i3) =>
 if i3 < n1 then
 if i3 < 32 then
 if i3 < 0 then none else
 some (.next ((vsi.wrap ((BitVec.ofInt 32 s2 ||| (BitVec.ofInt 32 (vsi.wrap (1 * 2 ^ (min (i3).toNat 32))))).toNat:Int)),(vsg.wrap (i3+1))))
 else
 some (.done s2)
 else
 some (.done s2)
def qfc (n1:Int):Option (Int) :=
 (qal (qes n1) (0,0)).bind (fun s2 =>
 some s2)
def qgh (l1:List Drossref09_Dep) (r2:Int):(List FD×Int)→Option (LS (List FD×Int) (List FD)):=fun (o3,i4) =>
 if i4 < (l1.length:Int) then
 (idx l1 i4).bind fun (x5:Drossref09_Dep) =>
 if qdi (o3.length+1) 8=true then
 some (.next ((o3++[(FD.mk (vsi.wrap ((BitVec.ofInt 32 (vsi.wrap x5.L) &&& (BitVec.ofInt 32 r2)).toNat:Int)) (vsi.wrap ((BitVec.ofInt 32 (vsi.wrap x5.R) &&& (BitVec.ofInt 32 r2)).toNat:Int)))]),(vsg.wrap (i4+1))))
 else none
 else
 some (.done o3)
def qfd (n1:Int) (l2:List Drossref09_Dep):Option (List FD) :=
 (qfc n1).bind fun (r3:Int) =>
 (qal (qgh l2 r3) ([],0)).bind (fun o4 =>
 some o4)
def qh8 (n1:Int) (x2:Drossref37_Rule):Option (Constraint×Bool) :=
 if ((vua x2.Kind 5) == 1)=true then
 if n1 > 0 then
 (qh5 n1 x2.C).bind fun (r3:CFD) =>
 some ((Constraint.mk [99] [114] 4 (FD.mk 0 0) (FD.mk 0 0) (IND.mk [] [] [] []) r3 (OD.mk [] []) (Denial.mk 0 [])),true)
 else
 (qfd n1 [x2.F]).bind fun (r4:List FD) =>
 (r4[0]?).bind fun (x5:FD) =>
 some ((Constraint.mk [99] [114] 1 x5 (FD.mk 0 0) (IND.mk [] [] [] []) (CFD.mk [] 0 []) (OD.mk [] []) (Denial.mk 0 [])),true)
 else
 if ((vua x2.Kind 5) == 2)=true then
 (qh6 n1 x2.O).bind fun (r6:OD) =>
 some ((Constraint.mk [99] [114] 5 (FD.mk 0 0) (FD.mk 0 0) (IND.mk [] [] [] []) (CFD.mk [] 0 []) r6 (Denial.mk 0 [])),true)
 else
 if ((vua x2.Kind 5) == 3)=true then
 (qh7 n1 x2.N).bind fun (r7:Denial×Bool) =>
 some ((Constraint.mk [99] [114] 6 (FD.mk 0 0) (FD.mk 0 0) (IND.mk [] [] [] []) (CFD.mk [] 0 []) (OD.mk [] []) r7.1),r7.2)
 else
 (qfd n1 [x2.F]).bind fun (r8:List FD) =>
 (r8[0]?).bind fun (x9:FD) =>
 some ((Constraint.mk [99] [114] 1 x9 (FD.mk 0 0) (IND.mk [] [] [] []) (CFD.mk [] 0 []) (OD.mk [] []) (Denial.mk 0 [])),true)
def qet (n1:Int) (l2:List Drossref37_Rule):(List Constraint×Int)→Option (LS (List Constraint×Int) ((List Constraint) ⊕ (List Constraint×Bool))):=fun (o3,i4) =>
 if i4 < (l2.length:Int) then
 (idx l2 i4).bind fun (x5:Drossref37_Rule) =>
 (qh8 n1 x5).bind fun (r6:Constraint×Bool) =>
 if r6.2=true then
 if qdi (o3.length+1) 272=true then
 some (.next ((o3++[r6.1]),(vsg.wrap (i4+1))))
 else none
 else
 some (.done (.inr ([],false)))
 else
 some (.done (.inl o3))
def qfe (n1:Int) (l2:List Drossref37_Rule):Option (List Constraint×Bool) :=
 (qal (qet n1 l2) ([],0)).bind (fun o=>match o with
 | .inl o3 =>
 some (o3,(decide ((l2.length:Int)≤4)))
 | .inr r4 =>
 some r4)
def qeh (c1:Drossref41_Case) (r2:Table×Bool):(List Int×Int)→Option (LS (List Int×Int) (List Int)):=fun (w3,i4) =>
 if i4 < (r2.1.Rows.length:Int) then
 if (c1.Weights.length:Int) > 0 then
 if (c1.Weights.length:Int)=0 then none else
 (idx c1.Weights (vua i4 (c1.Weights.length:Int))).bind fun (x5:Int) =>
 if qdi (w3.length+1) 8=true then
 some (.next ((w3++[(vsg.wrap (1+(vsg.wrap (vua x5 20))))]),(vsg.wrap (i4+1))))
 else none
 else
 some (.done w3)
 else
 some (.done w3)
def qh9 (c1:Drossref41_Case):Option (Table×List Constraint×List Int×Bool) :=
 (qdt c1.T 6).bind fun (r2:Table×Bool) =>
 (qfe (r2.1.Attrs.length:Int) c1.Rules).bind fun (r3:List Constraint×Bool) =>
 (qal (qeh c1 r2) ([],0)).bind (fun w4 =>
 if r2.2=true then
 some (r2.1,r3.1,w4,r3.2)
 else
 some (r2.1,r3.1,w4,false))
def qhi:Option Bool:=some true
def qeu (t1:Table) (m2:Int):(List Int×Int)→Option (LS (List Int×Int) (List Int)):=fun (o3,t4) =>
 if t4 < (t1.Rows.length:Int) then
 (idx t1.Rows t4).bind fun (x5:Row) =>
 if t4 < 0 then none else
 if ((vsg.wrap ((BitVec.ofInt 64 (vt9 m2 (2 ^ (min (t4).toNat 64))) &&& (1#64)).toNat:Int)) == 1)=true then
 if qdi (o3.length+1) 8=true then
 some (.next ((o3++[x5.ID]),(vsg.wrap (t4+1))))
 else none
 else
 some (.next (o3,(vsg.wrap (t4+1))))
 else
 some (.done o3)
def qd9 (t1:Table) (m2:Int):Option (List Int) :=
 (qal (qeu t1 m2) ([],0)).bind (fun o3 =>
 some o3)
def qff (s1:List UInt8):Int→Option (LS (Int) ((Unit) ⊕ (Bool))):=fun t2 =>
 if t2 < (s1.length:Int) then
 (idx s1 t2).bind fun (c3:UInt8) =>
 (show Option (Bool) from
 if ((c3.toNat:Nat):Int)≥97 then
 if ((c3.toNat:Nat):Int)≤122 then
 some true
 else
 if ((c3.toNat:Nat):Int)≥65 then
 if ((c3.toNat:Nat):Int)≤90 then
 some true
 else
 some (((c3.toNat:Nat):Int) == 95)
 else
 some (((c3.toNat:Nat):Int) == 95)
 else
 if ((c3.toNat:Nat):Int)≥65 then
 if ((c3.toNat:Nat):Int)≤90 then
 some true
 else
 some (((c3.toNat:Nat):Int) == 95)
 else
 some (((c3.toNat:Nat):Int) == 95)).bind (fun l4 =>
 if l4=true then
 some (.next (vsg.wrap (t2+1)))
 else
 if (t2 == 0)=true then
 some (.done (.inr false))
 else
 if ((c3.toNat:Nat):Int) < 48 then
 some (.done (.inr false))
 else
 if ((c3.toNat:Nat):Int) > 57 then
 some (.done (.inr false))
 else
 some (.next (vsg.wrap (t2+1))))
 else
 some (.done (.inl ()))
def qhr (s1:List UInt8):Option (Bool) :=
 if (s1 == [])=true then
 some false
 else
 if (s1.length:Int) > 24 then
 some false
 else
 if (s1 == [110,117,108,108])=true then
 some false
 else
 (qal (qff s1) 0).bind (fun o=>match o with
 | .inl () =>
 some true
 | .inr r2 =>
 some r2)
def qb6 (s1:List (List UInt8)) (v2:List UInt8):Int→Option (LS (Int) ((Unit) ⊕ (Int))):=fun t3 =>
 if t3 < (s1.length:Int) then
 (idx s1 t3).bind fun (x4:List UInt8) =>
 if (v2 == x4)=true then
 some (.done (.inr t3))
 else
 some (.next (vsg.wrap (t3+1)))
 else
 some (.done (.inl ()))
def qea (s1:List (List UInt8)) (v2:List UInt8):Option (Int) :=
 (qal (qb6 s1 v2) 0).bind (fun o=>match o with
 | .inl () =>
 some (-1)
 | .inr r3 =>
 some r3)
def qc4 (s1:List (List UInt8)) (v2:List UInt8):Option (Bool) :=
 (qea s1 v2).bind fun (r3:Int) =>
 some (decide (r3≥0))
def qbi (s1:List Value) (f2:Value→Option (Bool)):Int→Option (LS (Int) ((Unit) ⊕ (Int))):=fun t3 =>
 if t3 < (s1.length:Int) then
 (idx s1 t3).bind fun (x4:Value) =>
 (f2 x4).bind fun (r5:Bool) =>
 if r5=true then
 some (.done (.inr t3))
 else
 some (.next (vsg.wrap (t3+1)))
 else
 some (.done (.inl ()))
def qc5 (s1:List Value) (f2:Value→Option (Bool)):Option (Int) :=
 (qal (qbi s1 f2) 0).bind (fun o=>match o with
 | .inl () =>
 some (-1)
 | .inr r3 =>
 some r3)
def qcc (s1:List Value) (f2:Value→Option (Bool)):Option (Bool) :=
 (qc5 s1 f2).bind fun (r3:Int) =>
 some (decide (r3≥0))
def qhm (v1:Value):Option (Bool) :=
 if (v1.Kind == 0)=true then
 if (v1.Num == 0)=true then
 some (v1.Str == [])
 else
 some false
 else
 if (v1.Kind == 1)=true then
 some (v1.Str == [])
 else
 if (v1.Kind == 2)=true then
 if (v1.Num == 0)=true then
 some (decide ((v1.Str.length:Int)≤200))
 else
 some false
 else
 if (v1.Kind == 3)=true then
 if v1.Num≥1 then
 some (v1.Str == [])
 else
 some false
 else
 some false
def qc9 (v1:Value):Option (Bool) :=
 (qhm v1).bind fun (r2:Bool) =>
 some (!r2)
def qfg (l1:List Value):Option (Bool) :=
 (qcc l1 (fun (y2:Value)=>qc9 y2)).bind fun (r3:Bool) =>
 some (!r3)
def qgc (t1:Table):Int→Option (LS (Int) ((Unit) ⊕ (Int))):=fun t2 =>
 if t2 < (t1.Attrs.length:Int) then
 (idx t1.Attrs t2).bind fun (x3:List UInt8) =>
 (qhr x3).bind fun (r4:Bool) =>
 if r4=true then
 if (0:Int)≤t2 then
 if t2≤(t1.Attrs.length:Int) then
 (qc4 (t1.Attrs.take (t2.toNat)) x3).bind fun (r5:Bool) =>
 if r5=true then
 some (.done (.inr 1))
 else
 some (.next (vsg.wrap (t2+1)))
 else none
 else none
 else
 some (.done (.inr 1))
 else
 some (.done (.inl ()))
def qhc (t1:Table):(Int×Int)→Option (LS (Int×Int) ((Unit) ⊕ (Int))):=fun (l2,t3) =>
 if t3 < (t1.Rows.length:Int) then
 (idx t1.Rows t3).bind fun (x4:Row) =>
 if x4.ID≤l2 then
 some (.done (.inr 1))
 else
 if ((x4.Values.length:Int) != (t1.Attrs.length:Int))=true then
 some (.done (.inr 6))
 else
 (qfg x4.Values).bind fun (r5:Bool) =>
 if r5=true then
 some (.next (x4.ID,(vsg.wrap (t3+1))))
 else
 some (.done (.inr 1))
 else
 some (.done (.inl ()))
def qgq (t1:Table):Option (Int) :=
 (qhr t1.Name).bind fun (r2:Bool) =>
 if r2=true then
 if (t1.Attrs.length:Int) > 16 then
 some 3
 else
 if (t1.Rows.length:Int) > 1000 then
 some 3
 else
 (qal (qgc t1) 0).bind (fun o=>match o with
 | .inl () =>
 (qal (qhc t1) (0,0)).bind (fun o=>match o with
 | .inl () =>
 some 0
 | .inr r3 =>
 some r3)
 | .inr r4 =>
 some r4)
 else
 some 1
def qei (n1:Int) (f2:List FD):Int→Option (LS (Int) ((Unit) ⊕ (Int))):=fun t3 =>
 if t3 < (f2.length:Int) then
 (idx f2 t3).bind fun (x4:FD) =>
 if n1 < 0 then none else
 if ((vt9 (vsi.wrap ((BitVec.ofInt 32 x4.Lhs ||| (BitVec.ofInt 32 x4.Rhs)).toNat:Int)) (2 ^ (min (n1).toNat 32))) != 0)=true then
 some (.done (.inr 1))
 else
 some (.next (vsg.wrap (t3+1)))
 else
 some (.done (.inl ()))
def qia (n1:Int) (f2:List FD):Option (Int) :=
 if n1 < 0 then
 some 7
 else
 if n1 > 16 then
 some 7
 else
 if (f2.length:Int) > 64 then
 some 3
 else
 (qal (qei n1 f2) 0).bind (fun o=>match o with
 | .inl () =>
 some 0
 | .inr r3 =>
 some r3)
def qe7 (x:Int):Option Int:=if 0≤x∧x < 4294967296 then some (vjq x.toNat) else none
def qev:(Int×List Int)→Option (LS (Int×List Int) (List Int)):=fun (s1,o2) =>
 if (s1 != 0)=true then
 (qe7 s1).bind fun (r3:Int) =>
 if qdi (o2.length+1) 8=true then
 some (.next ((vsi.wrap ((BitVec.ofInt 32 s1 &&& (BitVec.ofInt 32 (vsi.wrap (s1 - 1)))).toNat:Int)),(o2++[r3])))
 else none
 else
 some (.done o2)
def qfh (s1:Int):Option (List Int) :=
 (qal qev (s1,[])).bind (fun o2 =>
 some o2)
def qp7 (v1:Int) (a2:Int):Option (Term) :=
 some (Term.mk v1 a2 (Value.mk 0 0 []))
def qj4 (o1:Int) (a2:Int):Option (Atom) :=
 (qp7 1 a2).bind fun (r3:Term) =>
 (qp7 2 a2).bind fun (r4:Term) =>
 some (Atom.mk r3 o1 r4)
def qej (r1:List Int):(List Atom×Int)→Option (LS (List Atom×Int) (List Atom)):=fun (d2,t3) =>
 if t3 < (r1.length:Int) then
 (idx r1 t3).bind fun (x4:Int) =>
 (qj4 1 x4).bind fun (r5:Atom) =>
 if qdi (d2.length+1) 104=true then
 some (.next ((d2++[r5]),(vsg.wrap (t3+1))))
 else none
 else
 some (.done d2)
def qf4 (f1:FD) (r2:List Int):(List Denial×Int)→Option (LS (List Denial×Int) (List Denial)):=fun (o3,t4) =>
 if t4 < (r2.length:Int) then
 (idx r2 t4).bind fun (x5:Int) =>
 (qfh f1.Lhs).bind fun (r6:List Int) =>
 (qal (qej r6) ([],0)).bind (fun d7 =>
 (qj4 2 x5).bind fun (r8:Atom) =>
 if qdi (d7.length+1) 104=true then
 if qdi (o3.length+1) 32=true then
 some (.next ((o3++[(Denial.mk 2 (d7++[r8]))]),(vsg.wrap (t4+1))))
 else none
 else none)
 else
 some (.done o3)
def qib (n1:Int) (f2:FD):Option (List Denial×Int) :=
 (qia n1 [f2]).bind fun (r3:Int) =>
 if (r3 != 0)=true then
 some ([],r3)
 else
 (qfh (vsi.wrap ((BitVec.ofInt 32 f2.Rhs &&& ~~~ (BitVec.ofInt 32 f2.Lhs)).toNat:Int))).bind fun (r4:List Int) =>
 (qal (qf4 f2 r4) ([],0)).bind (fun o5 =>
 some (o5,0))
def qbs (s1:List Atom) (f2:Atom→Option (Bool)):Int→Option (LS (Int) ((Unit) ⊕ (Int))):=fun t3 =>
 if t3 < (s1.length:Int) then
 (idx s1 t3).bind fun (x4:Atom) =>
 (f2 x4).bind fun (r5:Bool) =>
 if r5=true then
 some (.done (.inr t3))
 else
 some (.next (vsg.wrap (t3+1)))
 else
 some (.done (.inl ()))
def qdm (s1:List Atom) (f2:Atom→Option (Bool)):Option (Int) :=
 (qal (qbs s1 f2) 0).bind (fun o=>match o with
 | .inl () =>
 some (-1)
 | .inr r3 =>
 some r3)
def qcm (s1:List Atom) (f2:Atom→Option (Bool)):Option (Bool) :=
 (qdm s1 f2).bind fun (r3:Int) =>
 some (decide (r3≥0))
def qek (n1:Int) (v2:Int) (t3:Term):Option (Bool) :=
 if (t3.Var == 0)=true then
 if (t3.Attr == 0)=true then
 (qhm t3.Value).bind fun (r4:Bool) =>
 some r4
 else
 some false
 else
 if t3.Var > 0 then
 if t3.Var≤v2 then
 if t3.Attr≥0 then
 if t3.Attr < n1 then
 some ((t3.Value.Kind == 0) && ((t3.Value.Num == 0) && (t3.Value.Str == [])))
 else
 some false
 else
 some false
 else
 some false
 else
 some false
def qgd (a1:Atom) (c2:Int) (c3:Denial):Option (Bool) :=
 if a1.Op < 1 then
 some true
 else
 if a1.Op > 4 then
 some true
 else
 (qek c2 c3.Vars a1.Left).bind fun (r4:Bool) =>
 if r4=true then
 (qek c2 c3.Vars a1.Right).bind fun (r5:Bool) =>
 some (!r5)
 else
 some true
def qhs (n1:Int) (d2:Denial):Option (Bool) :=
 if d2.Vars < 1 then
 some false
 else
 if d2.Vars > 3 then
 some false
 else
 if (d2.Atoms.length:Int) > 20 then
 some false
 else
 (qcm d2.Atoms (fun (y3:Atom)=>qgd y3 n1 d2)).bind fun (r4:Bool) =>
 some (!r4)
def qbt (s1:List Cell) (f2:Cell→Option (Bool)):Int→Option (LS (Int) ((Unit) ⊕ (Int))):=fun t3 =>
 if t3 < (s1.length:Int) then
 (idx s1 t3).bind fun (x4:Cell) =>
 (f2 x4).bind fun (r5:Bool) =>
 if r5=true then
 some (.done (.inr t3))
 else
 some (.next (vsg.wrap (t3+1)))
 else
 some (.done (.inl ()))
def qdn (s1:List Cell) (f2:Cell→Option (Bool)):Option (Int) :=
 (qal (qbt s1 f2) 0).bind (fun o=>match o with
 | .inl () =>
 some (-1)
 | .inr r3 =>
 some r3)
def qcn (s1:List Cell) (f2:Cell→Option (Bool)):Option (Bool) :=
 (qdn s1 f2).bind fun (r3:Int) =>
 some (decide (r3≥0))
def qda (p1:Cell):Option (Bool) :=
 if p1.Any=true then
 if ((p1.Value.Kind == 0) && ((p1.Value.Num == 0) && (p1.Value.Str == [])))=true then
 some false
 else
 some true
 else
 (qhm p1.Value).bind fun (r2:Bool) =>
 some (!r2)
def qa5 (n1:Int) (c2:CFD):(Int×Int)→Option (LS (Int×Int) ((Unit) ⊕ (Bool))):=fun (b3,t4) =>
 if t4 < (c2.Lhs.length:Int) then
 (idx c2.Lhs t4).bind fun (x5:Int) =>
 if x5≤b3 then
 some (.done (.inr false))
 else
 if x5≥n1 then
 some (.done (.inr false))
 else
 if (x5 == c2.Rhs)=true then
 some (.done (.inr false))
 else
 some (.next (x5,(vsg.wrap (t4+1))))
 else
 some (.done (.inl ()))
def qd1 (n1:Int) (c2:CFD):Option (Bool) :=
 if n1 < 0 then
 some false
 else
 if n1 > 16 then
 some false
 else
 if c2.Rhs < 0 then
 some false
 else
 if c2.Rhs≥n1 then
 some false
 else
 if ((c2.Pattern.length:Int) != (vsg.wrap ((c2.Lhs.length:Int)+1)))=true then
 some false
 else
 (qal (qa5 n1 c2) ((-1),0)).bind (fun o=>match o with
 | .inl () =>
 (qcn c2.Pattern (fun (y3:Cell)=>qda y3)).bind fun (r4:Bool) =>
 some (!r4)
 | .inr r5 =>
 some r5)
def qbz (s1:List Int) (f2:Int→Option (Bool)):Int→Option (LS (Int) ((Unit) ⊕ (Int))):=fun t3 =>
 if t3 < (s1.length:Int) then
 (idx s1 t3).bind fun (x4:Int) =>
 (f2 x4).bind fun (r5:Bool) =>
 if r5=true then
 some (.done (.inr t3))
 else
 some (.next (vsg.wrap (t3+1)))
 else
 some (.done (.inl ()))
def qdy (s1:List Int) (f2:Int→Option (Bool)):Option (Int) :=
 (qal (qbz s1 f2) 0).bind (fun o=>match o with
 | .inl () =>
 some (-1)
 | .inr r3 =>
 some r3)
def qb0 (s1:List Int) (f2:Int→Option (Bool)):Option (Bool) :=
 (qdy s1 f2).bind fun (r3:Int) =>
 some (decide (r3≥0))
def qfi (a1:Int) (c2:Int):Option (Bool) :=
 if a1 < 0 then
 some true
 else
 some (decide (a1≥c2))
def qgz (n1:Int) (l2:List Int):Option (Bool) :=
 if (l2.length:Int)≤8 then
 (qb0 l2 (fun (y3:Int)=>qfi y3 n1)).bind fun (r4:Bool) =>
 some (!r4)
 else
 some false
def qge (n1:Int) (d2:OD):Option (Bool) :=
 (qgz n1 d2.Lhs).bind fun (r3:Bool) =>
 if r3=true then
 (qgz n1 d2.Rhs).bind fun (r4:Bool) =>
 some r4
 else
 some false
def qas (t1:Table) (c2:Constraint):Option (List Denial×Int) :=
 if (c2.Table == t1.Name)=true then
 if c2.Kind < 1 then
 some ([],1)
 else
 if c2.Kind > 6 then
 some ([],1)
 else
 if (c2.Kind == 2)=true then
 some ([],14)
 else
 if (c2.Kind == 3)=true then
 some ([],14)
 else
 if (c2.Kind == 1)=true then
 if (t1.Attrs.length:Int) < 0 then none else
 if ((vt9 (vsi.wrap ((BitVec.ofInt 32 c2.FD.Lhs ||| (BitVec.ofInt 32 c2.FD.Rhs)).toNat:Int)) (2 ^ (min ((t1.Attrs.length:Int)).toNat 32))) != 0)=true then
 some ([],1)
 else
 (qib (t1.Attrs.length:Int) c2.FD).bind fun (r3:List Denial×Int) =>
 some (r3.1,r3.2)
 else
 if (c2.Kind == 6)=true then
 (qhs (t1.Attrs.length:Int) c2.Denial).bind fun (r4:Bool) =>
 if r4=true then
 some ([c2.Denial],0)
 else
 some ([],1)
 else
 if (c2.Kind == 4)=true then
 (qd1 (t1.Attrs.length:Int) c2.CFD).bind fun (r5:Bool) =>
 if r5=true then
 some ([],0)
 else
 some ([],1)
 else
 if (c2.Kind == 5)=true then
 (qge (t1.Attrs.length:Int) c2.OD).bind fun (r6:Bool) =>
 if r6=true then
 some ([],0)
 else
 some ([],1)
 else
 some ([],0)
 else
 some ([],1)
def qel (p1:Cell) (v2:Value):Option (Bool) :=
 if p1.Any=true then
 some true
 else
 some ((p1.Value.Kind == v2.Kind) && ((p1.Value.Num == v2.Num) && (p1.Value.Str == v2.Str)))
def qeb (c1:CFD) (l2:List Value):Int→Option (LS (Int) ((Unit) ⊕ (Bool))):=fun t3 =>
 if t3 < (c1.Lhs.length:Int) then
 (idx c1.Lhs t3).bind fun (x4:Int) =>
 (idx c1.Pattern t3).bind fun (x5:Cell) =>
 (idx l2 x4).bind fun (x6:Value) =>
 (qel x5 x6).bind fun (r7:Bool) =>
 if r7=true then
 some (.next (vsg.wrap (t3+1)))
 else
 some (.done (.inr false))
 else
 some (.done (.inl ()))
def qf5 (c1:CFD) (l2:List Value):Option (Bool) :=
 (qal (qeb c1 l2) 0).bind (fun o=>match o with
 | .inl () =>
 some true
 | .inr r3 =>
 some r3)
def qg0 (c1:CFD):Option (Cell) :=
 (idx c1.Pattern (c1.Lhs.length:Int)).bind fun (x2:Cell) =>
 some x2
def qbn (k1:Int) (c2:List Value) (c3:List Value):Option (Bool) :=
 (idx c2 k1).bind fun (x4:Value) =>
 (idx c3 k1).bind fun (x5:Value) =>
 some (!((x4.Kind == x5.Kind) && ((x4.Num == x5.Num) && (x4.Str == x5.Str))))
def qem (c1:CFD) (a2:List Value) (b3:List Value):Option (Bool) :=
 (idx a2 c1.Rhs).bind fun (x4:Value) =>
 (idx b3 c1.Rhs).bind fun (x5:Value) =>
 if ((x4.Kind == x5.Kind) && ((x4.Num == x5.Num) && (x4.Str == x5.Str)))=true then
 some false
 else
 (qb0 c1.Lhs (fun (y6:Int)=>qbn y6 a2 b3)).bind fun (r7:Bool) =>
 some (!r7)
def qcd (t1:Table) (c2:CFD):(List Row×Int)→Option (LS (List Row×Int) (List Row)):=fun (m3,t4) =>
 if t4 < (t1.Rows.length:Int) then
 (idx t1.Rows t4).bind fun (x5:Row) =>
 (qf5 c2 x5.Values).bind fun (r6:Bool) =>
 if r6=true then
 if qdi (m3.length+1) 32=true then
 some (.next ((m3++[x5]),(vsg.wrap (t4+1))))
 else none
 else
 some (.next (m3,(vsg.wrap (t4+1))))
 else
 some (.done m3)
def qbj (c1:CFD) (m2:List Row) (t3:Int) (x4:Row):(List (List Int)×Int)→Option (LS (List (List Int)×Int) (List (List Int))):=fun (b5,t6) =>
 if t6 < (((m2.length - (vsg.wrap (t3+1)).toNat):Nat):Int) then
 (idx ((m2.drop ((vsg.wrap (t3+1)).toNat)).take (m2.length - (vsg.wrap (t3+1)).toNat)) t6).bind fun (x7:Row) =>
 (qem c1 x4.Values x7.Values).bind fun (r8:Bool) =>
 if r8=true then
 if qdi (b5.length+1) 24=true then
 some (.next ((b5++[[x4.ID,x7.ID]]),(vsg.wrap (t6+1))))
 else none
 else
 some (.next (b5,(vsg.wrap (t6+1))))
 else
 some (.done b5)
def qe4 (c1:CFD) (m2:List Row) (t3:Int) (x4:Row):(List (List Int)×Int)→Option (LS (List (List Int)×Int) (List (List Int))):=fun (b5,t6) =>
 if t6 < (((m2.length - (vsg.wrap (t3+1)).toNat):Nat):Int) then
 (idx ((m2.drop ((vsg.wrap (t3+1)).toNat)).take (m2.length - (vsg.wrap (t3+1)).toNat)) t6).bind fun (x7:Row) =>
 (qem c1 x4.Values x7.Values).bind fun (r8:Bool) =>
 if r8=true then
 if qdi (b5.length+1) 24=true then
 some (.next ((b5++[[x4.ID,x7.ID]]),(vsg.wrap (t6+1))))
 else none
 else
 some (.next (b5,(vsg.wrap (t6+1))))
 else
 some (.done b5)
def qce (c1:CFD) (m2:List Row):(List (List Int)×List (List Int)×Int)→Option (LS (List (List Int)×List (List Int)×Int) (List (List Int)×List (List Int))):=fun (o3,b4,t5) =>
 if t5 < ((m2.length:Nat):Int) then
 (idx m2 t5).bind fun (x6:Row) =>
 (qg0 c1).bind fun (r7:Cell) =>
 (idx x6.Values c1.Rhs).bind fun (x8:Value) =>
 (qel r7 x8).bind fun (r9:Bool) =>
 if r9=true then
 if 0≤(vsg.wrap (t5+1)) then
 if (vsg.wrap (t5+1))≤((m2.length:Nat):Int) then
 (qal (qbj c1 m2 t5 x6) (b4,0)).bind (fun b10 =>
 some (.next (o3,b10,(vsg.wrap (t5+1)))))
 else none
 else none
 else
 if qdi (o3.length+1) 24=true then
 if 0≤(vsg.wrap (t5+1)) then
 if (vsg.wrap (t5+1))≤((m2.length:Nat):Int) then
 (qal (qe4 c1 m2 t5 x6) (b4,0)).bind (fun b11 =>
 some (.next ((o3++[[x6.ID]]),b11,(vsg.wrap (t5+1)))))
 else none
 else none
 else none
 else
 some (.done (o3,b4))
def qc6 (t1:Table) (c2:CFD):Option (List (List Int)×Int) :=
 (qgq t1).bind fun (r3:Int) =>
 if (r3 != 0)=true then
 some ([],r3)
 else
 (qd1 (t1.Attrs.length:Int) c2).bind fun (r4:Bool) =>
 if r4=true then
 (qal (qcd t1 c2) ([],0)).bind (fun m5 =>
 (qal (qce c2 m5) ([],[],0)).bind (fun (o6,b7) =>
 if qdi (o6.length+b7.length) 24=true then
 some ((o6++b7),0)
 else none))
 else
 some ([],1)
def qhd (t1:Table) (o2:Int→Option (Bool)):Option (Int) :=
 (qgq t1).bind fun (r3:Int) =>
 if (r3 != 0)=true then
 some r3
 else
 (o2 (t1.Attrs.length:Int)).bind fun (r4:Bool) =>
 if r4=true then
 some 0
 else
 some 1
def qbv (n1:Int) (c2:OD):Option (Bool) :=
 (qge n1 c2).bind fun (r3:Bool) =>
 some r3
def qct (x1:Int):Option (Bool) :=
 some (x1 != x1)
def qd2 (x1:Int) (y2:Int):Option (Int) :=
 (qct x1).bind fun (r3:Bool) =>
 (qct y2).bind fun (r4:Bool) =>
 if r3=true then
 if r4=true then
 some 0
 else
 some (-1)
 else
 if r4=true then
 some 1
 else
 if x1 < y2 then
 some (-1)
 else
 if x1 > y2 then
 some 1
 else
 some 0
def qci (v1:List Int):Int→Option (LS (Int) ((Unit) ⊕ (Int))):=fun t2 =>
 if t2 < (v1.length:Int) then
 (idx v1 t2).bind fun (x3:Int) =>
 if (x3 != 0)=true then
 some (.done (.inr x3))
 else
 some (.next (vsg.wrap (t2+1)))
 else
 some (.done (.inl ()))
def qlu (v1:List Int):Option (Int) :=
 (qal (qci v1) 0).bind (fun o=>match o with
 | .inl () =>
 some 0
 | .inr r2 =>
 some r2)
def qic (x1:Int):Option (Bool) :=
 some (x1 != x1)
def qgr (x1:Int) (y2:Int):Option (Int) :=
 (qic x1).bind fun (r3:Bool) =>
 (qic y2).bind fun (r4:Bool) =>
 if r3=true then
 if r4=true then
 some 0
 else
 some (-1)
 else
 if r4=true then
 some 1
 else
 if x1 < y2 then
 some (-1)
 else
 if x1 > y2 then
 some 1
 else
 some 0
def qew (a1:List UInt8) (b2:List UInt8):Option (Int) :=
 some (Lib.compareBytes a1 b2)
def qgs (a1:List UInt8) (b2:List UInt8):Option (Int) :=
 (qew a1 b2).bind fun (r3:Int) =>
 some r3
def qg1 (a1:Value) (b2:Value):Option (Int) :=
 (qgr a1.Kind b2.Kind).bind fun (r3:Int) =>
 (qd2 a1.Num b2.Num).bind fun (r4:Int) =>
 (qgs a1.Str b2.Str).bind fun (r5:Int) =>
 (qlu [r3,r4,r5]).bind fun (r6:Int) =>
 some r6
def qdb (a1:Row) (b2:Row) (l3:List Int):Int→Option (LS (Int) ((Unit) ⊕ (Int))):=fun t4 =>
 if t4 < (l3.length:Int) then
 (idx l3 t4).bind fun (x5:Int) =>
 (idx a1.Values x5).bind fun (x6:Value) =>
 (idx b2.Values x5).bind fun (x7:Value) =>
 (qg1 x6 x7).bind fun (r8:Int) =>
 if (r8 != 0)=true then
 some (.done (.inr r8))
 else
 some (.next (vsg.wrap (t4+1)))
 else
 some (.done (.inl ()))
def qen (a1:Row) (b2:Row) (l3:List Int):Option (Int) :=
 (qal (qdb a1 b2 l3) 0).bind (fun o=>match o with
 | .inl () =>
 some 0
 | .inr r4 =>
 some r4)
def qid (a1:Row) (b2:Row) (d3:OD):Option (Int) :=
 (qen a1 b2 d3.Lhs).bind fun (r4:Int) =>
 (qen a1 b2 d3.Rhs).bind fun (r5:Int) =>
 (show Option (Bool) from
 if (r4 == 0)=true then
 some (r5 != 0)
 else
 some false).bind (fun t6 =>
 if t6=true then
 some 1
 else
 if (vsg.wrap (r4 * r5)) < 0 then
 some 2
 else
 some 0)
def qb7 (t1:Table) (d2:OD) (t3:Int) (x4:Row):(List (List Int)×Int)→Option (LS (List (List Int)×Int) (List (List Int))):=fun (o5,t6) =>
 if t6 < (((t1.Rows.drop (vsg.wrap (t3+1)).toNat).take (t1.Rows.length - (vsg.wrap (t3+1)).toNat)).length:Int) then
 (idx ((t1.Rows.drop (vsg.wrap (t3+1)).toNat).take (t1.Rows.length - (vsg.wrap (t3+1)).toNat)) t6).bind fun (x7:Row) =>
 (qid x4 x7 d2).bind fun (r8:Int) =>
 if (r8 != 0)=true then
 if qdi (o5.length+1) 24=true then
 some (.next ((o5++[[x4.ID,x7.ID]]),(vsg.wrap (t6+1))))
 else none
 else
 some (.next (o5,(vsg.wrap (t6+1))))
 else
 some (.done o5)
def qb8 (t1:Table) (d2:OD):(List (List Int)×Int)→Option (LS (List (List Int)×Int) (List (List Int))):=fun (o3,t4) =>
 if t4 < (t1.Rows.length:Int) then
 (idx t1.Rows t4).bind fun (x5:Row) =>
 if 0≤(vsg.wrap (t4+1)) then
 if (vsg.wrap (t4+1))≤(t1.Rows.length:Int) then
 (qal (qb7 t1 d2 t4 x5) (o3,0)).bind (fun o6 =>
 some (.next (o6,(vsg.wrap (t4+1)))))
 else none
 else none
 else
 some (.done o3)
def qdc (t1:Table) (d2:OD):Option (List (List Int)×Int) :=
 (qhd t1 (fun (y3:Int)=>qbv y3 d2)).bind fun (r4:Int) =>
 if (r4 != 0)=true then
 some ([],r4)
 else
 (qal (qb8 t1 d2) ([],0)).bind (fun o5 =>
 some (o5,0))
def qax (s1:List Int) (s2:List Int):Int→Option (LS (Int) ((Unit) ⊕ (Int))):=fun t3 =>
 if t3 < (s1.length:Int) then
 (idx s1 t3).bind fun (x4:Int) =>
 if t3≥(s2.length:Int) then
 some (.done (.inr 1))
 else
 (idx s2 t3).bind fun (x5:Int) =>
 (qd2 x4 x5).bind fun (r6:Int) =>
 if (r6 != 0)=true then
 some (.done (.inr r6))
 else
 some (.next (vsg.wrap (t3+1)))
 else
 some (.done (.inl ()))
def qad (s1:List Int) (s2:List Int):Option (Int) :=
 (qal (qax s1 s2) 0).bind (fun o=>match o with
 | .inl () =>
 if (s1.length:Int) < (s2.length:Int) then
 some (-1)
 else
 some 0
 | .inr r3 =>
 some r3)
def qhe (t1:Table) (d2:Denial):Option (Int) :=
 (qgq t1).bind fun (r3:Int) =>
 if (r3 != 0)=true then
 some r3
 else
 (qhs (t1.Attrs.length:Int) d2).bind fun (r4:Bool) =>
 if r4=true then
 if (d2.Vars == 3)=true then
 if (t1.Rows.length:Int) > 200 then
 some 3
 else
 some 0
 else
 some 0
 else
 some 1
def qju (r1:List Row) (t2:Term):Option (Value) :=
 if (t2.Var == 0)=true then
 some t2.Value
 else
 (idx r1 (vsg.wrap (t2.Var - 1))).bind fun (x3:Row) =>
 (idx x3.Values t2.Attr).bind fun (x4:Value) =>
 some x4
def qdd (r1:List Row) (l2:List Atom):Int→Option (LS (Int) ((Unit) ⊕ (Bool))):=fun t3 =>
 if t3 < (l2.length:Int) then
 (idx l2 t3).bind fun (x4:Atom) =>
 (qju r1 x4.Left).bind fun (r5:Value) =>
 (qju r1 x4.Right).bind fun (r6:Value) =>
 (qg1 r5 r6).bind fun (r7:Int) =>
 if (x4.Op == 1)=true then
 if (r7 == 0)=true then
 some (.next (vsg.wrap (t3+1)))
 else
 some (.done (.inr false))
 else
 if (x4.Op == 2)=true then
 if (r7 != 0)=true then
 some (.next (vsg.wrap (t3+1)))
 else
 some (.done (.inr false))
 else
 if (x4.Op == 3)=true then
 if r7 < 0 then
 some (.next (vsg.wrap (t3+1)))
 else
 some (.done (.inr false))
 else
 if (x4.Op == 4)=true then
 if r7≤0 then
 some (.next (vsg.wrap (t3+1)))
 else
 some (.done (.inr false))
 else
 some (.done (.inr false))
 else
 some (.done (.inl ()))
def qc2 (r1:List Row) (l2:List Atom):Option (Bool) :=
 (qal (qdd r1 l2) 0).bind (fun o=>match o with
 | .inl () =>
 some true
 | .inr r3 =>
 some r3)
def qb1 (s1:List Row) (f2:Row→Option (Bool)):Int→Option (LS (Int) ((Unit) ⊕ (Int))):=fun t3 =>
 if t3 < (s1.length:Int) then
 (idx s1 t3).bind fun (x4:Row) =>
 (f2 x4).bind fun (r5:Bool) =>
 if r5=true then
 some (.done (.inr t3))
 else
 some (.next (vsg.wrap (t3+1)))
 else
 some (.done (.inl ()))
def qcx (s1:List Row) (f2:Row→Option (Bool)):Option (Int) :=
 (qal (qb1 s1 f2) 0).bind (fun o=>match o with
 | .inl () =>
 some (-1)
 | .inr r3 =>
 some r3)
def qay (s1:List Row) (f2:Row→Option (Bool)):Option (Bool) :=
 (qcx s1 f2).bind fun (r3:Int) =>
 some (decide (r3≥0))
def qcf (x1:Row) (c2:Row):Option (Bool) :=
 some (x1.ID == c2.ID)
def qhf (x1:Int) (y2:Int):Option (Bool) :=
 (qct x1).bind fun (r3:Bool) =>
 if r3=true then
 (qct y2).bind fun (r4:Bool) =>
 if r4=true then
 some (decide (x1 < y2))
 else
 some true
 else
 some (decide (x1 < y2))
def qja (l1:List Row):(List Int×Int)→Option (LS (List Int×Int) (List Int)):=fun (l2,t3) =>
 if t3 < (l1.length:Int) then
 (idx l1 t3).bind fun (x4:Row) =>
 if qdi (l2.length+1) 8=true then
 some (.next ((l2++[x4.ID]),(vsg.wrap (t3+1))))
 else none
 else
 some (.done l2)
def qg8 (l1:List Row):(List Int×Int)→Option (LS (List Int×Int) (List Int)):=fun (l2,t3) =>
 if t3 < (l1.length:Int) then
 (idx l1 t3).bind fun (x4:Row) =>
 if qdi (l2.length+1) 8=true then
 some (.next ((l2++[x4.ID]),(vsg.wrap (t3+1))))
 else none
 else
 some (.done l2)
def qg9 (l1:List Row):(List Int×Int)→Option (LS (List Int×Int) (List Int)):=fun (l2,t3) =>
 if t3 < (l1.length:Int) then
 (idx l1 t3).bind fun (x4:Row) =>
 if qdi (l2.length+1) 8=true then
 some (.next ((l2++[x4.ID]),(vsg.wrap (t3+1))))
 else none
 else
 some (.done l2)
def qcy (l1:List Row):(List Int×Int)→Option (LS (List Int×Int) (List Int)):=fun (l2,t3) =>
 if t3 < (l1.length:Int) then
 (idx l1 t3).bind fun (x4:Row) =>
 if qdi (l2.length+1) 8=true then
 some (.next ((l2++[x4.ID]),(vsg.wrap (t3+1))))
 else none
 else
 some (.done l2)
def qjb (t1:Table) (l2:List Row):Int→Option (LS (Int) (Unit)):=fun t3 =>
 if t3 < (t1.Rows.length:Int) then
 (idx t1.Rows t3).bind fun (x4:Row) =>
 (qay l2 (fun (y5:Row)=>qcf y5 x4)).bind fun (r6:Bool) =>
 if r6=true then
 some (.next (vsg.wrap (t3+1)))
 else
 none
 else
 some (.done ())
def qcz (t1:Table) (d2:Denial) (l3:List Row):((List (Arr3_int64×Bool))×List (List Int)×Int)→Option (LS ((List (Arr3_int64×Bool))×List (List Int)×Int) (((List (Arr3_int64×Bool))×List (List Int)) ⊕ ((List (Arr3_int64×Bool))×List (List Int)))):=fun (f4,f5,t6) =>
 if t6 < (t1.Rows.length:Int) then
 (idx t1.Rows t6).bind fun (x7:Row) =>
 (qay l3 (fun (y8:Row)=>qcf y8 x7)).bind fun (r9:Bool) =>
 if r9=true then
 some (.next (f4,f5,(vsg.wrap (t6+1))))
 else
 if l3.length≤1000000000 then
 if qdi (l3.length+1) 32=true then
 (some ((l3++[x7]):List Row)).bind fun (l10:List Row) =>
 if ((l10.length:Int) == d2.Vars)=true then
 (qc2 l10 d2.Atoms).bind fun (r11:Bool) =>
 if r11=true then
 (qal (qcy l10) ([],0)).bind (fun l12 =>
 (qtf l12).bind fun (l13:List Int) =>
 if ((qrv f4 (Arr3_int64.mk (l13.getD 0 0) (l13.getD 1 0) (l13.getD 2 0))).getD false)=true then
 if ((f5.length:Nat):Int)≤20000 then
 some (.next (f4,f5,(vsg.wrap (t6+1))))
 else
 some (.done (.inr (f4,f5)))
 else
 if qdi (f5.length+1) 24=true then
 if (((f5.length+1):Nat):Int)≤20000 then
 some (.next ((qvc f4 (Arr3_int64.mk (l13.getD 0 0) (l13.getD 1 0) (l13.getD 2 0)) true),(f5++[l13]),(vsg.wrap (t6+1))))
 else
 some (.done (.inr ((qvc f4 (Arr3_int64.mk (l13.getD 0 0) (l13.getD 1 0) (l13.getD 2 0)) true),(f5++[l13]))))
 else none)
 else
 some (.next (f4,f5,(vsg.wrap (t6+1))))
 else
 (qal (qjb t1 l10) 0).bind (fun () =>
 some (.next (f4,f5,(vsg.wrap (t6+1)))))
 else none
 else none
 else
 some (.done (.inl (f4,f5)))
def qa6 (t1:Table) (d2:Denial) (l3:List Row):((List (Arr3_int64×Bool))×List (List Int)×Int)→Option (LS ((List (Arr3_int64×Bool))×List (List Int)×Int) (((List (Arr3_int64×Bool))×List (List Int)) ⊕ ((List (Arr3_int64×Bool))×List (List Int)))):=fun (f4,f5,t6) =>
 if t6 < (t1.Rows.length:Int) then
 (idx t1.Rows t6).bind fun (x7:Row) =>
 (qay l3 (fun (y8:Row)=>qcf y8 x7)).bind fun (r9:Bool) =>
 if r9=true then
 some (.next (f4,f5,(vsg.wrap (t6+1))))
 else
 if l3.length≤1000000000 then
 if qdi (l3.length+1) 32=true then
 (some ((l3++[x7]):List Row)).bind fun (l10:List Row) =>
 if ((l10.length:Int) == d2.Vars)=true then
 (qc2 l10 d2.Atoms).bind fun (r11:Bool) =>
 if r11=true then
 (qal (qg9 l10) ([],0)).bind (fun l12 =>
 (qtf l12).bind fun (l13:List Int) =>
 if ((qrv f4 (Arr3_int64.mk (l13.getD 0 0) (l13.getD 1 0) (l13.getD 2 0))).getD false)=true then
 if ((f5.length:Nat):Int)≤20000 then
 some (.next (f4,f5,(vsg.wrap (t6+1))))
 else
 some (.done (.inr (f4,f5)))
 else
 if qdi (f5.length+1) 24=true then
 if (((f5.length+1):Nat):Int)≤20000 then
 some (.next ((qvc f4 (Arr3_int64.mk (l13.getD 0 0) (l13.getD 1 0) (l13.getD 2 0)) true),(f5++[l13]),(vsg.wrap (t6+1))))
 else
 some (.done (.inr ((qvc f4 (Arr3_int64.mk (l13.getD 0 0) (l13.getD 1 0) (l13.getD 2 0)) true),(f5++[l13]))))
 else none)
 else
 some (.next (f4,f5,(vsg.wrap (t6+1))))
 else
 (qal (qcz t1 d2 l10) (f4,f5,0)).bind (fun o=>match o with
 | .inl (f14,b15) =>
 some (.next (f14,b15,(vsg.wrap (t6+1))))
 | .inr (f16,b17) =>
 some (.done (.inr (f16,b17))))
 else none
 else none
 else
 some (.done (.inl (f4,f5)))
def qa7 (t1:Table) (d2:Denial) (l3:List Row):((List (Arr3_int64×Bool))×List (List Int)×Int)→Option (LS ((List (Arr3_int64×Bool))×List (List Int)×Int) (((List (Arr3_int64×Bool))×List (List Int)) ⊕ ((List (Arr3_int64×Bool))×List (List Int)))):=fun (f4,f5,t6) =>
 if t6 < (t1.Rows.length:Int) then
 (idx t1.Rows t6).bind fun (x7:Row) =>
 (qay l3 (fun (y8:Row)=>qcf y8 x7)).bind fun (r9:Bool) =>
 if r9=true then
 some (.next (f4,f5,(vsg.wrap (t6+1))))
 else
 if l3.length≤1000000000 then
 if qdi (l3.length+1) 32=true then
 (some ((l3++[x7]):List Row)).bind fun (l10:List Row) =>
 if ((l10.length:Int) == d2.Vars)=true then
 (qc2 l10 d2.Atoms).bind fun (r11:Bool) =>
 if r11=true then
 (qal (qg8 l10) ([],0)).bind (fun l12 =>
 (qtf l12).bind fun (l13:List Int) =>
 if ((qrv f4 (Arr3_int64.mk (l13.getD 0 0) (l13.getD 1 0) (l13.getD 2 0))).getD false)=true then
 if ((f5.length:Nat):Int)≤20000 then
 some (.next (f4,f5,(vsg.wrap (t6+1))))
 else
 some (.done (.inr (f4,f5)))
 else
 if qdi (f5.length+1) 24=true then
 if (((f5.length+1):Nat):Int)≤20000 then
 some (.next ((qvc f4 (Arr3_int64.mk (l13.getD 0 0) (l13.getD 1 0) (l13.getD 2 0)) true),(f5++[l13]),(vsg.wrap (t6+1))))
 else
 some (.done (.inr ((qvc f4 (Arr3_int64.mk (l13.getD 0 0) (l13.getD 1 0) (l13.getD 2 0)) true),(f5++[l13]))))
 else none)
 else
 some (.next (f4,f5,(vsg.wrap (t6+1))))
 else
 (qal (qa6 t1 d2 l10) (f4,f5,0)).bind (fun o=>match o with
 | .inl (f14,b15) =>
 some (.next (f14,b15,(vsg.wrap (t6+1))))
 | .inr (f16,b17) =>
 some (.done (.inr (f16,b17))))
 else none
 else none
 else
 some (.done (.inl (f4,f5)))
def qde (t1:Table) (d2:Denial):Option (List (List Int)×Int) :=
 (qhe t1 d2).bind fun (r3:Int) =>
 if (r3 != 0)=true then
 some ([],r3)
 else
 (show Option (List (List Int)×Bool) from
 (some ([]:List (Arr3_int64×Bool))).bind fun (m4:List (Arr3_int64×Bool)) =>
 (some (([]:List Row):List Row)).bind fun (l5:List Row) =>
 if ((l5.length:Int) == d2.Vars)=true then
 (qc2 l5 d2.Atoms).bind fun (r6:Bool) =>
 if r6=true then
 (qal (qja l5) ([],0)).bind (fun l7 =>
 (qtf l7).bind fun (l8:List Int) =>
 if ((qrv m4 (Arr3_int64.mk (l8.getD 0 0) (l8.getD 1 0) (l8.getD 2 0))).getD false)=true then
 some ([],true)
 else
 some ([l8],true))
 else
 some ([],true)
 else
 (qal (qa7 t1 d2 l5) (m4,[],0)).bind (fun o=>match o with
 | .inl (f9,b10) =>
 some (b10,true)
 | .inr (f11,b12) =>
 some (b12,false))).bind (fun (o13,a14) =>
 if a14=true then
 (q62 (fun (y15:List Int) (y16:List Int)=>qad y15 y16) o13).bind fun (l17:List (List Int)) =>
 some (l17,0)
 else
 some ([],3))
def qb9 (t1:Table) (r2:List Denial×Int):(List (List Int)×Int)→Option (LS (List (List Int)×Int) ((List (List Int)) ⊕ (List (List Int)×Int))):=fun (o3,t4) =>
 if t4 < (r2.1.length:Int) then
 (idx r2.1 t4).bind fun (x5:Denial) =>
 (qde t1 x5).bind fun (r6:List (List Int)×Int) =>
 if (r6.2 != 0)=true then
 some (.done (.inr ([],r6.2)))
 else
 if qdi (o3.length+r6.1.length) 24=true then
 some (.next ((o3++r6.1),(vsg.wrap (t4+1))))
 else none
 else
 some (.done (.inl o3))
def qbw (t1:Table) (c2:Constraint):Option (List (List Int)×Int) :=
 (qas t1 c2).bind fun (r3:List Denial×Int) =>
 if (r3.2 != 0)=true then
 some ([],r3.2)
 else
 if (c2.Kind == 4)=true then
 (qc6 t1 c2.CFD).bind fun (r4:List (List Int)×Int) =>
 some (r4.1,r4.2)
 else
 if (c2.Kind == 5)=true then
 (qdc t1 c2.OD).bind fun (r5:List (List Int)×Int) =>
 some (r5.1,r5.2)
 else
 (qal (qb9 t1 r3) ([],0)).bind (fun o=>match o with
 | .inl o6 =>
 some (o6,0)
 | .inr r7 =>
 some r7)
def qex (l:List Int):Option (List Int):=if qdi l.length 8=true then some l else none
def qdj (l1:List Int):Option (Arr3_int64) :=
 some (Arr3_int64.mk (l1.getD 0 0) (l1.getD 1 0) (l1.getD 2 0))
def qa3 (s1:List (List Int)):(Int×Int)→Option (LS (Int×Int) (Int)):=fun (s2,t3) =>
 if t3 < (s1.length:Int) then
 (idx s1 t3).bind fun (x4:List Int) =>
 if (vsg.wrap (s2+(x4.length:Int))) < 0 then
 none
 else
 some (.next ((vsg.wrap (s2+(x4.length:Int))),(vsg.wrap (t3+1))))
 else
 some (.done s2)
def qa4 (s1:List (List Int)):(List Int×Int)→Option (LS (List Int×Int) (List Int)):=fun (n2,t3) =>
 if t3 < (s1.length:Int) then
 (idx s1 t3).bind fun (x4:List Int) =>
 if qdi (n2.length+x4.length) 8=true then
 some (.next ((n2++x4),(vsg.wrap (t3+1))))
 else none
 else
 some (.done n2)
def qcj (s1:List (List Int)):Option (List Int) :=
 (qal (qa3 s1) (0,0)).bind (fun s2 =>
 if 0≤s2 then
 if s2≤1000000000000 then
 (qal (qa4 s1) (([]:List Int),0)).bind (fun n3 =>
 some n3)
 else none
 else none)
def qdo (l1:List Int) (c2:List (Arr3_int64×Bool)):Int→Option (LS (Int) ((Unit) ⊕ (Bool))):=fun t3 =>
 if t3 < (l1.length:Int) then
 if (l1.length:Int) > 1 then
 if 0≤t3 then
 if t3≤(vsg.wrap (t3+1)) then
 if (vsg.wrap (t3+1))≤(l1.length:Int) then
 (qdj ((l1.drop t3.toNat).take ((vsg.wrap (t3+1)).toNat - t3.toNat))).bind fun (r4:Arr3_int64) =>
 if ((qrv c2 r4).getD false)=true then
 some (.done (.inr true))
 else
 if (l1.length:Int) > 2 then
 if (0:Int)≤t3 then
 if t3≤(l1.length:Int) then
 if 0≤(vsg.wrap (t3+1)) then
 (qcj [(l1.take (t3.toNat)),((l1.drop (vsg.wrap (t3+1)).toNat).take (l1.length - (vsg.wrap (t3+1)).toNat))]).bind fun (r5:List Int) =>
 (qdj r5).bind fun (r6:Arr3_int64) =>
 if ((qrv c2 r6).getD false)=true then
 some (.done (.inr true))
 else
 some (.next (vsg.wrap (t3+1)))
 else none
 else none
 else none
 else
 some (.next (vsg.wrap (t3+1)))
 else none
 else none
 else none
 else
 if (l1.length:Int) > 2 then
 if (0:Int)≤t3 then
 if t3≤(l1.length:Int) then
 if 0≤(vsg.wrap (t3+1)) then
 if (vsg.wrap (t3+1))≤(l1.length:Int) then
 (qcj [(l1.take (t3.toNat)),((l1.drop (vsg.wrap (t3+1)).toNat).take (l1.length - (vsg.wrap (t3+1)).toNat))]).bind fun (r7:List Int) =>
 (qdj r7).bind fun (r8:Arr3_int64) =>
 if ((qrv c2 r8).getD false)=true then
 some (.done (.inr true))
 else
 some (.next (vsg.wrap (t3+1)))
 else none
 else none
 else none
 else none
 else
 some (.next (vsg.wrap (t3+1)))
 else
 some (.done (.inl ()))
def qey (l1:List Int) (c2:List (Arr3_int64×Bool)):Option (Bool) :=
 (qal (qdo l1 c2) 0).bind (fun o=>match o with
 | .inl () =>
 some false
 | .inr r3 =>
 some r3)
def qez (s1:List Int) (s2:List Int):Int→Option (LS (Int) ((Unit) ⊕ (Bool))):=fun t3 =>
 if t3 < (s1.length:Int) then
 (idx s1 t3).bind fun (x4:Int) =>
 (idx s2 t3).bind fun (x5:Int) =>
 if (x4 != x5)=true then
 some (.done (.inr false))
 else
 some (.next (vsg.wrap (t3+1)))
 else
 some (.done (.inl ()))
def qdr (s1:List Int) (s2:List Int):Option (Bool) :=
 if ((s1.length:Int) != (s2.length:Int))=true then
 some false
 else
 (qal (qez s1 s2) 0).bind (fun o=>match o with
 | .inl () =>
 some true
 | .inr r3 =>
 some r3)
def qec (a1:List (List Int)):((List (Arr3_int64×Bool))×Int)→Option (LS ((List (Arr3_int64×Bool))×Int) ((List (Arr3_int64×Bool)))):=fun (s2,t3) =>
 if t3 < (a1.length:Int) then
 (idx a1 t3).bind fun (x4:List Int) =>
 (qdj x4).bind fun (r5:Arr3_int64) =>
 some (.next ((qvc s2 r5 true),(vsg.wrap (t3+1))))
 else
 some (.done s2)
def qed (a1:List (List Int)) (s2:List (Arr3_int64×Bool)):(List (List Int)×Int)→Option (LS (List (List Int)×Int) (List (List Int))):=fun (o3,t4) =>
 if t4 < (a1.length:Int) then
 (idx a1 t4).bind fun (x5:List Int) =>
 (qdj x5).bind fun (r6:Arr3_int64) =>
 (show Option (Bool) from
 if ((qrv s2 r6).getD false)=true then
 (qey x5 s2).bind fun (r7:Bool) =>
 some (!r7)
 else
 some false).bind (fun t8 =>
 if t8=true then
 (qex x5).bind fun (r9:List Int) =>
 if qdi (o3.length+1) 24=true then
 some (.next ((o3++[r9]),(vsg.wrap (t4+1))))
 else none
 else
 some (.next (o3,(vsg.wrap (t4+1)))))
 else
 some (.done o3)
def qck (l1:List (List Int)) (k2:Int):(List (List Int)×Int×Int)→Option (LS (List (List Int)×Int×Int) (List (List Int)×Int)):=fun (s3,k4,k5) =>
 if k5 < (((l1.length - k2.toNat):Nat):Int) then
 (idx ((s3.drop k2.toNat).take (l1.length - k2.toNat)) k5).bind fun (x6:List Int) =>
 (idx ((s3.drop k2.toNat).take (l1.length - k2.toNat)) (vsg.wrap (k5 - 1))).bind fun (x7:List Int) =>
 (qdr x6 x7).bind fun (r8:Bool) =>
 if r8=true then
 some (.next (s3,k4,(vsg.wrap (k5+1))))
 else
 (idx s3 k4).bind fun (x9:List Int) =>
 some (.next ((s3.set k4.toNat x6),(vsg.wrap (k4+1)),(vsg.wrap (k5+1))))
 else
 some (.done (s3,k4))
def qdf (l1:List (List Int)):Int→Option (LS (Int) ((Unit) ⊕ (List (List Int)))):=fun k2 =>
 if k2 < ((l1.length:Nat):Int) then
 (idx l1 k2).bind fun (x3:List Int) =>
 (idx l1 (vsg.wrap (k2 - 1))).bind fun (x4:List Int) =>
 (qdr x3 x4).bind fun (r5:Bool) =>
 if r5=true then
 if 0≤k2 then
 if k2≤((l1.length:Nat):Int) then
 (qal (qck l1 k2) (l1,k2,1)).bind (fun (s6,k7) =>
 if 0≤k7 then
 if k7≤((s6.length:Nat):Int) then
 if (0:Int)≤k7 then
 if k7≤((((((s6.take k7.toNat)).length+((vq5 (s6.length - k7.toNat) ([]:List Int))).length)+((s6.drop (k7.toNat+(s6.length - k7.toNat)))).length):Nat):Int) then
 (some ((((s6.take k7.toNat)++(vq5 (s6.length - k7.toNat) ([]:List Int)))++(s6.drop (k7.toNat+(s6.length - k7.toNat)))):List (List Int))).bind fun (l8:List (List Int)) =>
 if k7.toNat≤l8.length then
 (some (l8.take k7.toNat:List (List Int))).bind fun (l9:List (List Int)) =>
 some (.done (.inr l9))
 else none
 else none
 else none
 else none
 else none)
 else none
 else none
 else
 some (.next (vsg.wrap (k2+1)))
 else
 some (.done (.inl ()))
def qf6 (a1:List (List Int)):Option (List (List Int)) :=
 (qal (qec a1) ([],0)).bind (fun s2 =>
 (qal (qed a1 s2) ([],0)).bind (fun o3 =>
 (q62 (fun (y4:List Int) (y5:List Int)=>qad y4 y5) o3).bind fun (l6:List (List Int)) =>
 if ((l6.length:Nat):Int) < 2 then
 some l6
 else
 (qal (qdf l6) 1).bind (fun o=>match o with
 | .inl () =>
 some l6
 | .inr t7 =>
 some t7)))
def qd3 (t1:Table) (l2:List Constraint):Int→Option (LS (Int) ((Unit) ⊕ (Hypergraph×Int))):=fun t3 =>
 if t3 < (l2.length:Int) then
 (idx l2 t3).bind fun (x4:Constraint) =>
 (qas t1 x4).bind fun (r5:List Denial×Int) =>
 if (r5.2 != 0)=true then
 some (.done (.inr ((Hypergraph.mk [] []),r5.2)))
 else
 some (.next (vsg.wrap (t3+1)))
 else
 some (.done (.inl ()))
def qfj (t1:Table) (l2:List Constraint):(List (List Int)×Int)→Option (LS (List (List Int)×Int) ((List (List Int)) ⊕ (Hypergraph×Int))):=fun (a3,t4) =>
 if t4 < (l2.length:Int) then
 (idx l2 t4).bind fun (x5:Constraint) =>
 (qbw t1 x5).bind fun (r6:List (List Int)×Int) =>
 if (r6.2 != 0)=true then
 some (.done (.inr ((Hypergraph.mk [] []),r6.2)))
 else
 if qdi (a3.length+r6.1.length) 24=true then
 some (.next ((a3++r6.1),(vsg.wrap (t4+1))))
 else none
 else
 some (.done (.inl a3))
def qfk (t1:Table):(List Int×Int)→Option (LS (List Int×Int) (List Int)):=fun (h2,t3) =>
 if t3 < (t1.Rows.length:Int) then
 (idx t1.Rows t3).bind fun (x4:Row) =>
 if qdi (h2.length+1) 8=true then
 some (.next ((h2++[x4.ID]),(vsg.wrap (t3+1))))
 else none
 else
 some (.done h2)
def qdk (t1:Table) (l2:List Constraint):Option (Hypergraph×Int) :=
 (qgq t1).bind fun (r3:Int) =>
 if (r3 != 0)=true then
 some ((Hypergraph.mk [] []),r3)
 else
 if (t1.Rows.length:Int) > 200 then
 some ((Hypergraph.mk [] []),3)
 else
 (qal (qd3 t1 l2) 0).bind (fun o=>match o with
 | .inl () =>
 (qal (qfj t1 l2) ([],0)).bind (fun o=>match o with
 | .inl a4 =>
 (qf6 a4).bind fun (r5:List (List Int)) =>
 (qal (qfk t1) ([],0)).bind (fun h6 =>
 if (r5.length:Int) > 20000 then
 some ((Hypergraph.mk [] []),3)
 else
 some ((Hypergraph.mk h6 r5),0))
 | .inr r7 =>
 some r7)
 | .inr r8 =>
 some r8)
def qgt (r1:Row) (c2:Int):Option (Bool) :=
 some (r1.ID == c2)
def qdu (d1:List Int):Int→Option (LS (Int) ((Unit) ⊕ (List Int×Int))):=fun i2 =>
 if i2 < (d1.length:Int) then
 (idx d1 i2).bind fun (x3:Int) =>
 (idx d1 (vsg.wrap (i2 - 1))).bind fun (x4:Int) =>
 if x3≤x4 then
 some (.done (.inr ([],1)))
 else
 some (.next (vsg.wrap (i2+1)))
 else
 some (.done (.inl ()))
def qf7 (t1:Table) (d2:List Int):(List Int×Int)→Option (LS (List Int×Int) ((List Int) ⊕ (List Int×Int))):=fun (o3,t4) =>
 if t4 < (d2.length:Int) then
 (idx d2 t4).bind fun (x5:Int) =>
 (qcx t1.Rows (fun (y6:Row)=>qgt y6 x5)).bind fun (r7:Int) =>
 if r7 < 0 then
 some (.done (.inr ([],4)))
 else
 if qdi (o3.length+1) 8=true then
 some (.next ((o3++[r7]),(vsg.wrap (t4+1))))
 else none
 else
 some (.done (.inl o3))
def qie (t1:Table) (d2:List Int):Option (List Int×Int) :=
 (qal (qdu d2) 1).bind (fun o=>match o with
 | .inl () =>
 (qal (qf7 t1 d2) ([],0)).bind (fun o=>match o with
 | .inl o3 =>
 some (o3,0)
 | .inr r4 =>
 some r4)
 | .inr r5 =>
 some r5)
def qht (t1:Table) (l2:List Constraint) (d3:List Int):Option (Hypergraph×Int) :=
 (qdk t1 l2).bind fun (r4:Hypergraph×Int) =>
 if (r4.2 != 0)=true then
 some (r4.1,r4.2)
 else
 (qie t1 d3).bind fun (r5:List Int×Int) =>
 some (r4.1,r5.2)
def qbf (s1:List (List Int)) (f2:(List Int)→Option (Bool)):Int→Option (LS (Int) ((Unit) ⊕ (Int))):=fun t3 =>
 if t3 < (s1.length:Int) then
 (idx s1 t3).bind fun (x4:List Int) =>
 (f2 x4).bind fun (r5:Bool) =>
 if r5=true then
 some (.done (.inr t3))
 else
 some (.next (vsg.wrap (t3+1)))
 else
 some (.done (.inl ()))
def qcu (s1:List (List Int)) (f2:(List Int)→Option (Bool)):Option (Int) :=
 (qal (qbf s1 f2) 0).bind (fun o=>match o with
 | .inl () =>
 some (-1)
 | .inr r3 =>
 some r3)
def qbg (s1:List (List Int)) (f2:(List Int)→Option (Bool)):Option (Bool) :=
 (qcu s1 f2).bind fun (r3:Int) =>
 some (decide (r3≥0))
def qbk (s1:List Int) (f2:Int→Option (Bool)):Int→Option (LS (Int) ((Unit) ⊕ (Int))):=fun t3 =>
 if t3 < (s1.length:Int) then
 (idx s1 t3).bind fun (x4:Int) =>
 (f2 x4).bind fun (r5:Bool) =>
 if r5=true then
 some (.done (.inr t3))
 else
 some (.next (vsg.wrap (t3+1)))
 else
 some (.done (.inl ()))
def qca (s1:List Int) (f2:Int→Option (Bool)):Option (Int) :=
 (qal (qbk s1 f2) 0).bind (fun o=>match o with
 | .inl () =>
 some (-1)
 | .inr r3 =>
 some r3)
def qbl (s1:List Int) (f2:Int→Option (Bool)):Option (Bool) :=
 (qca s1 f2).bind fun (r3:Int) =>
 some (decide (r3≥0))
def qco (s1:List Int) (v2:Int):Int→Option (LS (Int) ((Unit) ⊕ (Int))):=fun t3 =>
 if t3 < (s1.length:Int) then
 (idx s1 t3).bind fun (x4:Int) =>
 if (v2 == x4)=true then
 some (.done (.inr t3))
 else
 some (.next (vsg.wrap (t3+1)))
 else
 some (.done (.inl ()))
def qe0 (s1:List Int) (v2:Int):Option (Int) :=
 (qal (qco s1 v2) 0).bind (fun o=>match o with
 | .inl () =>
 some (-1)
 | .inr r3 =>
 some r3)
def qdp (s1:List Int) (v2:Int):Option (Bool) :=
 (qe0 s1 v2).bind fun (r3:Int) =>
 some (decide (r3≥0))
def qfl (i1:Int) (c2:List Int):Option (Bool) :=
 (qdp c2 i1).bind fun (r3:Bool) =>
 some r3
def qg2 (e1:List Int) (c2:List Int):Option (Bool) :=
 (qbl e1 (fun (y3:Int)=>qfl y3 c2)).bind fun (r4:Bool) =>
 some (!r4)
def qgu (h1:Hypergraph) (d2:List Int):Option (Bool) :=
 (qbg h1.Edges (fun (y3:List Int)=>qg2 y3 d2)).bind fun (r4:Bool) =>
 some (!r4)
def qgv (x1:Int) (c2:Int):Option (Bool) :=
 some (x1 == c2)
def qif (i1:Int):(List Int×Int×Int)→Option (LS (List Int×Int×Int) (List Int×Int)):=fun (s2,i3,j4) =>
 if j4 < ((s2.length:Nat):Int) then
 (idx s2 j4).bind fun (x5:Int) =>
 (qgv x5 i1).bind fun (r6:Bool) =>
 if r6=true then
 some (.next (s2,i3,(vsg.wrap (j4+1))))
 else
 (idx s2 i3).bind fun (x7:Int) =>
 some (.next ((s2.set i3.toNat x5),(vsg.wrap (i3+1)),(vsg.wrap (j4+1))))
 else
 some (.done (s2,i3))
def qjv (l1:List Int) (i2:Int):Option (List Int) :=
 if qdi l1.length 8=true then
 (qca l1 (fun (y3:Int)=>qgv y3 i2)).bind fun (r4:Int) =>
 if (r4 == (-1))=true then
 some l1
 else
 (qal (qif i2) (l1,r4,(vsg.wrap (r4+1)))).bind (fun (s5,i6) =>
 if 0≤i6 then
 if i6≤((s5.length:Nat):Int) then
 if (0:Int)≤i6 then
 if i6≤((((((s5.take i6.toNat)).length+((vq5 (s5.length - i6.toNat) 0)).length)+((s5.drop (i6.toNat+(s5.length - i6.toNat)))).length):Nat):Int) then
 (some ((((s5.take i6.toNat)++(vq5 (s5.length - i6.toNat) 0))++(s5.drop (i6.toNat+(s5.length - i6.toNat)))):List Int)).bind fun (l7:List Int) =>
 if i6.toNat≤l7.length then
 (some (l7.take i6.toNat:List Int)).bind fun (l8:List Int) =>
 some l8
 else none
 else none
 else none
 else none
 else none)
 else none
def qeo (i1:Int) (c2:Hypergraph) (c3:List Int):Option (Bool) :=
 (qjv c3 i1).bind fun (r4:List Int) =>
 (qgu c2 r4).bind fun (r5:Bool) =>
 some r5
def qgf (t1:Table) (l2:List Constraint) (d3:List Int):Option (Bool×Int) :=
 (qht t1 l2 d3).bind fun (r4:Hypergraph×Int) =>
 if (r4.2 != 0)=true then
 some (false,r4.2)
 else
 (qgu r4.1 d3).bind fun (r5:Bool) =>
 if r5=true then
 (qbl d3 (fun (y6:Int)=>qeo y6 r4.1 d3)).bind fun (r7:Bool) =>
 some ((!r7),0)
 else
 some (false,r4.2)
def qbx (l1:List Int):Int→Option (LS (Int) ((Unit) ⊕ (Bool))):=fun i2 =>
 if i2 < (l1.length:Int) then
 (idx l1 i2).bind fun (x3:Int) =>
 (idx l1 (vsg.wrap (i2 - 1))).bind fun (x4:Int) =>
 if x3≤x4 then
 some (.done (.inr false))
 else
 some (.next (vsg.wrap (i2+1)))
 else
 some (.done (.inl ()))
def qe1 (l1:List Int):Option (Bool) :=
 (qal (qbx l1) 1).bind (fun o=>match o with
 | .inl () =>
 some true
 | .inr r2 =>
 some r2)
def qds (x1:Int):Option (Bool) :=
 some (x1 != x1)
def qar (x1:List Int) (t2:Int):(Int×Int)→Option (LS (Int×Int) (Int)):=fun (i3,j4) =>
 if i3 < j4 then
 (idx x1 (vsg.wrap (vt9 (vub.wrap (vsg.wrap (i3+j4))) (2 ^ (min 1 64))))).bind fun (x5:Int) =>
 (qhf x5 t2).bind fun (r6:Bool) =>
 if r6=true then
 some (.next ((vsg.wrap ((vsg.wrap (vt9 (vub.wrap (vsg.wrap (i3+j4))) (2 ^ (min 1 64))))+1)),j4))
 else
 some (.next (i3,(vsg.wrap (vt9 (vub.wrap (vsg.wrap (i3+j4))) (2 ^ (min 1 64))))))
 else
 some (.done i3)
def qav (x1:List Int) (t2:Int):Option (Int×Bool) :=
 (qal (qar x1 t2) (0,(x1.length:Int))).bind (fun i3 =>
 if i3 < (x1.length:Int) then
 (idx x1 i3).bind fun (x4:Int) =>
 if (x4 == t2)=true then
 some (i3,true)
 else
 (qds x4).bind fun (r5:Bool) =>
 if r5=true then
 (qds t2).bind fun (r6:Bool) =>
 some (i3,r6)
 else
 some (i3,false)
 else
 some (i3,false))
def qc0 (l1:List Int) (p2:List Int):Int→Option (LS (Int) ((Unit) ⊕ (Bool))):=fun t3 =>
 if t3 < (p2.length:Int) then
 (idx p2 t3).bind fun (x4:Int) =>
 (qav l1 x4).bind fun (r5:Int×Bool) =>
 if r5.2=true then
 some (.next (vsg.wrap (t3+1)))
 else
 some (.done (.inr false))
 else
 some (.done (.inl ()))
def qd4 (l1:List Int) (p2:List Int):Option (Bool) :=
 (qal (qc0 l1 p2) 0).bind (fun o=>match o with
 | .inl () =>
 some true
 | .inr r3 =>
 some r3)
def qcb (m1:List Int) (c2:List Int):Option (Bool) :=
 (qd4 c2 m1).bind fun (r3:Bool) =>
 some r3
def qb5 (h1:Hypergraph) (l2:List Int):Option (Bool) :=
 (qe1 l2).bind fun (r3:Bool) =>
 if r3=true then
 (qd4 h1.Vertices l2).bind fun (r4:Bool) =>
 if r4=true then
 (qbg h1.Edges (fun (y5:List Int)=>qcb y5 l2)).bind fun (r6:Bool) =>
 some (!r6)
 else
 some false
 else
 some false
def qdg (h1:Hypergraph) (l2:List Int):Int→Option (LS (Int) ((Unit) ⊕ (Bool))):=fun t3 =>
 if t3 < (h1.Vertices.length:Int) then
 (idx h1.Vertices t3).bind fun (x4:Int) =>
 (qav l2 x4).bind fun (r5:Int×Bool) =>
 if r5.2=true then
 some (.next (vsg.wrap (t3+1)))
 else
 if l2.length≤1000000000 then
 if (0:Int)≤r5.1 then
 if r5.1≤((l2.length:Nat):Int) then
 (qb5 h1 (qm3 l2 r5.1.toNat x4)).bind fun (r6:Bool) =>
 if r6=true then
 some (.done (.inr false))
 else
 some (.next (vsg.wrap (t3+1)))
 else none
 else none
 else none
 else
 some (.done (.inl ()))
def qf8 (h1:Hypergraph) (l2:List Int):Option (Bool) :=
 (qb5 h1 l2).bind fun (r3:Bool) =>
 if r3=true then
 (qal (qdg h1 l2) 0).bind (fun o=>match o with
 | .inl () =>
 some true
 | .inr r4 =>
 some r4)
 else
 some false
def qe2 (d1:List Int) (r2:Hypergraph×Int):(List Int×Int)→Option (LS (List Int×Int) (List Int)):=fun (o3,t4) =>
 if t4 < (d1.length:Int) then
 (idx d1 t4).bind fun (x5:Int) =>
 (qjv o3 x5).bind fun (r6:List Int) =>
 (qgu r2.1 r6).bind fun (r7:Bool) =>
 if r7=true then
 some (.next (r6,(vsg.wrap (t4+1))))
 else
 some (.next (o3,(vsg.wrap (t4+1))))
 else
 some (.done o3)
def qgw (t1:Table) (l2:List Constraint) (d3:List Int):Option (List Int×Int) :=
 (qht t1 l2 d3).bind fun (r4:Hypergraph×Int) =>
 if (r4.2 != 0)=true then
 some ([],r4.2)
 else
 (qgu r4.1 d3).bind fun (r5:Bool) =>
 if r5=true then
 (qex d3).bind fun (r6:List Int) =>
 (qal (qe2 d3 r4) (r6,0)).bind (fun o7 =>
 some (o7,0))
 else
 some ([],15)
def qd5 (l1:List Int) (i2:Int):Int→Option (LS (Int) ((Unit) ⊕ (Bool))):=fun i3 =>
 if i3 < (l1.length:Int) then
 (idx l1 i3).bind fun (x4:Int) =>
 if (x4 == i2)=true then
 some (.done (.inr true))
 else
 some (.next (vsg.wrap (i3+1)))
 else
 some (.done (.inl ()))
def qhg (l1:List Int) (i2:Int):Option (Bool) :=
 (qal (qd5 l1 i2) 0).bind (fun o=>match o with
 | .inl () =>
 some false
 | .inr r3 =>
 some r3)
def qhh (l1:List Int) (x2:Int):Option (Bool) :=
 (qhg l1 x2).bind fun (r3:Bool) =>
 some r3
def qc1 (a1:List Int) (b2:List Int):Int→Option (LS (Int) ((Unit) ⊕ (Bool))):=fun i3 =>
 if i3 < (a1.length:Int) then
 (idx a1 i3).bind fun (x4:Int) =>
 (qhh b2 x4).bind fun (r5:Bool) =>
 if r5=true then
 some (.next (vsg.wrap (i3+1)))
 else
 some (.done (.inr false))
 else
 some (.done (.inl ()))
def qfm (a1:List Int) (b2:List Int):Option (Bool) :=
 (qal (qc1 a1 b2) 0).bind (fun o=>match o with
 | .inl () =>
 some true
 | .inr r3 =>
 some r3)
def qfu (c1:Drossref41_Case) (b2:Int):Option (Bool) :=
 (qh9 c1).bind fun (r3:Table×List Constraint×List Int×Bool) =>
 (show Option (Bool) from
 (qhi ).bind fun (r4:Bool) =>
 if r4=true then
 some (!r3.2.2.2)
 else
 some true).bind (fun t5 =>
 if t5=true then
 (qhi ).bind fun (r6:Bool) =>
 some r6
 else
 (qfc (r3.1.Rows.length:Int)).bind fun (r7:Int) =>
 (qd9 r3.1 (vsg.wrap ((BitVec.ofInt 64 (vsg.wrap b2) &&& (BitVec.ofInt 64 (vsg.wrap r7))).toNat:Int))).bind fun (r8:List Int) =>
 (qdk r3.1 r3.2.1).bind fun (r9:Hypergraph×Int) =>
 (qgf r3.1 r3.2.1 r8).bind fun (r10:Bool×Int) =>
 if (r9.2 != 0)=true then
 some false
 else
 if (r10.2 != 0)=true then
 some false
 else
 (qd9 r3.1 (vsg.wrap ((BitVec.ofInt 64 (vsg.wrap r7) &&& ~~~ (BitVec.ofInt 64 (vsg.wrap b2))).toNat:Int))).bind fun (r11:List Int) =>
 (qf8 r9.1 r11).bind fun (r12:Bool) =>
 if (r10.1 == r12)=true then
 (qgw r3.1 r3.2.1 r8).bind fun (r13:List Int×Int) =>
 (qd9 r3.1 (vsg.wrap ((BitVec.ofInt 64 (vsg.wrap r7) &&& ~~~ (BitVec.ofInt 64 (vsg.wrap b2))).toNat:Int))).bind fun (r14:List Int) =>
 (qb5 r9.1 r14).bind fun (r15:Bool) =>
 if r15=true then
 (qgf r3.1 r3.2.1 r13.1).bind fun (r16:Bool×Int) =>
 if (r13.2 == 0)=true then
 if (r16.2 == 0)=true then
 if r16.1=true then
 (qfm r13.1 r8).bind fun (r17:Bool) =>
 some r17
 else
 some false
 else
 some false
 else
 some false
 else
 if (r13.2 == 15)=true then
 some ((r13.1.length:Int) == 0)
 else
 some false
 else
 some false)
end Go.Proofs.YtfnmcjkkfnhpnaaGreatDoor
namespace Go.Ab
open Go
def qvf {α β τ:Type} (f:β→α→β ⊕ τ) (fin:β→τ):List α→β→τ
 | [],b=>fin b
 | x :: r,b=>match f b x with
  | .inl b'=>qvf f fin r b'
  | .inr t=>t
theorem q2f {α β σ τ:Type} (l:List α) (S:β→Int→σ) (B:σ→Option (LS σ τ)) (f:β→α→β ⊕ τ) (fin:β→τ) (I:Nat→β→Prop)
  (hs:∀(k:Nat) b x,l[k]?=some x→I k b→(∀b',f b x=.inl b'→B (S b k)=some (.next (S b' (k+1:Nat)))∧I (k+1) b')∧(∀t,f b x=.inr t→B (S b k)=some (.done t)))
  (he:∀b,I l.length b→B (S b l.length)=some (.done (fin b))) :
  ∀(r:List α) (k:Nat) (b:β),l.drop k=r→k≤l.length→I k b→qal B (S b k)=some (qvf f fin r b):=by
 intro r
 induction r with
 | nil =>
  intro k b hd hk hI;have:k=l.length:=by
   have:=congrArg vue hd;simp at this;omega
  subst this;exact qat (he b hI)
 | cons x r ih =>
  intro k b hd hk hI;have hx:l[k]?=some x:=by
   have:=congrArg (·[0]?) hd;simpa [vqc] using this
  have hlt:k < l.length:=(List.getElem?_eq_some_iff.1 hx).1;have hd':l.drop (k+1)=r:=by
   rw [←vuc,hd];rfl
  obtain ⟨h1,h2⟩:=hs k b x hx hI;cases hf:f b x with
  | inl b' =>
   obtain ⟨h3,h4⟩:=h1 b' hf;rw [qbd h3,ih (k+1) b' hd' hlt h4];simp [qvf,hf]
  | inr t =>
   rw [qat (h2 t hf)];simp [qvf,hf]
theorem qq8 {α β σ τ:Type} (l:List α) (S:β→Int→σ) (B:σ→Option (LS σ τ)) (f:β→α→β ⊕ τ) (fin:β→τ) (I:Nat→β→Prop) {b0:β} {s0:σ} (h0:s0=S b0 0) (hI:I 0 b0)
  (hs:∀(k:Nat) b x,l[k]?=some x→k < l.length→I k b→(∀b',f b x=.inl b'→B (S b k)=some (.next (S b' (k+1:Nat)))∧I (k+1) b')∧(∀t,f b x=.inr t→B (S b k)=some (.done t)))
  (he:∀b,I l.length b→B (S b l.length)=some (.done (fin b))):qal B s0=some (qvf f fin l b0):=by
 subst h0;exact q2f l S B f fin I (fun k b x hx=>hs k b x hx (qcr hx)) he l 0 b0 rfl (Nat.zero_le _) hI
theorem qbo {k n:Nat} (h:k < n) (hn:n≤4611686018427387904):vsg.wrap ((k:Int)+1)=((k+1:Nat):Int):=by
 rw [wrap_i64 (by omega) (by omega)];omega
theorem qdl {k:Nat} (h:k < 4611686018427387904):vsg.wrap ((k:Int)+1)=((k+1:Nat):Int):=by
 rw [wrap_i64 (by omega) (by omega)];omega
theorem wqn (k:Nat) (h:k < 4611686018427387904:=by omega):vsg.wrap ((k:Int)+1)=((k+1:Nat):Int):=qdl h
theorem qdv {n b:Nat} (h:n≤1073741824) (hb:b≤65536):qdi n b=true:=by
 unfold qdi;have:n * b≤1073741824 * 65536:=Nat.mul_le_mul h hb;simp only [decide_eq_true_eq];omega
theorem qae {α:Type} {l:List α} {k:Nat} {x:α} (h:l[k]?=some x):idx l (k:Int)=some x:=by rw [q79,h]
theorem qak {α:Type} {l:List α} {k:Nat} {x:α} (h:l[k]?=some x):((k:Int) < (l.length:Int)):=by have:=qcr h;omega
theorem qz7 {α β τ:Type} (g:β→α→β) (fin:β→τ):∀(l:List α) (b:β),qvf (fun b x=>(Sum.inl (g b x):β ⊕ τ)) fin l b=fin (l.foldl g b)
 | [],_=>rfl
 | x :: r,b=>by simp only [qvf,List.foldl_cons];exact qz7 g fin r _
theorem qlv {α ρ:Type} (l:List α) (B:Int→Option (LS Int (Unit ⊕ ρ))) (p:α→Bool) (bad:ρ)
  (h1:∀(k:Nat) x,l[k]?=some x→k < l.length→p x=true→B k=some (.next (k+1:Nat))) (h2:∀(k:Nat) x,l[k]?=some x→p x=false→B k=some (.done (.inr bad))) (h3:B l.length=some (.done (.inl ()))) :
  qal B 0=some (if l.all p then .inl () else .inr bad):=by
 have h:=qq8 l (fun (_:Unit) i=>i) B (fun (_:Unit) x=>if p x then Sum.inl () else Sum.inr (Sum.inr bad)) (fun _=>Sum.inl ()) (fun _ _=>True) (b0:=()) (s0:=0) rfl trivial
  (fun k b x hx hk _=>by
   constructor
   ·intro b' hf;refine ⟨?_,trivial⟩;rcases vt8 (p x) with hp | hp
    ·exact h1 k x hx hk hp
    ·simp [hp] at hf
   ·intro t hf;rcases vt8 (p x) with hp | hp
    ·simp [hp] at hf
    ·simp [hp] at hf;subst hf;exact h2 k x hx hp)
  (fun b _=>h3)
 rw [h];congr 1;clear h h1 h2 h3
 induction l with
 | nil=>rfl
 | cons x r ih=>rcases vt8 (p x) with hp | hp <;> simp [qvf,hp,ih]
theorem qg3 {α:Type} (l:List α) (B:Int→Option (LS Int (Unit ⊕ Int))) (p:α→Bool)
  (h1:∀(k:Nat) x,l[k]?=some x→k < l.length→p x=false→B k=some (.next (k+1:Nat))) (h2:∀(k:Nat) x,l[k]?=some x→p x=true→B k=some (.done (.inr k))) (h3:B l.length=some (.done (.inl ()))) :
  qal B 0=some (match l.findIdx? p with | some i=>.inr (i:Int) | none=>.inl ()):=by
 have key:∀(r:List α) (k:Nat),l.drop k=r→k≤l.length→qal B (k:Int)=some (match r.findIdx? p with | some i=>.inr ((k+i:Nat):Int) | none=>.inl ()):=by
  intro r
  induction r with
  | nil =>
   intro k hd hk;have:k=l.length:=by
    have:=congrArg vue hd;simp at this;omega
   subst this;exact qat h3
  | cons x r ih =>
   intro k hd hk;have hx:l[k]?=some x:=by
    have:=congrArg (·[0]?) hd;simpa [vqc] using this
   have hd':l.drop (k+1)=r:=by rw [←vuc,hd];rfl
   rcases vt8 (p x) with hp | hp
   ·rw [qat (h2 k x hx hp)];simp [vud,hp]
   ·rw [qbd (h1 k x hx (qcr hx) hp),ih (k+1) hd' (qcr hx)];simp only [vud,hp];cases r.findIdx? p with
    | none=>rfl
    | some i=>simp;omega
 have:=key l 0 (by simp) (Nat.zero_le _);simpa using this
theorem qe5 {α β σ τ:Type} (l:List α) (S:β→Int→σ) (B:σ→Option (LS σ τ)) (g:β→α→β) (fin:β→τ) (I:Nat→β→Prop) {b0:β} {s0:σ} (h0:s0=S b0 0) (hI:I 0 b0)
  (hs:∀(k:Nat) b x,l[k]?=some x→k < l.length→I k b→B (S b k)=some (.next (S (g b x) (k+1:Nat)))∧I (k+1) (g b x))
  (he:∀b,I l.length b→B (S b l.length)=some (.done (fin b))):qal B s0=some (fin (l.foldl g b0)):=by
 rw [qq8 l S B (fun b x=>Sum.inl (g b x)) fin I h0 hI (fun k b x hx hk hi=>⟨fun b' hb=>by cases hb;exact hs k b x hx hk hi,fun t ht=>by cases ht⟩) he,qz7]
def okI (k:IntKind) (n:Int):Prop:=(Lit.int k n).wf=true
def okS (s:List UInt8):Prop:=s.length≤1048576
def okL {α:Type} (ok:α→Prop) (l:List α):Prop:=l.length≤1048576∧∀x∈l,ok x
def qgx {α:Type} (p:Nat→α→Bool):Nat→List α→Bool
 | _,[]=>true
 | k,x :: r=>p k x && qgx p (k+1) r
theorem qq9 {α ρ:Type} (l:List α) (B:Int→Option (LS Int (Unit ⊕ ρ))) (p:Nat→α→Bool) (bad:ρ)
  (h1:∀(k:Nat) x,l[k]?=some x→k < l.length→p k x=true→B k=some (.next (k+1:Nat))) (h2:∀(k:Nat) x,l[k]?=some x→p k x=false→B k=some (.done (.inr bad))) (h3:B l.length=some (.done (.inl ()))) :
  ∀(r:List α) (k:Nat),l.drop k=r→k≤l.length→qal B (k:Int)=some (if qgx p k r then .inl () else .inr bad):=by
 intro r
 induction r with
 | nil =>
  intro k hd hk;have:k=l.length:=by
   have:=congrArg vue hd;simp at this;omega
  subst this;exact qat h3
 | cons x r ih =>
  intro k hd hk;have hx:l[k]?=some x:=by
   have:=congrArg (·[0]?) hd;simpa [vqc] using this
  have hd':l.drop (k+1)=r:=by rw [←vuc,hd];rfl
  rcases vt8 (p k x) with hp | hp
  ·rw [qbd (h1 k x hx (qcr hx) hp),ih (k+1) hd' (qcr hx)];simp [qgx,hp]
  ·rw [qat (h2 k x hx hp)];simp [qgx,hp]
theorem qt0 {α:Type} (q:α→Bool):∀(l:List α) (k:Nat),qgx (fun _ x=>q x) k l=l.all q
 | [],_=>rfl
 | x :: r,k=>by simp [qgx,qt0 q r]
theorem qp8 {α:Type} {p q:Nat→α→Bool}:∀(l:List α) (k:Nat),(∀j x,k≤j→x∈l→p j x=q j x)→qgx p k l=qgx q k l
 | [],_,_=>rfl
 | x :: r,k,h=>by
  simp only [qgx];rw [h k x (Nat.le_refl _) (by simp),qp8 r (k+1) (fun j y hj hy=>h j y (by omega) (by simp [hy]))]
theorem qt1 {n:Nat} (h:n≤17592186044416):qdi n 8=true:=by
 unfold qdi;simp only [decide_eq_true_eq];omega
end Go.Ab
namespace Go.Proofs.YtfnmcjkkfnhpnaaGreatDoor
open Go Go.Ab
def q9s (x:Value):Prop:=(okI .i64) x.Kind∧(okI .i64) x.Num∧okS x.Str
def qfv (x:Drossref03_Recipe):Prop:=(okI .u8) x.Attrs∧(okI .u8) x.Gap∧(okL (okL (okI .u8))) x.Rows
def okRow (x:Row):Prop:=(okI .i64) x.ID∧(okL q9s) x.Values
def qo9 (x:Table):Prop:=okS x.Name∧(okL okS) x.Attrs∧(okL okRow) x.Rows
def qgi (x:Drossref16_Draft):Prop:=(okI .u8) x.Lhs∧(okI .u8) x.Rhs∧(okL (okI .u8)) x.Codes
def qgj (x:Drossref17_Lists):Prop:=(okL (okI .u8)) x.X∧(okL (okI .u8)) x.Y
def qfn (x:Drossref18_Side):Prop:=(okI .u8) x.Var∧(okI .u8) x.Code
def qe3 (x:Drossref18_Sentence):Prop:=qfn x.Left∧(okI .u8) x.Op∧qfn x.Right
def qfw (x:Drossref18_Recipe):Prop:=(okI .u8) x.Vars∧(okL qe3) x.Atoms
def qhj (x:Drossref09_Dep):Prop:=(okI .u8) x.L∧(okI .u8) x.R
def qd6 (x:Drossref37_Rule):Prop:=(okI .u8) x.Kind∧qhj x.F∧qgi x.C∧qgj x.O∧qfw x.N
def qg4 (x:Drossref41_Case):Prop:=qfv x.T∧(okL qd6) x.Rules∧(okL (okI .u8)) x.Weights
end Go.Proofs.YtfnmcjkkfnhpnaaGreatDoor

/- -/
import Derived.Test.YtkebadaokhljmaaGreatDoorA3
import Derived.Test.YtkebadaokhljmaaGreatDoorA2
set_option linter.unusedVariables false
set_option linter.unusedSimpArgs false
open Bool renaming eq_false_or_eq_true→v7s
open Int renaming fdiv→v7t,tmod→v7u
open Go.IntKind renaming i32→v7v,i64→v67,u32→v68,u64→v7w,u8→v7x
open List renaming drop_drop→v7y,findIdx?_cons→v7z,getElem?_drop→v3c,length→v71,replicate→v4a
noncomputable section
namespace Go.Proofs.YtkebadaokhljmaaGreatDoor
open Go Go.Ab
structure Value where
 Kind:Int
 Num:Int
 Str:List UInt8
 deriving DecidableEq
structure Drossref03_Recipe where
 Attrs:Int
 Gap:Int
 Rows:List (List Int)
 deriving DecidableEq
structure Row where
 ID:Int
 Values:List Value
 deriving DecidableEq
structure Table where
 Name:List UInt8
 Attrs:List (List UInt8)
 Rows:List Row
 deriving DecidableEq
structure Drossref16_Draft where
 Lhs:Int
 Rhs:Int
 Codes:List Int
 deriving DecidableEq
structure Cell where
 Any:Bool
 Value:Value
 deriving DecidableEq
structure CFD where
 Lhs:List Int
 Rhs:Int
 Pattern:List Cell
 deriving DecidableEq
structure Drossref17_Lists where
 X:List Int
 Y:List Int
 deriving DecidableEq
structure OD where
 Lhs:List Int
 Rhs:List Int
 deriving DecidableEq
structure Drossref18_Side where
 Var:Int
 Code:Int
 deriving DecidableEq
structure Term where
 Var:Int
 Attr:Int
 Value:Value
 deriving DecidableEq
structure Drossref18_Sentence where
 Left:Drossref18_Side
 Op:Int
 Right:Drossref18_Side
 deriving DecidableEq
structure Drossref18_Recipe where
 Vars:Int
 Atoms:List Drossref18_Sentence
 deriving DecidableEq
structure Atom where
 Left:Term
 Op:Int
 Right:Term
 deriving DecidableEq
structure Denial where
 Vars:Int
 Atoms:List Atom
 deriving DecidableEq
structure Drossref09_Dep where
 L:Int
 R:Int
 deriving DecidableEq
structure FD where
 Lhs:Int
 Rhs:Int
 deriving DecidableEq
structure Drossref37_Rule where
 Kind:Int
 F:Drossref09_Dep
 C:Drossref16_Draft
 O:Drossref17_Lists
 N:Drossref18_Recipe
 deriving DecidableEq
structure IND where
 From:List UInt8
 Lhs:List Int
 To:List UInt8
 Rhs:List Int
 deriving DecidableEq
structure Constraint where
 Name:List UInt8
 Table:List UInt8
 Kind:Int
 FD:FD
 MVD:YtkebadaokhljmaaGreatDoor.FD
 IND:IND
 CFD:CFD
 OD:OD
 Denial:Denial
 deriving DecidableEq
structure Arr3_int64 where
 x0:Int
 x1:Int
 x2:Int
 deriving DecidableEq
structure Hypergraph where
 Vertices:List Int
 Edges:List (List Int)
 deriving DecidableEq
structure Database where
 Tables:List Table
 deriving DecidableEq
structure Partition where
 Rows:Int
 Classes:List (List Int)
 deriving DecidableEq
structure Violation where
 Constraint:Int
 Rows:List Int
 deriving DecidableEq
def qda (code_1:Int):Option (Value) :=
 if ((v7u code_1 12) == 0)=true then
 some (Value.mk 1 0 [])
 else
 if ((v7u code_1 12) == 1)=true then
 some (Value.mk 1 1 [])
 else
 if ((v7u code_1 12) == 2)=true then
 some (Value.mk 1 2 [])
 else
 if ((v7u code_1 12) == 3)=true then
 some (Value.mk 0 0 [])
 else
 if ((v7u code_1 12) == 4)=true then
 some (Value.mk 2 0 [97])
 else
 if ((v7u code_1 12) == 5)=true then
 some (Value.mk 2 0 [98])
 else
 if ((v7u code_1 12) == 6)=true then
 some (Value.mk 2 0 [])
 else
 if ((v7u code_1 12) == 7)=true then
 some (Value.mk 3 1 [])
 else
 if ((v7u code_1 12) == 8)=true then
 some (Value.mk 1 (-1) [])
 else
 if ((v7u code_1 12) == 9)=true then
 some (Value.mk 2 0 [97,98])
 else
 if ((v7u code_1 12) == 10)=true then
 some (Value.mk 3 2 [])
 else
 some (Value.mk 1 7 [])
def qfx (x_14:Drossref03_Recipe) (n_15:Int) (i_77:Int):(List Value×Int)→Option (LS (List Value×Int) (List Value)):=fun (r1,k2) =>
 if k2 < n_15 then
 (idx x_14.Rows i_77).bind fun (x3:List Int) =>
 if k2 < (x3.length:Int) then
 (idx x3 k2).bind fun (x4:Int) =>
 (qda x4).bind fun (r5:Value) =>
 if qbi (r1.length+1) 32=true then
 some (.next ((r1++[r5]),(v67.wrap (k2+1))))
 else none
 else
 (qda 0).bind fun (r6:Value) =>
 if qbi (r1.length+1) 32=true then
 some (.next ((r1++[r6]),(v67.wrap (k2+1))))
 else none
 else
 some (.done r1)
def qfy (x_14:Drossref03_Recipe) (n_15:Int):(List Row×Int)→Option (LS (List Row×Int) (List Row)):=fun (t_76,i_77) =>
 if i_77 < (x_14.Rows.length:Int) then
 (qaj (qfx x_14 n_15 i_77) ([],0)).bind (fun r1 =>
 if qbi (t_76.length+1) 32=true then
 some (.next ((t_76++[(Row.mk (v67.wrap (1+(v67.wrap (i_77 * (v67.wrap (1+(v67.wrap (v7u x_14.Gap 3)))))))) r1)]),(v67.wrap (i_77+1))))
 else none)
 else
 some (.done t_76)
def qh4 (x_14:Drossref03_Recipe) (n_15:Int):Option (Table) :=
 if (0:Int)≤n_15 then
 if n_15≤8 then
 (some ([[97],[98],[99],[100],[101],[102],[103],[104]]:List (List UInt8))).bind fun (l_23:List (List UInt8)) =>
 if qbi ((l_23.take n_15.toNat).length) 16=true then
 (qaj (qfy x_14 n_15) ([],0)).bind (fun t1 =>
 some (Table.mk [114] (l_23.take n_15.toNat) t1))
 else none
 else none
 else none
def qeo (x1:Drossref03_Recipe) (m2:Int):Option (Table×Bool) :=
 if (x1.Rows.length:Int) > m2 then
 some ((Table.mk [] [] []),false)
 else
 (qh4 x1 (v67.wrap (v7u x1.Attrs 6))).bind fun (r3:Table) =>
 some (r3,true)
def qhm (s1:Int) (i2:Int):Option (Bool) :=
 if i2≥0 then
 if i2 < 32 then
 if i2 < 0 then none else
 some ((v68.wrap ((BitVec.ofInt 32 (v7t s1 (2 ^ (min (i2).toNat 32))) &&& (1#32)).toNat:Int)) == 1)
 else
 some false
 else
 some false
def qhd (n1:Int) (d2:Drossref16_Draft):(List Int×Int)→Option (LS (List Int×Int) (List Int)):=fun (c3,a4) =>
 if a4 < n1 then
 (show Option (Bool) from
 (qhm (v68.wrap d2.Lhs) a4).bind fun (r5:Bool) =>
 if r5=true then
 some (a4 != (v7u (v67.wrap d2.Rhs) n1))
 else
 some false).bind (fun t6 =>
 if t6=true then
 if qbi (c3.length+1) 8=true then
 some (.next ((c3++[a4]),(v67.wrap (a4+1))))
 else none
 else
 some (.next (c3,(v67.wrap (a4+1)))))
 else
 some (.done c3)
def qhe (d1:Drossref16_Draft) (c2:List Int):(List Cell×Int)→Option (LS (List Cell×Int) (List Cell)):=fun (c3,k4) =>
 if k4≤((c2.length:Nat):Int) then
 (show Option (Bool) from
 if k4≥(d1.Codes.length:Int) then
 some true
 else
 (idx d1.Codes k4).bind fun (x5:Int) =>
 some ((v7u x5 2) == 0)).bind (fun t6 =>
 if t6=true then
 if qbi (c3.length+1) 40=true then
 some (.next ((c3++[(Cell.mk true (Value.mk 0 0 []))]),(v67.wrap (k4+1))))
 else none
 else
 (idx d1.Codes k4).bind fun (x7:Int) =>
 (qda (v7u (v7x.wrap (Int.tdiv x7 2)) 3)).bind fun (r8:Value) =>
 if qbi (c3.length+1) 40=true then
 some (.next ((c3++[(Cell.mk false r8)]),(v67.wrap (k4+1))))
 else none)
 else
 some (.done c3)
def qjz (n1:Int) (d2:Drossref16_Draft):Option (CFD) :=
 if n1=0 then none else
 (qaj (qhd n1 d2) ([],0)).bind (fun c3 =>
 (qaj (qhe d2 c3) ([],0)).bind (fun c4 =>
 some (CFD.mk c3 (v7u (v67.wrap d2.Rhs) n1) c4)))
def qcf (n1:Int) (l2:List Int):(List Int×Int)→Option (LS (List Int×Int) (List Int)):=fun (o3,i4) =>
 if i4 < (l2.length:Int) then
 if i4 < 5 then
 if n1 > 0 then
 (idx l2 i4).bind fun (x5:Int) =>
 if n1=0 then none else
 if qbi (o3.length+1) 8=true then
 some (.next ((o3++[(v7u (v67.wrap x5) n1)]),(v67.wrap (i4+1))))
 else none
 else
 some (.done o3)
 else
 some (.done o3)
 else
 some (.done o3)
def qdn (n1:Int) (l2:List Int):Option (List Int) :=
 (qaj (qcf n1 l2) ([],0)).bind (fun o3 =>
 some o3)
def qj0 (n1:Int) (x2:Drossref17_Lists):Option (OD) :=
 (qdn n1 x2.X).bind fun (r3:List Int) =>
 (qdn n1 x2.Y).bind fun (r4:List Int) =>
 some (OD.mk r3 r4)
def qgk (n1:Int) (v2:Int) (s3:Drossref18_Side):Option (Term) :=
 if (v67.wrap (v2+1))=0 then none else
 (show Option (Bool) from
 if ((v7u (v67.wrap s3.Var) (v67.wrap (v2+1))) == 0)=true then
 some true
 else
 some (n1 == 0)).bind (fun t4 =>
 if t4=true then
 (qda s3.Code).bind fun (r5:Value) =>
 some (Term.mk 0 0 r5)
 else
 if n1=0 then none else
 some (Term.mk (v7u (v67.wrap s3.Var) (v67.wrap (v2+1))) (v7u (v67.wrap s3.Code) n1) (Value.mk 0 0 [])))
def qhf (n1:Int) (r2:Drossref18_Recipe):(List Atom×Int)→Option (LS (List Atom×Int) (List Atom)):=fun (d3,i4) =>
 if i4 < (r2.Atoms.length:Int) then
 (idx r2.Atoms i4).bind fun (x5:Drossref18_Sentence) =>
 (qgk n1 (v67.wrap (1+(v67.wrap (v7u r2.Vars 3)))) x5.Left).bind fun (r6:Term) =>
 (qgk n1 (v67.wrap (1+(v67.wrap (v7u r2.Vars 3)))) x5.Right).bind fun (r7:Term) =>
 if qbi (d3.length+1) 104=true then
 some (.next ((d3++[(Atom.mk r6 (v67.wrap (1+(v67.wrap (v7u x5.Op 4)))) r7)]),(v67.wrap (i4+1))))
 else none
 else
 some (.done d3)
def qj1 (n1:Int) (r2:Drossref18_Recipe):Option (Denial×Bool) :=
 (qaj (qhf n1 r2) ([],0)).bind (fun d3 =>
 some ((Denial.mk (v67.wrap (1+(v67.wrap (v7u r2.Vars 3)))) d3),(decide ((r2.Atoms.length:Int)≤5))))
def qfz (n1:Int):(Int×Int)→Option (LS (Int×Int) (Int)):=fun (s2,i3) =>
 if i3 < n1 then
 if i3 < 32 then
 if i3 < 0 then none else
 some (.next ((v68.wrap ((BitVec.ofInt 32 s2 ||| (BitVec.ofInt 32 (v68.wrap (1 * 2 ^ (min (i3).toNat 32))))).toNat:Int)),(v67.wrap (i3+1))))
 else
 some (.done s2)
 else
 some (.done s2)
def qh5 (n1:Int):Option (Int) :=
 (qaj (qfz n1) (0,0)).bind (fun s2 =>
 some s2)
def qhs (l1:List Drossref09_Dep) (r2:Int):(List FD×Int)→Option (LS (List FD×Int) (List FD)):=fun (o3,i4) =>
 if i4 < (l1.length:Int) then
 (idx l1 i4).bind fun (x5:Drossref09_Dep) =>
 if qbi (o3.length+1) 8=true then
 some (.next ((o3++[(FD.mk (v68.wrap ((BitVec.ofInt 32 (v68.wrap x5.L) &&& (BitVec.ofInt 32 r2)).toNat:Int)) (v68.wrap ((BitVec.ofInt 32 (v68.wrap x5.R) &&& (BitVec.ofInt 32 r2)).toNat:Int)))]),(v67.wrap (i4+1))))
 else none
 else
 some (.done o3)
def qgl (n1:Int) (l2:List Drossref09_Dep):Option (List FD) :=
 (qh5 n1).bind fun (r3:Int) =>
 (qaj (qhs l2 r3) ([],0)).bind (fun o4 =>
 some o4)
def qj2 (n1:Int) (x2:Drossref37_Rule):Option (Constraint×Bool) :=
 if ((v7u x2.Kind 5) == 1)=true then
 if n1 > 0 then
 (qjz n1 x2.C).bind fun (r3:CFD) =>
 some ((Constraint.mk [99] [114] 4 (FD.mk 0 0) (FD.mk 0 0) (IND.mk [] [] [] []) r3 (OD.mk [] []) (Denial.mk 0 [])),true)
 else
 (qgl n1 [x2.F]).bind fun (r4:List FD) =>
 (r4[0]?).bind fun (x5:FD) =>
 some ((Constraint.mk [99] [114] 1 x5 (FD.mk 0 0) (IND.mk [] [] [] []) (CFD.mk [] 0 []) (OD.mk [] []) (Denial.mk 0 [])),true)
 else
 if ((v7u x2.Kind 5) == 2)=true then
 (qj0 n1 x2.O).bind fun (r6:OD) =>
 some ((Constraint.mk [99] [114] 5 (FD.mk 0 0) (FD.mk 0 0) (IND.mk [] [] [] []) (CFD.mk [] 0 []) r6 (Denial.mk 0 [])),true)
 else
 if ((v7u x2.Kind 5) == 3)=true then
 (qj1 n1 x2.N).bind fun (r7:Denial×Bool) =>
 some ((Constraint.mk [99] [114] 6 (FD.mk 0 0) (FD.mk 0 0) (IND.mk [] [] [] []) (CFD.mk [] 0 []) (OD.mk [] []) r7.1),r7.2)
 else
 (qgl n1 [x2.F]).bind fun (r8:List FD) =>
 (r8[0]?).bind fun (x9:FD) =>
 some ((Constraint.mk [99] [114] 1 x9 (FD.mk 0 0) (IND.mk [] [] [] []) (CFD.mk [] 0 []) (OD.mk [] []) (Denial.mk 0 [])),true)
def qf0 (n1:Int) (l2:List Drossref37_Rule):(List Constraint×Int)→Option (LS (List Constraint×Int) ((List Constraint) ⊕ (List Constraint×Bool))):=fun (o3,i4) =>
 if i4 < (l2.length:Int) then
 (idx l2 i4).bind fun (x5:Drossref37_Rule) =>
 (qj2 n1 x5).bind fun (r6:Constraint×Bool) =>
 if r6.2=true then
 if qbi (o3.length+1) 272=true then
 some (.next ((o3++[r6.1]),(v67.wrap (i4+1))))
 else none
 else
 some (.done (.inr ([],false)))
 else
 some (.done (.inl o3))
def qh6 (n1:Int) (l2:List Drossref37_Rule):Option (List Constraint×Bool) :=
 (qaj (qf0 n1 l2) ([],0)).bind (fun o=>match o with
 | .inl o3 =>
 some (o3,(decide ((l2.length:Int)≤4)))
 | .inr r4 =>
 some r4)
def qjd:Option Bool:=some true
def qfb (l1:List Constraint):(List Constraint×Int)→Option (LS (List Constraint×Int) (List Constraint)):=fun (o2,t3) =>
 if t3 < ((l1.length:Nat):Int) then
 if (0:Int)≤(v7v.wrap (v67.wrap (97+t3))) then
 if (v7v.wrap (v67.wrap (97+t3))) < 128 then
 (idx o2 t3).bind fun (x4:Constraint) =>
 some (.next ((o2.set t3.toNat (Constraint.mk [UInt8.ofNat (v7v.wrap (v67.wrap (97+t3))).toNat] x4.Table x4.Kind x4.FD x4.MVD x4.IND x4.CFD x4.OD x4.Denial)),(v67.wrap (t3+1))))
 else none
 else none
 else
 some (.done o2)
def qhg (l1:List Constraint):Option (List Constraint) :=
 if qbi l1.length 272=true then
 (qaj (qfb l1) (l1,0)).bind (fun o2 =>
 some o2)
 else none
def qgm (s1:List UInt8):Int→Option (LS (Int) ((Unit) ⊕ (Bool))):=fun t2 =>
 if t2 < (s1.length:Int) then
 (idx s1 t2).bind fun (c3:UInt8) =>
 (show Option (Bool) from
 if ((c3.toNat:Nat):Int)≥97 then
 if ((c3.toNat:Nat):Int)≤122 then
 some true
 else
 if ((c3.toNat:Nat):Int)≥65 then
 if ((c3.toNat:Nat):Int)≤90 then
 some true
 else
 some (((c3.toNat:Nat):Int) == 95)
 else
 some (((c3.toNat:Nat):Int) == 95)
 else
 if ((c3.toNat:Nat):Int)≥65 then
 if ((c3.toNat:Nat):Int)≤90 then
 some true
 else
 some (((c3.toNat:Nat):Int) == 95)
 else
 some (((c3.toNat:Nat):Int) == 95)).bind (fun l4 =>
 if l4=true then
 some (.next (v67.wrap (t2+1)))
 else
 if (t2 == 0)=true then
 some (.done (.inr false))
 else
 if ((c3.toNat:Nat):Int) < 48 then
 some (.done (.inr false))
 else
 if ((c3.toNat:Nat):Int) > 57 then
 some (.done (.inr false))
 else
 some (.next (v67.wrap (t2+1))))
 else
 some (.done (.inl ()))
def qjp (s1:List UInt8):Option (Bool) :=
 if (s1 == [])=true then
 some false
 else
 if (s1.length:Int) > 24 then
 some false
 else
 if (s1 == [110,117,108,108])=true then
 some false
 else
 (qaj (qgm s1) 0).bind (fun o=>match o with
 | .inl () =>
 some true
 | .inr r2 =>
 some r2)
def qcv (s1:List (List UInt8)) (v2:List UInt8):Int→Option (LS (Int) ((Unit) ⊕ (Int))):=fun t3 =>
 if t3 < (s1.length:Int) then
 (idx s1 t3).bind fun (x4:List UInt8) =>
 if (v2 == x4)=true then
 some (.done (.inr t3))
 else
 some (.next (v67.wrap (t3+1)))
 else
 some (.done (.inl ()))
def qfc (s1:List (List UInt8)) (v2:List UInt8):Option (Int) :=
 (qaj (qcv s1 v2) 0).bind (fun o=>match o with
 | .inl () =>
 some (-1)
 | .inr r3 =>
 some r3)
def qd2 (s1:List (List UInt8)) (v2:List UInt8):Option (Bool) :=
 (qfc s1 v2).bind fun (r3:Int) =>
 some (decide (r3≥0))
def qb1 (s1:List Value) (f2:Value→Option (Bool)):Int→Option (LS (Int) ((Unit) ⊕ (Int))):=fun t3 =>
 if t3 < (s1.length:Int) then
 (idx s1 t3).bind fun (x4:Value) =>
 (f2 x4).bind fun (r5:Bool) =>
 if r5=true then
 some (.done (.inr t3))
 else
 some (.next (v67.wrap (t3+1)))
 else
 some (.done (.inl ()))
def qd3 (s1:List Value) (f2:Value→Option (Bool)):Option (Int) :=
 (qaj (qb1 s1 f2) 0).bind (fun o=>match o with
 | .inl () =>
 some (-1)
 | .inr r3 =>
 some r3)
def qc6 (s1:List Value) (f2:Value→Option (Bool)):Option (Bool) :=
 (qd3 s1 f2).bind fun (r3:Int) =>
 some (decide (r3≥0))
def qh7 (v1:Value):Option (Bool) :=
 if (v1.Kind == 0)=true then
 if (v1.Num == 0)=true then
 some (v1.Str == [])
 else
 some false
 else
 if (v1.Kind == 1)=true then
 some (v1.Str == [])
 else
 if (v1.Kind == 2)=true then
 if (v1.Num == 0)=true then
 some (decide ((v1.Str.length:Int)≤200))
 else
 some false
 else
 if (v1.Kind == 3)=true then
 if v1.Num≥1 then
 some (v1.Str == [])
 else
 some false
 else
 some false
def qd7 (v1:Value):Option (Bool) :=
 (qh7 v1).bind fun (r2:Bool) =>
 some (!r2)
def qgn (l1:List Value):Option (Bool) :=
 (qc6 l1 (fun (y2:Value)=>qd7 y2)).bind fun (r3:Bool) =>
 some (!r3)
def qhn (t1:Table):Int→Option (LS (Int) ((Unit) ⊕ (Int))):=fun t2 =>
 if t2 < (t1.Attrs.length:Int) then
 (idx t1.Attrs t2).bind fun (x3:List UInt8) =>
 (qjp x3).bind fun (r4:Bool) =>
 if r4=true then
 if (0:Int)≤t2 then
 if t2≤(t1.Attrs.length:Int) then
 (qd2 (t1.Attrs.take (t2.toNat)) x3).bind fun (r5:Bool) =>
 if r5=true then
 some (.done (.inr 1))
 else
 some (.next (v67.wrap (t2+1)))
 else none
 else none
 else
 some (.done (.inr 1))
 else
 some (.done (.inl ()))
def qi1 (t1:Table):(Int×Int)→Option (LS (Int×Int) ((Unit) ⊕ (Int))):=fun (l2,t3) =>
 if t3 < (t1.Rows.length:Int) then
 (idx t1.Rows t3).bind fun (x4:Row) =>
 if x4.ID≤l2 then
 some (.done (.inr 1))
 else
 if ((x4.Values.length:Int) != (t1.Attrs.length:Int))=true then
 some (.done (.inr 6))
 else
 (qgn x4.Values).bind fun (r5:Bool) =>
 if r5=true then
 some (.next (x4.ID,(v67.wrap (t3+1))))
 else
 some (.done (.inr 1))
 else
 some (.done (.inl ()))
def qfd (t1:Table):Option (Int) :=
 (qjp t1.Name).bind fun (r2:Bool) =>
 if r2=true then
 if (t1.Attrs.length:Int) > 16 then
 some 3
 else
 if (t1.Rows.length:Int) > 1000 then
 some 3
 else
 (qaj (qhn t1) 0).bind (fun o=>match o with
 | .inl () =>
 (qaj (qi1 t1) (0,0)).bind (fun o=>match o with
 | .inl () =>
 some 0
 | .inr r3 =>
 some r3)
 | .inr r4 =>
 some r4)
 else
 some 1
def qfm (n1:Int) (f2:List FD):Int→Option (LS (Int) ((Unit) ⊕ (Int))):=fun t3 =>
 if t3 < (f2.length:Int) then
 (idx f2 t3).bind fun (x4:FD) =>
 if n1 < 0 then none else
 if ((v7t (v68.wrap ((BitVec.ofInt 32 x4.Lhs ||| (BitVec.ofInt 32 x4.Rhs)).toNat:Int)) (2 ^ (min (n1).toNat 32))) != 0)=true then
 some (.done (.inr 1))
 else
 some (.next (v67.wrap (t3+1)))
 else
 some (.done (.inl ()))
def qj3 (n1:Int) (f2:List FD):Option (Int) :=
 if n1 < 0 then
 some 7
 else
 if n1 > 16 then
 some 7
 else
 if (f2.length:Int) > 64 then
 some 3
 else
 (qaj (qfm n1 f2) 0).bind (fun o=>match o with
 | .inl () =>
 some 0
 | .inr r3 =>
 some r3)
def qgf (x:Int):Option Int:=if 0≤x∧x < 4294967296 then some (vvg x.toNat) else none
def qf1:(Int×List Int)→Option (LS (Int×List Int) (List Int)):=fun (s1,o2) =>
 if (s1 != 0)=true then
 (qgf s1).bind fun (r3:Int) =>
 if qbi (o2.length+1) 8=true then
 some (.next ((v68.wrap ((BitVec.ofInt 32 s1 &&& (BitVec.ofInt 32 (v68.wrap (s1 - 1)))).toNat:Int)),(o2++[r3])))
 else none
 else
 some (.done o2)
def qfe (s1:Int):Option (List Int) :=
 (qaj qf1 (s1,[])).bind (fun o2 =>
 some o2)
def qum (v1:Int) (a2:Int):Option (Term) :=
 some (Term.mk v1 a2 (Value.mk 0 0 []))
def qmr (o1:Int) (a2:Int):Option (Atom) :=
 (qum 1 a2).bind fun (r3:Term) =>
 (qum 2 a2).bind fun (r4:Term) =>
 some (Atom.mk r3 o1 r4)
def qfn (r1:List Int):(List Atom×Int)→Option (LS (List Atom×Int) (List Atom)):=fun (d2,t3) =>
 if t3 < (r1.length:Int) then
 (idx r1 t3).bind fun (x4:Int) =>
 (qmr 1 x4).bind fun (r5:Atom) =>
 if qbi (d2.length+1) 104=true then
 some (.next ((d2++[r5]),(v67.wrap (t3+1))))
 else none
 else
 some (.done d2)
def qhh (f1:FD) (r2:List Int):(List Denial×Int)→Option (LS (List Denial×Int) (List Denial)):=fun (o3,t4) =>
 if t4 < (r2.length:Int) then
 (idx r2 t4).bind fun (x5:Int) =>
 (qfe f1.Lhs).bind fun (r6:List Int) =>
 (qaj (qfn r6) ([],0)).bind (fun d7 =>
 (qmr 2 x5).bind fun (r8:Atom) =>
 if qbi (d7.length+1) 104=true then
 if qbi (o3.length+1) 32=true then
 some (.next ((o3++[(Denial.mk 2 (d7++[r8]))]),(v67.wrap (t4+1))))
 else none
 else none)
 else
 some (.done o3)
def qj4 (n1:Int) (f2:FD):Option (List Denial×Int) :=
 (qj3 n1 [f2]).bind fun (r3:Int) =>
 if (r3 != 0)=true then
 some ([],r3)
 else
 (qfe (v68.wrap ((BitVec.ofInt 32 f2.Rhs &&& ~~~ (BitVec.ofInt 32 f2.Lhs)).toNat:Int))).bind fun (r4:List Int) =>
 (qaj (qhh f2 r4) ([],0)).bind (fun o5 =>
 some (o5,0))
def qca (s1:List Atom) (f2:Atom→Option (Bool)):Int→Option (LS (Int) ((Unit) ⊕ (Int))):=fun t3 =>
 if t3 < (s1.length:Int) then
 (idx s1 t3).bind fun (x4:Atom) =>
 (f2 x4).bind fun (r5:Bool) =>
 if r5=true then
 some (.done (.inr t3))
 else
 some (.next (v67.wrap (t3+1)))
 else
 some (.done (.inl ()))
def qeh (s1:List Atom) (f2:Atom→Option (Bool)):Option (Int) :=
 (qaj (qca s1 f2) 0).bind (fun o=>match o with
 | .inl () =>
 some (-1)
 | .inr r3 =>
 some r3)
def qdg (s1:List Atom) (f2:Atom→Option (Bool)):Option (Bool) :=
 (qeh s1 f2).bind fun (r3:Int) =>
 some (decide (r3≥0))
def qfo (n1:Int) (v2:Int) (t3:Term):Option (Bool) :=
 if (t3.Var == 0)=true then
 if (t3.Attr == 0)=true then
 (qh7 t3.Value).bind fun (r4:Bool) =>
 some r4
 else
 some false
 else
 if t3.Var > 0 then
 if t3.Var≤v2 then
 if t3.Attr≥0 then
 if t3.Attr < n1 then
 some ((t3.Value.Kind == 0) && ((t3.Value.Num == 0) && (t3.Value.Str == [])))
 else
 some false
 else
 some false
 else
 some false
 else
 some false
def qho (a1:Atom) (c2:Int) (c3:Denial):Option (Bool) :=
 if a1.Op < 1 then
 some true
 else
 if a1.Op > 4 then
 some true
 else
 (qfo c2 c3.Vars a1.Left).bind fun (r4:Bool) =>
 if r4=true then
 (qfo c2 c3.Vars a1.Right).bind fun (r5:Bool) =>
 some (!r5)
 else
 some true
def qh8 (n1:Int) (d2:Denial):Option (Bool) :=
 if d2.Vars < 1 then
 some false
 else
 if d2.Vars > 3 then
 some false
 else
 if (d2.Atoms.length:Int) > 20 then
 some false
 else
 (qdg d2.Atoms (fun (y3:Atom)=>qho y3 n1 d2)).bind fun (r4:Bool) =>
 some (!r4)
def qcb (s1:List Cell) (f2:Cell→Option (Bool)):Int→Option (LS (Int) ((Unit) ⊕ (Int))):=fun t3 =>
 if t3 < (s1.length:Int) then
 (idx s1 t3).bind fun (x4:Cell) =>
 (f2 x4).bind fun (r5:Bool) =>
 if r5=true then
 some (.done (.inr t3))
 else
 some (.next (v67.wrap (t3+1)))
 else
 some (.done (.inl ()))
def qei (s1:List Cell) (f2:Cell→Option (Bool)):Option (Int) :=
 (qaj (qcb s1 f2) 0).bind (fun o=>match o with
 | .inl () =>
 some (-1)
 | .inr r3 =>
 some r3)
def qdh (s1:List Cell) (f2:Cell→Option (Bool)):Option (Bool) :=
 (qei s1 f2).bind fun (r3:Int) =>
 some (decide (r3≥0))
def qd8 (p1:Cell):Option (Bool) :=
 if p1.Any=true then
 if ((p1.Value.Kind == 0) && ((p1.Value.Num == 0) && (p1.Value.Str == [])))=true then
 some false
 else
 some true
 else
 (qh7 p1.Value).bind fun (r2:Bool) =>
 some (!r2)
def qbl (n1:Int) (c2:CFD):(Int×Int)→Option (LS (Int×Int) ((Unit) ⊕ (Bool))):=fun (b3,t4) =>
 if t4 < (c2.Lhs.length:Int) then
 (idx c2.Lhs t4).bind fun (x5:Int) =>
 if x5≤b3 then
 some (.done (.inr false))
 else
 if x5≥n1 then
 some (.done (.inr false))
 else
 if (x5 == c2.Rhs)=true then
 some (.done (.inr false))
 else
 some (.next (x5,(v67.wrap (t4+1))))
 else
 some (.done (.inl ()))
def qd9 (n1:Int) (c2:CFD):Option (Bool) :=
 if n1 < 0 then
 some false
 else
 if n1 > 16 then
 some false
 else
 if c2.Rhs < 0 then
 some false
 else
 if c2.Rhs≥n1 then
 some false
 else
 if ((c2.Pattern.length:Int) != (v67.wrap ((c2.Lhs.length:Int)+1)))=true then
 some false
 else
 (qaj (qbl n1 c2) ((-1),0)).bind (fun o=>match o with
 | .inl () =>
 (qdh c2.Pattern (fun (y3:Cell)=>qd8 y3)).bind fun (r4:Bool) =>
 some (!r4)
 | .inr r5 =>
 some r5)
def qcm (s1:List Int) (f2:Int→Option (Bool)):Int→Option (LS (Int) ((Unit) ⊕ (Int))):=fun t3 =>
 if t3 < (s1.length:Int) then
 (idx s1 t3).bind fun (x4:Int) =>
 (f2 x4).bind fun (r5:Bool) =>
 if r5=true then
 some (.done (.inr t3))
 else
 some (.next (v67.wrap (t3+1)))
 else
 some (.done (.inl ()))
def qet (s1:List Int) (f2:Int→Option (Bool)):Option (Int) :=
 (qaj (qcm s1 f2) 0).bind (fun o=>match o with
 | .inl () =>
 some (-1)
 | .inr r3 =>
 some r3)
def qbz (s1:List Int) (f2:Int→Option (Bool)):Option (Bool) :=
 (qet s1 f2).bind fun (r3:Int) =>
 some (decide (r3≥0))
def qgo (a1:Int) (c2:Int):Option (Bool) :=
 if a1 < 0 then
 some true
 else
 some (decide (a1≥c2))
def qim (n1:Int) (l2:List Int):Option (Bool) :=
 if (l2.length:Int)≤8 then
 (qbz l2 (fun (y3:Int)=>qgo y3 n1)).bind fun (r4:Bool) =>
 some (!r4)
 else
 some false
def qgc (n1:Int) (d2:OD):Option (Bool) :=
 (qim n1 d2.Lhs).bind fun (r3:Bool) =>
 if r3=true then
 (qim n1 d2.Rhs).bind fun (r4:Bool) =>
 some r4
 else
 some false
def qay (t1:Table) (c2:Constraint):Option (List Denial×Int) :=
 if (c2.Table == t1.Name)=true then
 if c2.Kind < 1 then
 some ([],1)
 else
 if c2.Kind > 6 then
 some ([],1)
 else
 if (c2.Kind == 2)=true then
 some ([],14)
 else
 if (c2.Kind == 3)=true then
 some ([],14)
 else
 if (c2.Kind == 1)=true then
 if (t1.Attrs.length:Int) < 0 then none else
 if ((v7t (v68.wrap ((BitVec.ofInt 32 c2.FD.Lhs ||| (BitVec.ofInt 32 c2.FD.Rhs)).toNat:Int)) (2 ^ (min ((t1.Attrs.length:Int)).toNat 32))) != 0)=true then
 some ([],1)
 else
 (qj4 (t1.Attrs.length:Int) c2.FD).bind fun (r3:List Denial×Int) =>
 some (r3.1,r3.2)
 else
 if (c2.Kind == 6)=true then
 (qh8 (t1.Attrs.length:Int) c2.Denial).bind fun (r4:Bool) =>
 if r4=true then
 some ([c2.Denial],0)
 else
 some ([],1)
 else
 if (c2.Kind == 4)=true then
 (qd9 (t1.Attrs.length:Int) c2.CFD).bind fun (r5:Bool) =>
 if r5=true then
 some ([],0)
 else
 some ([],1)
 else
 if (c2.Kind == 5)=true then
 (qgc (t1.Attrs.length:Int) c2.OD).bind fun (r6:Bool) =>
 if r6=true then
 some ([],0)
 else
 some ([],1)
 else
 some ([],0)
 else
 some ([],1)
def qep (p1:Cell) (v2:Value):Option (Bool) :=
 if p1.Any=true then
 some true
 else
 some ((p1.Value.Kind == v2.Kind) && ((p1.Value.Num == v2.Num) && (p1.Value.Str == v2.Str)))
def qff (c1:CFD) (l2:List Value):Int→Option (LS (Int) ((Unit) ⊕ (Bool))):=fun t3 =>
 if t3 < (c1.Lhs.length:Int) then
 (idx c1.Lhs t3).bind fun (x4:Int) =>
 (idx c1.Pattern t3).bind fun (x5:Cell) =>
 (idx l2 x4).bind fun (x6:Value) =>
 (qep x5 x6).bind fun (r7:Bool) =>
 if r7=true then
 some (.next (v67.wrap (t3+1)))
 else
 some (.done (.inr false))
 else
 some (.done (.inl ()))
def qfp (c1:CFD) (l2:List Value):Option (Bool) :=
 (qaj (qff c1 l2) 0).bind (fun o=>match o with
 | .inl () =>
 some true
 | .inr r3 =>
 some r3)
def qin (c1:CFD):Option (Cell) :=
 (idx c1.Pattern (c1.Lhs.length:Int)).bind fun (x2:Cell) =>
 some x2
def qb6 (k1:Int) (c2:List Value) (c3:List Value):Option (Bool) :=
 (idx c2 k1).bind fun (x4:Value) =>
 (idx c3 k1).bind fun (x5:Value) =>
 some (!((x4.Kind == x5.Kind) && ((x4.Num == x5.Num) && (x4.Str == x5.Str))))
def qeq (c1:CFD) (a2:List Value) (b3:List Value):Option (Bool) :=
 (idx a2 c1.Rhs).bind fun (x4:Value) =>
 (idx b3 c1.Rhs).bind fun (x5:Value) =>
 if ((x4.Kind == x5.Kind) && ((x4.Num == x5.Num) && (x4.Str == x5.Str)))=true then
 some false
 else
 (qbz c1.Lhs (fun (y6:Int)=>qb6 y6 a2 b3)).bind fun (r7:Bool) =>
 some (!r7)
def qb2 (t1:Table) (c2:CFD):(List Row×Int)→Option (LS (List Row×Int) (List Row)):=fun (m3,t4) =>
 if t4 < (t1.Rows.length:Int) then
 (idx t1.Rows t4).bind fun (x5:Row) =>
 (qfp c2 x5.Values).bind fun (r6:Bool) =>
 if r6=true then
 if qbi (m3.length+1) 32=true then
 some (.next ((m3++[x5]),(v67.wrap (t4+1))))
 else none
 else
 some (.next (m3,(v67.wrap (t4+1))))
 else
 some (.done m3)
def qb3 (c1:CFD) (m2:List Row) (t3:Int) (x4:Row):(List (List Int)×Int)→Option (LS (List (List Int)×Int) (List (List Int))):=fun (b5,t6) =>
 if t6 < (((m2.length - (v67.wrap (t3+1)).toNat):Nat):Int) then
 (idx ((m2.drop ((v67.wrap (t3+1)).toNat)).take (m2.length - (v67.wrap (t3+1)).toNat)) t6).bind fun (x7:Row) =>
 (qeq c1 x4.Values x7.Values).bind fun (r8:Bool) =>
 if r8=true then
 if qbi (b5.length+1) 24=true then
 some (.next ((b5++[[x4.ID,x7.ID]]),(v67.wrap (t6+1))))
 else none
 else
 some (.next (b5,(v67.wrap (t6+1))))
 else
 some (.done b5)
def qgd (c1:CFD) (m2:List Row) (t3:Int) (x4:Row):(List (List Int)×Int)→Option (LS (List (List Int)×Int) (List (List Int))):=fun (b5,t6) =>
 if t6 < (((m2.length - (v67.wrap (t3+1)).toNat):Nat):Int) then
 (idx ((m2.drop ((v67.wrap (t3+1)).toNat)).take (m2.length - (v67.wrap (t3+1)).toNat)) t6).bind fun (x7:Row) =>
 (qeq c1 x4.Values x7.Values).bind fun (r8:Bool) =>
 if r8=true then
 if qbi (b5.length+1) 24=true then
 some (.next ((b5++[[x4.ID,x7.ID]]),(v67.wrap (t6+1))))
 else none
 else
 some (.next (b5,(v67.wrap (t6+1))))
 else
 some (.done b5)
def qc7 (c1:CFD) (m2:List Row):(List (List Int)×List (List Int)×Int)→Option (LS (List (List Int)×List (List Int)×Int) (List (List Int)×List (List Int))):=fun (o3,b4,t5) =>
 if t5 < ((m2.length:Nat):Int) then
 (idx m2 t5).bind fun (x6:Row) =>
 (qin c1).bind fun (r7:Cell) =>
 (idx x6.Values c1.Rhs).bind fun (x8:Value) =>
 (qep r7 x8).bind fun (r9:Bool) =>
 if r9=true then
 if 0≤(v67.wrap (t5+1)) then
 if (v67.wrap (t5+1))≤((m2.length:Nat):Int) then
 (qaj (qb3 c1 m2 t5 x6) (b4,0)).bind (fun b10 =>
 some (.next (o3,b10,(v67.wrap (t5+1)))))
 else none
 else none
 else
 if qbi (o3.length+1) 24=true then
 if 0≤(v67.wrap (t5+1)) then
 if (v67.wrap (t5+1))≤((m2.length:Nat):Int) then
 (qaj (qgd c1 m2 t5 x6) (b4,0)).bind (fun b11 =>
 some (.next ((o3++[[x6.ID]]),b11,(v67.wrap (t5+1)))))
 else none
 else none
 else none
 else
 some (.done (o3,b4))
def qb5 (t1:Table) (c2:CFD):Option (List (List Int)×Int) :=
 (qfd t1).bind fun (r3:Int) =>
 if (r3 != 0)=true then
 some ([],r3)
 else
 (qd9 (t1.Attrs.length:Int) c2).bind fun (r4:Bool) =>
 if r4=true then
 (qaj (qb2 t1 c2) ([],0)).bind (fun m5 =>
 (qaj (qc7 c2 m5) ([],[],0)).bind (fun (o6,b7) =>
 if qbi (o6.length+b7.length) 24=true then
 some ((o6++b7),0)
 else none))
 else
 some ([],1)
def qi2 (t1:Table) (o2:Int→Option (Bool)):Option (Int) :=
 (qfd t1).bind fun (r3:Int) =>
 if (r3 != 0)=true then
 some r3
 else
 (o2 (t1.Attrs.length:Int)).bind fun (r4:Bool) =>
 if r4=true then
 some 0
 else
 some 1
def qcg (n1:Int) (c2:OD):Option (Bool) :=
 (qgc n1 c2).bind fun (r3:Bool) =>
 some r3
def qdo (x1:Int):Option (Bool) :=
 some (x1 != x1)
def qe1 (x1:Int) (y2:Int):Option (Int) :=
 (qdo x1).bind fun (r3:Bool) =>
 (qdo y2).bind fun (r4:Bool) =>
 if r3=true then
 if r4=true then
 some 0
 else
 some (-1)
 else
 if r4=true then
 some 1
 else
 if x1 < y2 then
 some (-1)
 else
 if x1 > y2 then
 some 1
 else
 some 0
def qdb (v1:List Int):Int→Option (LS (Int) ((Unit) ⊕ (Int))):=fun t2 =>
 if t2 < (v1.length:Int) then
 (idx v1 t2).bind fun (x3:Int) =>
 if (x3 != 0)=true then
 some (.done (.inr x3))
 else
 some (.next (v67.wrap (t2+1)))
 else
 some (.done (.inl ()))
def qot (v1:List Int):Option (Int) :=
 (qaj (qdb v1) 0).bind (fun o=>match o with
 | .inl () =>
 some 0
 | .inr r2 =>
 some r2)
def qj5 (x1:Int):Option (Bool) :=
 some (x1 != x1)
def qh9 (x1:Int) (y2:Int):Option (Int) :=
 (qj5 x1).bind fun (r3:Bool) =>
 (qj5 y2).bind fun (r4:Bool) =>
 if r3=true then
 if r4=true then
 some 0
 else
 some (-1)
 else
 if r4=true then
 some 1
 else
 if x1 < y2 then
 some (-1)
 else
 if x1 > y2 then
 some 1
 else
 some 0
def qf2 (a1:List UInt8) (b2:List UInt8):Option (Int) :=
 some (Lib.compareBytes a1 b2)
def qia (a1:List UInt8) (b2:List UInt8):Option (Int) :=
 (qf2 a1 b2).bind fun (r3:Int) =>
 some r3
def qio (a1:Value) (b2:Value):Option (Int) :=
 (qh9 a1.Kind b2.Kind).bind fun (r3:Int) =>
 (qe1 a1.Num b2.Num).bind fun (r4:Int) =>
 (qia a1.Str b2.Str).bind fun (r5:Int) =>
 (qot [r3,r4,r5]).bind fun (r6:Int) =>
 some r6
def qea (a1:Row) (b2:Row) (l3:List Int):Int→Option (LS (Int) ((Unit) ⊕ (Int))):=fun t4 =>
 if t4 < (l3.length:Int) then
 (idx l3 t4).bind fun (x5:Int) =>
 (idx a1.Values x5).bind fun (x6:Value) =>
 (idx b2.Values x5).bind fun (x7:Value) =>
 (qio x6 x7).bind fun (r8:Int) =>
 if (r8 != 0)=true then
 some (.done (.inr r8))
 else
 some (.next (v67.wrap (t4+1)))
 else
 some (.done (.inl ()))
def qfq (a1:Row) (b2:Row) (l3:List Int):Option (Int) :=
 (qaj (qea a1 b2 l3) 0).bind (fun o=>match o with
 | .inl () =>
 some 0
 | .inr r4 =>
 some r4)
def qj6 (a1:Row) (b2:Row) (d3:OD):Option (Int) :=
 (qfq a1 b2 d3.Lhs).bind fun (r4:Int) =>
 (qfq a1 b2 d3.Rhs).bind fun (r5:Int) =>
 (show Option (Bool) from
 if (r4 == 0)=true then
 some (r5 != 0)
 else
 some false).bind (fun t6 =>
 if t6=true then
 some 1
 else
 if (v67.wrap (r4 * r5)) < 0 then
 some 2
 else
 some 0)
def qcw (t1:Table) (d2:OD) (t3:Int) (x4:Row):(List (List Int)×Int)→Option (LS (List (List Int)×Int) (List (List Int))):=fun (o5,t6) =>
 if t6 < (((t1.Rows.drop (v67.wrap (t3+1)).toNat).take (t1.Rows.length - (v67.wrap (t3+1)).toNat)).length:Int) then
 (idx ((t1.Rows.drop (v67.wrap (t3+1)).toNat).take (t1.Rows.length - (v67.wrap (t3+1)).toNat)) t6).bind fun (x7:Row) =>
 (qj6 x4 x7 d2).bind fun (r8:Int) =>
 if (r8 != 0)=true then
 if qbi (o5.length+1) 24=true then
 some (.next ((o5++[[x4.ID,x7.ID]]),(v67.wrap (t6+1))))
 else none
 else
 some (.next (o5,(v67.wrap (t6+1))))
 else
 some (.done o5)
def qcx (t1:Table) (d2:OD):(List (List Int)×Int)→Option (LS (List (List Int)×Int) (List (List Int))):=fun (o3,t4) =>
 if t4 < (t1.Rows.length:Int) then
 (idx t1.Rows t4).bind fun (x5:Row) =>
 if 0≤(v67.wrap (t4+1)) then
 if (v67.wrap (t4+1))≤(t1.Rows.length:Int) then
 (qaj (qcw t1 d2 t4 x5) (o3,0)).bind (fun o6 =>
 some (.next (o6,(v67.wrap (t4+1)))))
 else none
 else none
 else
 some (.done o3)
def qch (t1:Table) (d2:OD):Option (List (List Int)×Int) :=
 (qi2 t1 (fun (y3:Int)=>qcg y3 d2)).bind fun (r4:Int) =>
 if (r4 != 0)=true then
 some ([],r4)
 else
 (qaj (qcx t1 d2) ([],0)).bind (fun o5 =>
 some (o5,0))
def qa5 (s1:List Int) (s2:List Int):Int→Option (LS (Int) ((Unit) ⊕ (Int))):=fun t3 =>
 if t3 < (s1.length:Int) then
 (idx s1 t3).bind fun (x4:Int) =>
 if t3≥(s2.length:Int) then
 some (.done (.inr 1))
 else
 (idx s2 t3).bind fun (x5:Int) =>
 (qe1 x4 x5).bind fun (r6:Int) =>
 if (r6 != 0)=true then
 some (.done (.inr r6))
 else
 some (.next (v67.wrap (t3+1)))
 else
 some (.done (.inl ()))
def qab (s1:List Int) (s2:List Int):Option (Int) :=
 (qaj (qa5 s1 s2) 0).bind (fun o=>match o with
 | .inl () =>
 if (s1.length:Int) < (s2.length:Int) then
 some (-1)
 else
 some 0
 | .inr r3 =>
 some r3)
def qi3 (t1:Table) (d2:Denial):Option (Int) :=
 (qfd t1).bind fun (r3:Int) =>
 if (r3 != 0)=true then
 some r3
 else
 (qh8 (t1.Attrs.length:Int) d2).bind fun (r4:Bool) =>
 if r4=true then
 if (d2.Vars == 3)=true then
 if (t1.Rows.length:Int) > 200 then
 some 3
 else
 some 0
 else
 some 0
 else
 some 1
def qmg (r1:List Row) (t2:Term):Option (Value) :=
 if (t2.Var == 0)=true then
 some t2.Value
 else
 (idx r1 (v67.wrap (t2.Var - 1))).bind fun (x3:Row) =>
 (idx x3.Values t2.Attr).bind fun (x4:Value) =>
 some x4
def qeb (r1:List Row) (l2:List Atom):Int→Option (LS (Int) ((Unit) ⊕ (Bool))):=fun t3 =>
 if t3 < (l2.length:Int) then
 (idx l2 t3).bind fun (x4:Atom) =>
 (qmg r1 x4.Left).bind fun (r5:Value) =>
 (qmg r1 x4.Right).bind fun (r6:Value) =>
 (qio r5 r6).bind fun (r7:Int) =>
 if (x4.Op == 1)=true then
 if (r7 == 0)=true then
 some (.next (v67.wrap (t3+1)))
 else
 some (.done (.inr false))
 else
 if (x4.Op == 2)=true then
 if (r7 != 0)=true then
 some (.next (v67.wrap (t3+1)))
 else
 some (.done (.inr false))
 else
 if (x4.Op == 3)=true then
 if r7 < 0 then
 some (.next (v67.wrap (t3+1)))
 else
 some (.done (.inr false))
 else
 if (x4.Op == 4)=true then
 if r7≤0 then
 some (.next (v67.wrap (t3+1)))
 else
 some (.done (.inr false))
 else
 some (.done (.inr false))
 else
 some (.done (.inl ()))
def qd0 (r1:List Row) (l2:List Atom):Option (Bool) :=
 (qaj (qeb r1 l2) 0).bind (fun o=>match o with
 | .inl () =>
 some true
 | .inr r3 =>
 some r3)
def qcn (s1:List Row) (f2:Row→Option (Bool)):Int→Option (LS (Int) ((Unit) ⊕ (Int))):=fun t3 =>
 if t3 < (s1.length:Int) then
 (idx s1 t3).bind fun (x4:Row) =>
 (f2 x4).bind fun (r5:Bool) =>
 if r5=true then
 some (.done (.inr t3))
 else
 some (.next (v67.wrap (t3+1)))
 else
 some (.done (.inl ()))
def qeu (s1:List Row) (f2:Row→Option (Bool)):Option (Int) :=
 (qaj (qcn s1 f2) 0).bind (fun o=>match o with
 | .inl () =>
 some (-1)
 | .inr r3 =>
 some r3)
def qa0 (s1:List Row) (f2:Row→Option (Bool)):Option (Bool) :=
 (qeu s1 f2).bind fun (r3:Int) =>
 some (decide (r3≥0))
def qc8 (x1:Row) (c2:Row):Option (Bool) :=
 some (x1.ID == c2.ID)
def qi4 (x1:Int) (y2:Int):Option (Bool) :=
 (qdo x1).bind fun (r3:Bool) =>
 if r3=true then
 (qdo y2).bind fun (r4:Bool) =>
 if r4=true then
 some (decide (x1 < y2))
 else
 some true
 else
 some (decide (x1 < y2))
def qls (l1:List Row):(List Int×Int)→Option (LS (List Int×Int) (List Int)):=fun (l2,t3) =>
 if t3 < (l1.length:Int) then
 (idx l1 t3).bind fun (x4:Row) =>
 if qbi (l2.length+1) 8=true then
 some (.next ((l2++[x4.ID]),(v67.wrap (t3+1))))
 else none
 else
 some (.done l2)
def qiu (l1:List Row):(List Int×Int)→Option (LS (List Int×Int) (List Int)):=fun (l2,t3) =>
 if t3 < (l1.length:Int) then
 (idx l1 t3).bind fun (x4:Row) =>
 if qbi (l2.length+1) 8=true then
 some (.next ((l2++[x4.ID]),(v67.wrap (t3+1))))
 else none
 else
 some (.done l2)
def qiv (l1:List Row):(List Int×Int)→Option (LS (List Int×Int) (List Int)):=fun (l2,t3) =>
 if t3 < (l1.length:Int) then
 (idx l1 t3).bind fun (x4:Row) =>
 if qbi (l2.length+1) 8=true then
 some (.next ((l2++[x4.ID]),(v67.wrap (t3+1))))
 else none
 else
 some (.done l2)
def qdx (l1:List Row):(List Int×Int)→Option (LS (List Int×Int) (List Int)):=fun (l2,t3) =>
 if t3 < (l1.length:Int) then
 (idx l1 t3).bind fun (x4:Row) =>
 if qbi (l2.length+1) 8=true then
 some (.next ((l2++[x4.ID]),(v67.wrap (t3+1))))
 else none
 else
 some (.done l2)
def qlt (t1:Table) (l2:List Row):Int→Option (LS (Int) (Unit)):=fun t3 =>
 if t3 < (t1.Rows.length:Int) then
 (idx t1.Rows t3).bind fun (x4:Row) =>
 (qa0 l2 (fun (y5:Row)=>qc8 y5 x4)).bind fun (r6:Bool) =>
 if r6=true then
 some (.next (v67.wrap (t3+1)))
 else
 none
 else
 some (.done ())
def qdy (t1:Table) (d2:Denial) (l3:List Row):((List (Arr3_int64×Bool))×List (List Int)×Int)→Option (LS ((List (Arr3_int64×Bool))×List (List Int)×Int) (((List (Arr3_int64×Bool))×List (List Int)) ⊕ ((List (Arr3_int64×Bool))×List (List Int)))):=fun (f4,f5,t6) =>
 if t6 < (t1.Rows.length:Int) then
 (idx t1.Rows t6).bind fun (x7:Row) =>
 (qa0 l3 (fun (y8:Row)=>qc8 y8 x7)).bind fun (r9:Bool) =>
 if r9=true then
 some (.next (f4,f5,(v67.wrap (t6+1))))
 else
 if l3.length≤1000000000 then
 if qbi (l3.length+1) 32=true then
 (some ((l3++[x7]):List Row)).bind fun (l10:List Row) =>
 if ((l10.length:Int) == d2.Vars)=true then
 (qd0 l10 d2.Atoms).bind fun (r11:Bool) =>
 if r11=true then
 (qaj (qdx l10) ([],0)).bind (fun l12 =>
 (qyp l12).bind fun (l13:List Int) =>
 if ((qnq f4 (Arr3_int64.mk (l13.getD 0 0) (l13.getD 1 0) (l13.getD 2 0))).getD false)=true then
 if ((f5.length:Nat):Int)≤20000 then
 some (.next (f4,f5,(v67.wrap (t6+1))))
 else
 some (.done (.inr (f4,f5)))
 else
 if qbi (f5.length+1) 24=true then
 if (((f5.length+1):Nat):Int)≤20000 then
 some (.next ((qrz f4 (Arr3_int64.mk (l13.getD 0 0) (l13.getD 1 0) (l13.getD 2 0)) true),(f5++[l13]),(v67.wrap (t6+1))))
 else
 some (.done (.inr ((qrz f4 (Arr3_int64.mk (l13.getD 0 0) (l13.getD 1 0) (l13.getD 2 0)) true),(f5++[l13]))))
 else none)
 else
 some (.next (f4,f5,(v67.wrap (t6+1))))
 else
 (qaj (qlt t1 l10) 0).bind (fun () =>
 some (.next (f4,f5,(v67.wrap (t6+1)))))
 else none
 else none
 else
 some (.done (.inl (f4,f5)))
def qbm (t1:Table) (d2:Denial) (l3:List Row):((List (Arr3_int64×Bool))×List (List Int)×Int)→Option (LS ((List (Arr3_int64×Bool))×List (List Int)×Int) (((List (Arr3_int64×Bool))×List (List Int)) ⊕ ((List (Arr3_int64×Bool))×List (List Int)))):=fun (f4,f5,t6) =>
 if t6 < (t1.Rows.length:Int) then
 (idx t1.Rows t6).bind fun (x7:Row) =>
 (qa0 l3 (fun (y8:Row)=>qc8 y8 x7)).bind fun (r9:Bool) =>
 if r9=true then
 some (.next (f4,f5,(v67.wrap (t6+1))))
 else
 if l3.length≤1000000000 then
 if qbi (l3.length+1) 32=true then
 (some ((l3++[x7]):List Row)).bind fun (l10:List Row) =>
 if ((l10.length:Int) == d2.Vars)=true then
 (qd0 l10 d2.Atoms).bind fun (r11:Bool) =>
 if r11=true then
 (qaj (qiv l10) ([],0)).bind (fun l12 =>
 (qyp l12).bind fun (l13:List Int) =>
 if ((qnq f4 (Arr3_int64.mk (l13.getD 0 0) (l13.getD 1 0) (l13.getD 2 0))).getD false)=true then
 if ((f5.length:Nat):Int)≤20000 then
 some (.next (f4,f5,(v67.wrap (t6+1))))
 else
 some (.done (.inr (f4,f5)))
 else
 if qbi (f5.length+1) 24=true then
 if (((f5.length+1):Nat):Int)≤20000 then
 some (.next ((qrz f4 (Arr3_int64.mk (l13.getD 0 0) (l13.getD 1 0) (l13.getD 2 0)) true),(f5++[l13]),(v67.wrap (t6+1))))
 else
 some (.done (.inr ((qrz f4 (Arr3_int64.mk (l13.getD 0 0) (l13.getD 1 0) (l13.getD 2 0)) true),(f5++[l13]))))
 else none)
 else
 some (.next (f4,f5,(v67.wrap (t6+1))))
 else
 (qaj (qdy t1 d2 l10) (f4,f5,0)).bind (fun o=>match o with
 | .inl (f14,b15) =>
 some (.next (f14,b15,(v67.wrap (t6+1))))
 | .inr (f16,b17) =>
 some (.done (.inr (f16,b17))))
 else none
 else none
 else
 some (.done (.inl (f4,f5)))
def qbn (t1:Table) (d2:Denial) (l3:List Row):((List (Arr3_int64×Bool))×List (List Int)×Int)→Option (LS ((List (Arr3_int64×Bool))×List (List Int)×Int) (((List (Arr3_int64×Bool))×List (List Int)) ⊕ ((List (Arr3_int64×Bool))×List (List Int)))):=fun (f4,f5,t6) =>
 if t6 < (t1.Rows.length:Int) then
 (idx t1.Rows t6).bind fun (x7:Row) =>
 (qa0 l3 (fun (y8:Row)=>qc8 y8 x7)).bind fun (r9:Bool) =>
 if r9=true then
 some (.next (f4,f5,(v67.wrap (t6+1))))
 else
 if l3.length≤1000000000 then
 if qbi (l3.length+1) 32=true then
 (some ((l3++[x7]):List Row)).bind fun (l10:List Row) =>
 if ((l10.length:Int) == d2.Vars)=true then
 (qd0 l10 d2.Atoms).bind fun (r11:Bool) =>
 if r11=true then
 (qaj (qiu l10) ([],0)).bind (fun l12 =>
 (qyp l12).bind fun (l13:List Int) =>
 if ((qnq f4 (Arr3_int64.mk (l13.getD 0 0) (l13.getD 1 0) (l13.getD 2 0))).getD false)=true then
 if ((f5.length:Nat):Int)≤20000 then
 some (.next (f4,f5,(v67.wrap (t6+1))))
 else
 some (.done (.inr (f4,f5)))
 else
 if qbi (f5.length+1) 24=true then
 if (((f5.length+1):Nat):Int)≤20000 then
 some (.next ((qrz f4 (Arr3_int64.mk (l13.getD 0 0) (l13.getD 1 0) (l13.getD 2 0)) true),(f5++[l13]),(v67.wrap (t6+1))))
 else
 some (.done (.inr ((qrz f4 (Arr3_int64.mk (l13.getD 0 0) (l13.getD 1 0) (l13.getD 2 0)) true),(f5++[l13]))))
 else none)
 else
 some (.next (f4,f5,(v67.wrap (t6+1))))
 else
 (qaj (qbm t1 d2 l10) (f4,f5,0)).bind (fun o=>match o with
 | .inl (f14,b15) =>
 some (.next (f14,b15,(v67.wrap (t6+1))))
 | .inr (f16,b17) =>
 some (.done (.inr (f16,b17))))
 else none
 else none
 else
 some (.done (.inl (f4,f5)))
def qdi (t1:Table) (d2:Denial):Option (List (List Int)×Int) :=
 (qi3 t1 d2).bind fun (r3:Int) =>
 if (r3 != 0)=true then
 some ([],r3)
 else
 (show Option (List (List Int)×Bool) from
 (some ([]:List (Arr3_int64×Bool))).bind fun (m4:List (Arr3_int64×Bool)) =>
 (some (([]:List Row):List Row)).bind fun (l5:List Row) =>
 if ((l5.length:Int) == d2.Vars)=true then
 (qd0 l5 d2.Atoms).bind fun (r6:Bool) =>
 if r6=true then
 (qaj (qls l5) ([],0)).bind (fun l7 =>
 (qyp l7).bind fun (l8:List Int) =>
 if ((qnq m4 (Arr3_int64.mk (l8.getD 0 0) (l8.getD 1 0) (l8.getD 2 0))).getD false)=true then
 some ([],true)
 else
 some ([l8],true))
 else
 some ([],true)
 else
 (qaj (qbn t1 d2 l5) (m4,[],0)).bind (fun o=>match o with
 | .inl (f9,b10) =>
 some (b10,true)
 | .inr (f11,b12) =>
 some (b12,false))).bind (fun (o13,a14) =>
 if a14=true then
 (q3e (fun (y15:List Int) (y16:List Int)=>qab y15 y16) o13).bind fun (l17:List (List Int)) =>
 some (l17,0)
 else
 some ([],3))
def qcy (t1:Table) (r2:List Denial×Int):(List (List Int)×Int)→Option (LS (List (List Int)×Int) ((List (List Int)) ⊕ (List (List Int)×Int))):=fun (o3,t4) =>
 if t4 < (r2.1.length:Int) then
 (idx r2.1 t4).bind fun (x5:Denial) =>
 (qdi t1 x5).bind fun (r6:List (List Int)×Int) =>
 if (r6.2 != 0)=true then
 some (.done (.inr ([],r6.2)))
 else
 if qbi (o3.length+r6.1.length) 24=true then
 some (.next ((o3++r6.1),(v67.wrap (t4+1))))
 else none
 else
 some (.done (.inl o3))
def qci (t1:Table) (c2:Constraint):Option (List (List Int)×Int) :=
 (qay t1 c2).bind fun (r3:List Denial×Int) =>
 if (r3.2 != 0)=true then
 some ([],r3.2)
 else
 if (c2.Kind == 4)=true then
 (qb5 t1 c2.CFD).bind fun (r4:List (List Int)×Int) =>
 some (r4.1,r4.2)
 else
 if (c2.Kind == 5)=true then
 (qch t1 c2.OD).bind fun (r5:List (List Int)×Int) =>
 some (r5.1,r5.2)
 else
 (qaj (qcy t1 r3) ([],0)).bind (fun o=>match o with
 | .inl o6 =>
 some (o6,0)
 | .inr r7 =>
 some r7)
def qey (l1:List Int):Option (Arr3_int64) :=
 some (Arr3_int64.mk (l1.getD 0 0) (l1.getD 1 0) (l1.getD 2 0))
def qbj (s1:List (List Int)):(Int×Int)→Option (LS (Int×Int) (Int)):=fun (s2,t3) =>
 if t3 < (s1.length:Int) then
 (idx s1 t3).bind fun (x4:List Int) =>
 if (v67.wrap (s2+(x4.length:Int))) < 0 then
 none
 else
 some (.next ((v67.wrap (s2+(x4.length:Int))),(v67.wrap (t3+1))))
 else
 some (.done s2)
def qbk (s1:List (List Int)):(List Int×Int)→Option (LS (List Int×Int) (List Int)):=fun (n2,t3) =>
 if t3 < (s1.length:Int) then
 (idx s1 t3).bind fun (x4:List Int) =>
 if qbi (n2.length+x4.length) 8=true then
 some (.next ((n2++x4),(v67.wrap (t3+1))))
 else none
 else
 some (.done n2)
def qa2 (s1:List (List Int)):Option (List Int) :=
 (qaj (qbj s1) (0,0)).bind (fun s2 =>
 if 0≤s2 then
 if s2≤1000000000000 then
 (qaj (qbk s1) (([]:List Int),0)).bind (fun n3 =>
 some n3)
 else none
 else none)
def qap (l1:List Int) (c2:List (Arr3_int64×Bool)):Int→Option (LS (Int) ((Unit) ⊕ (Bool))):=fun t3 =>
 if t3 < (l1.length:Int) then
 if (l1.length:Int) > 1 then
 if 0≤t3 then
 if t3≤(v67.wrap (t3+1)) then
 if (v67.wrap (t3+1))≤(l1.length:Int) then
 (qey ((l1.drop t3.toNat).take ((v67.wrap (t3+1)).toNat - t3.toNat))).bind fun (r4:Arr3_int64) =>
 if ((qnq c2 r4).getD false)=true then
 some (.done (.inr true))
 else
 if (l1.length:Int) > 2 then
 if (0:Int)≤t3 then
 if t3≤(l1.length:Int) then
 if 0≤(v67.wrap (t3+1)) then
 (qa2 [(l1.take (t3.toNat)),((l1.drop (v67.wrap (t3+1)).toNat).take (l1.length - (v67.wrap (t3+1)).toNat))]).bind fun (r5:List Int) =>
 (qey r5).bind fun (r6:Arr3_int64) =>
 if ((qnq c2 r6).getD false)=true then
 some (.done (.inr true))
 else
 some (.next (v67.wrap (t3+1)))
 else none
 else none
 else none
 else
 some (.next (v67.wrap (t3+1)))
 else none
 else none
 else none
 else
 if (l1.length:Int) > 2 then
 if (0:Int)≤t3 then
 if t3≤(l1.length:Int) then
 if 0≤(v67.wrap (t3+1)) then
 if (v67.wrap (t3+1))≤(l1.length:Int) then
 (qa2 [(l1.take (t3.toNat)),((l1.drop (v67.wrap (t3+1)).toNat).take (l1.length - (v67.wrap (t3+1)).toNat))]).bind fun (r7:List Int) =>
 (qey r7).bind fun (r8:Arr3_int64) =>
 if ((qnq c2 r8).getD false)=true then
 some (.done (.inr true))
 else
 some (.next (v67.wrap (t3+1)))
 else none
 else none
 else none
 else none
 else
 some (.next (v67.wrap (t3+1)))
 else
 some (.done (.inl ()))
def qbr (l1:List Int) (c2:List (Arr3_int64×Bool)):Option (Bool) :=
 (qaj (qap l1 c2) 0).bind (fun o=>match o with
 | .inl () =>
 some false
 | .inr r3 =>
 some r3)
def qht (l:List Int):Option (List Int):=if qbi l.length 8=true then some l else none
def qf3 (s1:List Int) (s2:List Int):Int→Option (LS (Int) ((Unit) ⊕ (Bool))):=fun t3 =>
 if t3 < (s1.length:Int) then
 (idx s1 t3).bind fun (x4:Int) =>
 (idx s2 t3).bind fun (x5:Int) =>
 if (x4 != x5)=true then
 some (.done (.inr false))
 else
 some (.next (v67.wrap (t3+1)))
 else
 some (.done (.inl ()))
def qem (s1:List Int) (s2:List Int):Option (Bool) :=
 if ((s1.length:Int) != (s2.length:Int))=true then
 some false
 else
 (qaj (qf3 s1 s2) 0).bind (fun o=>match o with
 | .inl () =>
 some true
 | .inr r3 =>
 some r3)
def qec (a1:List (List Int)):((List (Arr3_int64×Bool))×Int)→Option (LS ((List (Arr3_int64×Bool))×Int) ((List (Arr3_int64×Bool)))):=fun (s2,t3) =>
 if t3 < (a1.length:Int) then
 (idx a1 t3).bind fun (x4:List Int) =>
 (qey x4).bind fun (r5:Arr3_int64) =>
 some (.next ((qrz s2 r5 true),(v67.wrap (t3+1))))
 else
 some (.done s2)
def qfg (a1:List (List Int)) (s2:List (Arr3_int64×Bool)):(List (List Int)×Int)→Option (LS (List (List Int)×Int) (List (List Int))):=fun (o3,t4) =>
 if t4 < (a1.length:Int) then
 (idx a1 t4).bind fun (x5:List Int) =>
 (qey x5).bind fun (r6:Arr3_int64) =>
 (show Option (Bool) from
 if ((qnq s2 r6).getD false)=true then
 (qbr x5 s2).bind fun (r7:Bool) =>
 some (!r7)
 else
 some false).bind (fun t8 =>
 if t8=true then
 (qht x5).bind fun (r9:List Int) =>
 if qbi (o3.length+1) 24=true then
 some (.next ((o3++[r9]),(v67.wrap (t4+1))))
 else none
 else
 some (.next (o3,(v67.wrap (t4+1)))))
 else
 some (.done o3)
def qdd (l1:List (List Int)) (k2:Int):(List (List Int)×Int×Int)→Option (LS (List (List Int)×Int×Int) (List (List Int)×Int)):=fun (s3,k4,k5) =>
 if k5 < (((l1.length - k2.toNat):Nat):Int) then
 (idx ((s3.drop k2.toNat).take (l1.length - k2.toNat)) k5).bind fun (x6:List Int) =>
 (idx ((s3.drop k2.toNat).take (l1.length - k2.toNat)) (v67.wrap (k5 - 1))).bind fun (x7:List Int) =>
 (qem x6 x7).bind fun (r8:Bool) =>
 if r8=true then
 some (.next (s3,k4,(v67.wrap (k5+1))))
 else
 (idx s3 k4).bind fun (x9:List Int) =>
 some (.next ((s3.set k4.toNat x6),(v67.wrap (k4+1)),(v67.wrap (k5+1))))
 else
 some (.done (s3,k4))
def qed (l1:List (List Int)):Int→Option (LS (Int) ((Unit) ⊕ (List (List Int)))):=fun k2 =>
 if k2 < ((l1.length:Nat):Int) then
 (idx l1 k2).bind fun (x3:List Int) =>
 (idx l1 (v67.wrap (k2 - 1))).bind fun (x4:List Int) =>
 (qem x3 x4).bind fun (r5:Bool) =>
 if r5=true then
 if 0≤k2 then
 if k2≤((l1.length:Nat):Int) then
 (qaj (qdd l1 k2) (l1,k2,1)).bind (fun (s6,k7) =>
 if 0≤k7 then
 if k7≤((s6.length:Nat):Int) then
 if (0:Int)≤k7 then
 if k7≤((((((s6.take k7.toNat)).length+((v4a (s6.length - k7.toNat) ([]:List Int))).length)+((s6.drop (k7.toNat+(s6.length - k7.toNat)))).length):Nat):Int) then
 (some ((((s6.take k7.toNat)++(v4a (s6.length - k7.toNat) ([]:List Int)))++(s6.drop (k7.toNat+(s6.length - k7.toNat)))):List (List Int))).bind fun (l8:List (List Int)) =>
 if k7.toNat≤l8.length then
 (some (l8.take k7.toNat:List (List Int))).bind fun (l9:List (List Int)) =>
 some (.done (.inr l9))
 else none
 else none
 else none
 else none
 else none)
 else none
 else none
 else
 some (.next (v67.wrap (k2+1)))
 else
 some (.done (.inl ()))
def qfr (a1:List (List Int)):Option (List (List Int)) :=
 (qaj (qec a1) ([],0)).bind (fun s2 =>
 (qaj (qfg a1 s2) ([],0)).bind (fun o3 =>
 (q3e (fun (y4:List Int) (y5:List Int)=>qab y4 y5) o3).bind fun (l6:List (List Int)) =>
 if ((l6.length:Nat):Int) < 2 then
 some l6
 else
 (qaj (qed l6) 1).bind (fun o=>match o with
 | .inl () =>
 some l6
 | .inr t7 =>
 some t7)))
def qe2 (t1:Table) (l2:List Constraint):Int→Option (LS (Int) ((Unit) ⊕ (Hypergraph×Int))):=fun t3 =>
 if t3 < (l2.length:Int) then
 (idx l2 t3).bind fun (x4:Constraint) =>
 (qay t1 x4).bind fun (r5:List Denial×Int) =>
 if (r5.2 != 0)=true then
 some (.done (.inr ((Hypergraph.mk [] []),r5.2)))
 else
 some (.next (v67.wrap (t3+1)))
 else
 some (.done (.inl ()))
def qgp (t1:Table) (l2:List Constraint):(List (List Int)×Int)→Option (LS (List (List Int)×Int) ((List (List Int)) ⊕ (Hypergraph×Int))):=fun (a3,t4) =>
 if t4 < (l2.length:Int) then
 (idx l2 t4).bind fun (x5:Constraint) =>
 (qci t1 x5).bind fun (r6:List (List Int)×Int) =>
 if (r6.2 != 0)=true then
 some (.done (.inr ((Hypergraph.mk [] []),r6.2)))
 else
 if qbi (a3.length+r6.1.length) 24=true then
 some (.next ((a3++r6.1),(v67.wrap (t4+1))))
 else none
 else
 some (.done (.inl a3))
def qgq (t1:Table):(List Int×Int)→Option (LS (List Int×Int) (List Int)):=fun (h2,t3) =>
 if t3 < (t1.Rows.length:Int) then
 (idx t1.Rows t3).bind fun (x4:Row) =>
 if qbi (h2.length+1) 8=true then
 some (.next ((h2++[x4.ID]),(v67.wrap (t3+1))))
 else none
 else
 some (.done h2)
def qi5 (t1:Table) (l2:List Constraint):Option (Hypergraph×Int) :=
 (qfd t1).bind fun (r3:Int) =>
 if (r3 != 0)=true then
 some ((Hypergraph.mk [] []),r3)
 else
 if (t1.Rows.length:Int) > 200 then
 some ((Hypergraph.mk [] []),3)
 else
 (qaj (qe2 t1 l2) 0).bind (fun o=>match o with
 | .inl () =>
 (qaj (qgp t1 l2) ([],0)).bind (fun o=>match o with
 | .inl a4 =>
 (qfr a4).bind fun (r5:List (List Int)) =>
 (qaj (qgq t1) ([],0)).bind (fun h6 =>
 if (r5.length:Int) > 20000 then
 some ((Hypergraph.mk [] []),3)
 else
 some ((Hypergraph.mk h6 r5),0))
 | .inr r7 =>
 some r7)
 | .inr r8 =>
 some r8)
def qb4 (s1:List Table) (f2:Table→Option (Bool)):Int→Option (LS (Int) ((Unit) ⊕ (Int))):=fun t3 =>
 if t3 < (s1.length:Int) then
 (idx s1 t3).bind fun (x4:Table) =>
 (f2 x4).bind fun (r5:Bool) =>
 if r5=true then
 some (.done (.inr t3))
 else
 some (.next (v67.wrap (t3+1)))
 else
 some (.done (.inl ()))
def qcz (s1:List Table) (f2:Table→Option (Bool)):Option (Int) :=
 (qaj (qb4 s1 f2) 0).bind (fun o=>match o with
 | .inl () =>
 some (-1)
 | .inr r3 =>
 some r3)
def qip (t1:Table) (c2:List UInt8):Option (Bool) :=
 some (t1.Name == c2)
def qg7 (d1:Database) (n2:List UInt8):Option (Table×Bool) :=
 (qcz d1.Tables (fun (y3:Table)=>qip y3 n2)).bind fun (r4:Int) =>
 if r4 < 0 then
 some ((Table.mk [] [] []),false)
 else
 (idx d1.Tables r4).bind fun (x5:Table) =>
 some (x5,true)
def qen (d1:Database):Int→Option (LS (Int) ((Unit) ⊕ (Int))):=fun t2 =>
 if t2 < (d1.Tables.length:Int) then
 (idx d1.Tables t2).bind fun (x3:Table) =>
 (qfd x3).bind fun (r4:Int) =>
 if (r4 != 0)=true then
 some (.done (.inr r4))
 else
 if (0:Int)≤t2 then
 if t2≤(d1.Tables.length:Int) then
 (qg7 (Database.mk (d1.Tables.take (t2.toNat))) x3.Name).bind fun (r5:Table×Bool) =>
 if r5.2=true then
 some (.done (.inr 5))
 else
 some (.next (v67.wrap (t2+1)))
 else none
 else none
 else
 some (.done (.inl ()))
def qib (d1:Database):Option (Int) :=
 if (d1.Tables.length:Int) > 50 then
 some 3
 else
 (qaj (qen d1) 0).bind (fun o=>match o with
 | .inl () =>
 some 0
 | .inr r2 =>
 some r2)
def qjq (c1:Int):Option (Bool) :=
 if c1≥97 then
 if c1≤122 then
 some true
 else
 if c1≥65 then
 if c1≤90 then
 some true
 else
 some (c1 == 95)
 else
 some (c1 == 95)
 else
 if c1≥65 then
 if c1≤90 then
 some true
 else
 some (c1 == 95)
 else
 some (c1 == 95)
def qtb (c1:Int):Option (Bool) :=
 if c1≥48 then
 some (decide (c1≤57))
 else
 some false
def qgr (s1:List UInt8):Int→Option (LS (Int) ((Unit) ⊕ (Bool))):=fun t2 =>
 if t2 < (s1.length:Int) then
 (idx s1 t2).bind fun (c3:UInt8) =>
 (qjq ((c3.toNat:Nat):Int)).bind fun (r4:Bool) =>
 if r4=true then
 some (.next (v67.wrap (t2+1)))
 else
 (qtb ((c3.toNat:Nat):Int)).bind fun (r5:Bool) =>
 if r5=true then
 some (.next (v67.wrap (t2+1)))
 else
 some (.done (.inr false))
 else
 some (.done (.inl ()))
def qk6 (s1:List UInt8):Option (Bool) :=
 if (s1 == [])=true then
 some false
 else
 if (s1.length:Int) > 24 then
 some false
 else
 if (s1 == [110,117,108,108])=true then
 some false
 else
 (s1[0]?).bind fun (c2:UInt8) =>
 (qjq ((c2.toNat:Nat):Int)).bind fun (r3:Bool) =>
 if r3=true then
 (qaj (qgr s1) 0).bind (fun o=>match o with
 | .inl () =>
 some true
 | .inr r4 =>
 some r4)
 else
 some false
def qje (t1:Table) (c2:List UInt8):Option (Bool) :=
 some (t1.Name == c2)
def qge (l1:List Table) (n2:List UInt8):Option (Int) :=
 (qcz l1 (fun (y3:Table)=>qje y3 n2)).bind fun (r4:Int) =>
 some r4
def qnw (d1:Database):Int→Option (LS (Int) ((Unit) ⊕ (Int))):=fun t2 =>
 if t2 < (d1.Tables.length:Int) then
 (idx d1.Tables t2).bind fun (x3:Table) =>
 (qfd x3).bind fun (r4:Int) =>
 if (r4 != 0)=true then
 some (.done (.inr r4))
 else
 if (0:Int)≤t2 then
 if t2≤(d1.Tables.length:Int) then
 (qge (d1.Tables.take (t2.toNat)) x3.Name).bind fun (r5:Int) =>
 if r5≥0 then
 some (.done (.inr 5))
 else
 some (.next (v67.wrap (t2+1)))
 else none
 else none
 else
 some (.done (.inl ()))
def qms (d1:Database):Option (Int) :=
 if (d1.Tables.length:Int) > 50 then
 some 3
 else
 (qaj (qnw d1) 0).bind (fun o=>match o with
 | .inl () =>
 some 0
 | .inr r2 =>
 some r2)
def qhu (a1:Int) (c2:Int):Option (Bool) :=
 if a1 < 0 then
 some true
 else
 some (decide (a1≥c2))
def qjf (l1:List Int) (n2:Int):Option (Bool) :=
 (qbz l1 (fun (y3:Int)=>qhu y3 n2)).bind fun (r4:Bool) =>
 some (!r4)
def qmt (s1:List Int) (v2:Int):Int→Option (LS (Int) ((Unit) ⊕ (Int))):=fun t3 =>
 if t3 < (s1.length:Int) then
 (idx s1 t3).bind fun (x4:Int) =>
 if (v2 == x4)=true then
 some (.done (.inr t3))
 else
 some (.next (v67.wrap (t3+1)))
 else
 some (.done (.inl ()))
def qlk (s1:List Int) (v2:Int):Option (Int) :=
 (qaj (qmt s1 v2) 0).bind (fun o=>match o with
 | .inl () =>
 some (-1)
 | .inr r3 =>
 some r3)
def qjj (s1:List Int) (v2:Int):Option (Bool) :=
 (qlk s1 v2).bind fun (r3:Int) =>
 some (decide (r3≥0))
def qk7 (l1:List Int):Int→Option (LS (Int) ((Unit) ⊕ (Bool))):=fun t2 =>
 if t2 < (l1.length:Int) then
 (idx l1 t2).bind fun (x3:Int) =>
 if (0:Int)≤t2 then
 if t2≤(l1.length:Int) then
 (qjj (l1.take (t2.toNat)) x3).bind fun (r4:Bool) =>
 if r4=true then
 some (.done (.inr true))
 else
 some (.next (v67.wrap (t2+1)))
 else none
 else none
 else
 some (.done (.inl ()))
def qhv (l1:List Int):Option (Bool) :=
 (qaj (qk7 l1) 0).bind (fun o=>match o with
 | .inl () =>
 some false
 | .inr r2 =>
 some r2)
def qn6 (d1:Database) (d2:IND):Option (Int) :=
 (qge d1.Tables d2.From).bind fun (r3:Int) =>
 (qge d1.Tables d2.To).bind fun (r4:Int) =>
 if r3 < 0 then
 some 4
 else
 if r4 < 0 then
 some 4
 else
 if ((d2.Lhs.length:Int) != (d2.Rhs.length:Int))=true then
 some 6
 else
 (idx d1.Tables r3).bind fun (x5:Table) =>
 (qjf d2.Lhs (x5.Attrs.length:Int)).bind fun (r6:Bool) =>
 if r6=true then
 (idx d1.Tables r4).bind fun (x7:Table) =>
 (qjf d2.Rhs (x7.Attrs.length:Int)).bind fun (r8:Bool) =>
 if r8=true then
 (qhv d2.Lhs).bind fun (r9:Bool) =>
 if r9=true then
 some 1
 else
 (qhv d2.Rhs).bind fun (r10:Bool) =>
 if r10=true then
 some 1
 else
 some 0
 else
 some 6
 else
 some 6
def qj7 (d1:Database) (d2:IND):Option (Int) :=
 (qms d1).bind fun (r3:Int) =>
 if (r3 != 0)=true then
 some r3
 else
 (qn6 d1 d2).bind fun (r4:Int) =>
 some r4
def qe0 (d1:Database) (t2:Table) (c3:Constraint):Option (Int) :=
 if (c3.Kind == 1)=true then
 if (t2.Attrs.length:Int) < 0 then none else
 if ((v7t (v7w.wrap (v68.wrap ((BitVec.ofInt 32 c3.FD.Lhs ||| (BitVec.ofInt 32 c3.FD.Rhs)).toNat:Int))) (2 ^ (min t2.Attrs.length 64))) == 0)=true then
 some 0
 else
 some 1
 else
 if (c3.Kind == 2)=true then
 if (t2.Attrs.length:Int) < 0 then none else
 if ((v7t (v7w.wrap (v68.wrap ((BitVec.ofInt 32 c3.MVD.Lhs ||| (BitVec.ofInt 32 c3.MVD.Rhs)).toNat:Int))) (2 ^ (min t2.Attrs.length 64))) == 0)=true then
 some 0
 else
 some 1
 else
 if (c3.Kind == 3)=true then
 if (c3.Table == c3.IND.From)=true then
 (qj7 d1 c3.IND).bind fun (r4:Int) =>
 some r4
 else
 some 1
 else
 if (c3.Kind == 4)=true then
 (qd9 (t2.Attrs.length:Int) c3.CFD).bind fun (r5:Bool) =>
 if r5=true then
 some 0
 else
 some 1
 else
 if (c3.Kind == 5)=true then
 (qgc (t2.Attrs.length:Int) c3.OD).bind fun (r6:Bool) =>
 if r6=true then
 some 0
 else
 some 1
 else
 if (c3.Kind == 6)=true then
 (qh8 (t2.Attrs.length:Int) c3.Denial).bind fun (r7:Bool) =>
 if r7=true then
 some 0
 else
 some 1
 else
 some 0
def qic (d1:Database) (l2:List Constraint):((List (List UInt8×Bool))×Int)→Option (LS ((List (List UInt8×Bool))×Int) ((Unit) ⊕ (Int×Int))):=fun (n3,t4) =>
 if t4 < (l2.length:Int) then
 (idx l2 t4).bind fun (x5:Constraint) =>
 (qk6 x5.Name).bind fun (r6:Bool) =>
 if r6=true then
 if ((qnq n3 x5.Name).getD false)=true then
 some (.done (.inr (t4,5)))
 else
 if x5.Kind < 1 then
 some (.done (.inr (t4,14)))
 else
 if x5.Kind > 6 then
 some (.done (.inr (t4,14)))
 else
 (qg7 d1 x5.Table).bind fun (r7:Table×Bool) =>
 if r7.2=true then
 (qe0 d1 r7.1 x5).bind fun (r8:Int) =>
 if (r8 != 0)=true then
 some (.done (.inr (t4,r8)))
 else
 some (.next ((qrz n3 x5.Name true),(v67.wrap (t4+1))))
 else
 some (.done (.inr (t4,4)))
 else
 some (.done (.inr (t4,1)))
 else
 some (.done (.inl ()))
def qk8 (d1:Database) (l2:List Constraint):Option (Int×Int) :=
 (qib d1).bind fun (r3:Int) =>
 if (r3 != 0)=true then
 some (0,r3)
 else
 (qaj (qic d1 l2) ([],0)).bind (fun o=>match o with
 | .inl () =>
 some (0,0)
 | .inr r4 =>
 some r4)
def qhi (t1:Table) (s2:Int):Option (Bool) :=
 if (t1.Attrs.length:Int) < 0 then none else
 some ((v7t (v7w.wrap s2) (2 ^ (min ((t1.Attrs.length:Int)).toNat 64))) == 0)
def qq4 (v1:Value):(List Int×Int)→Option (LS (List Int×Int) (List Int)):=fun (o2,s3) =>
 if s3≥0 then
 if s3 < 0 then none else
 if qbi (o2.length+1) 1=true then
 some (.next ((o2++[(v7x.wrap (v7t (v7w.wrap ((BitVec.ofInt 64 (v7w.wrap v1.Num) ^^^ (9223372036854775808#64)).toNat:Int)) (2 ^ (min (s3).toNat 64))))]),(v67.wrap (s3 - 8))))
 else none
 else
 some (.done o2)
def qq5 (v1:Value):(List Int×Int)→Option (LS (List Int×Int) (List Int)):=fun (o2,s3) =>
 if s3≥0 then
 if s3 < 0 then none else
 if qbi (o2.length+1) 1=true then
 some (.next ((o2++[(v7x.wrap (v7t (v7w.wrap ((BitVec.ofInt 64 (v7w.wrap v1.Num) ^^^ (9223372036854775808#64)).toNat:Int)) (2 ^ (min (s3).toNat 64))))]),(v67.wrap (s3 - 8))))
 else none
 else
 some (.done o2)
def qjr (v1:Value):(List Int×Int)→Option (LS (List Int×Int) (List Int)):=fun (o2,t3) =>
 if t3 < (v1.Str.length:Int) then
 (idx v1.Str t3).bind fun (c4:UInt8) =>
 if qbi (o2.length+1) 1=true then
 if (((c4.toNat:Nat):Int) == 0)=true then
 if qbi ((o2.length+1)+1) 1=true then
 some (.next (((o2++[((c4.toNat:Nat):Int)])++[255]),(v67.wrap (t3+1))))
 else none
 else
 some (.next ((o2++[((c4.toNat:Nat):Int)]),(v67.wrap (t3+1))))
 else none
 else
 some (.done o2)
def qou (v1:Value):Option (List UInt8×Int) :=
 (qh7 v1).bind fun (r2:Bool) =>
 if r2=true then
 if (v1.Kind == 1)=true then
 (qaj (qq4 v1) ([(v7x.wrap v1.Kind)],56)).bind (fun o3 =>
 some ((qhp o3),0))
 else
 if (v1.Kind == 3)=true then
 (qaj (qq5 v1) ([(v7x.wrap v1.Kind)],56)).bind (fun o4 =>
 some ((qhp o4),0))
 else
 if (v1.Kind == 2)=true then
 (qaj (qjr v1) ([(v7x.wrap v1.Kind)],0)).bind (fun o5 =>
 if qbi (o5.length+2) 1=true then
 some ((qhp (o5++[0,1])),0)
 else none)
 else
 (some ([(v7x.wrap v1.Kind)]:List Int)).bind fun (l6:List Int) =>
 some ((qhp l6),0)
 else
 some ([],1)
def qcc (s1:List (List Int)) (f2:(List Int)→Option (Bool)):Int→Option (LS (Int) ((Unit) ⊕ (Int))):=fun t3 =>
 if t3 < (s1.length:Int) then
 (idx s1 t3).bind fun (x4:List Int) =>
 (f2 x4).bind fun (r5:Bool) =>
 if r5=true then
 some (.done (.inr t3))
 else
 some (.next (v67.wrap (t3+1)))
 else
 some (.done (.inl ()))
def qej (s1:List (List Int)) (f2:(List Int)→Option (Bool)):Option (Int) :=
 (qaj (qcc s1 f2) 0).bind (fun o=>match o with
 | .inl () =>
 some (-1)
 | .inr r3 =>
 some r3)
def qau (c1:List Int):Option (Bool) :=
 some (decide ((c1.length:Int) < 2))
def qbu (k1:List (List UInt8)):((List (List UInt8×Int))×List (List Int)×Int)→Option (LS ((List (List UInt8×Int))×List (List Int)×Int) (List (List Int))):=fun (a2,a3,t4) =>
 if t4 < (k1.length:Int) then
 (idx k1 t4).bind fun (x5:List UInt8) =>
 if (qnq a2 x5).isSome=true then
 (idx a3 ((qnq a2 x5).getD 0)).bind fun (x6:List Int) =>
 if qbi (x6.length+1) 8=true then
 some (.next (a2,(a3.set (((qnq a2 x5).getD 0).toNat) (x6++[t4])),(v67.wrap (t4+1))))
 else none
 else
 if qbi (a3.length+1) 24=true then
 (idx (a3++[[]]) ((a3.length:Nat):Int)).bind fun (x7:List Int) =>
 if qbi (x7.length+1) 8=true then
 some (.next ((qrz a2 x5 ((a3.length:Nat):Int)),((a3++[[]]).set (((a3.length:Nat):Int).toNat) (x7++[t4])),(v67.wrap (t4+1))))
 else none
 else none
 else
 some (.done a3)
def qcr:(List (List Int)×Int×Int)→Option (LS (List (List Int)×Int×Int) (List (List Int)×Int)):=fun (s1,i2,j3) =>
 if j3 < ((s1.length:Nat):Int) then
 (idx s1 j3).bind fun (x4:List Int) =>
 (qau x4).bind fun (r5:Bool) =>
 if r5=true then
 some (.next (s1,i2,(v67.wrap (j3+1))))
 else
 (idx s1 i2).bind fun (x6:List Int) =>
 some (.next ((s1.set i2.toNat x4),(v67.wrap (i2+1)),(v67.wrap (j3+1))))
 else
 some (.done (s1,i2))
def qdp (k1:List (List UInt8)):Option (List (List Int)) :=
 (qaj (qbu k1) ([],[],0)).bind (fun a2 =>
 (qej a2 (fun (y3:List Int)=>qau y3)).bind fun (r4:Int) =>
 if (r4 == (-1))=true then
 some a2
 else
 (qaj qcr (a2,r4,(v67.wrap (r4+1)))).bind (fun (s5,i6) =>
 if 0≤i6 then
 if i6≤((s5.length:Nat):Int) then
 if (0:Int)≤i6 then
 if i6≤((((((s5.take i6.toNat)).length+((v4a (s5.length - i6.toNat) ([]:List Int))).length)+((s5.drop (i6.toNat+(s5.length - i6.toNat)))).length):Nat):Int) then
 (some ((((s5.take i6.toNat)++(v4a (s5.length - i6.toNat) ([]:List Int)))++(s5.drop (i6.toNat+(s5.length - i6.toNat)))):List (List Int))).bind fun (l7:List (List Int)) =>
 if i6.toNat≤l7.length then
 (some (l7.take i6.toNat:List (List Int))).bind fun (l8:List (List Int)) =>
 some l8
 else none
 else none
 else none
 else none
 else none))
def qgs (r1:List Int) (x2:Row):(Bool×List UInt8×Int)→Option (LS (Bool×List UInt8×Int) (Bool×List UInt8)):=fun (b3,b4,t5) =>
 if t5 < (r1.length:Int) then
 (idx r1 t5).bind fun (x6:Int) =>
 (idx x2.Values x6).bind fun (x7:Value) =>
 (qou x7).bind fun (r8:List UInt8×Int) =>
 if b4.length+r8.1.length≤140737488355328 then
 some (.next (true,(b4++r8.1),(v67.wrap (t5+1))))
 else none
 else
 some (.done (b3,b4))
def qgt (t1:Table) (r2:List Int):(List (List UInt8)×Int)→Option (LS (List (List UInt8)×Int) (List (List UInt8))):=fun (k3,t4) =>
 if t4 < (t1.Rows.length:Int) then
 (idx t1.Rows t4).bind fun (x5:Row) =>
 (qaj (qgs r2 x5) (false,[],0)).bind (fun (b6,b7) =>
 (idx k3 t4).bind fun (x8:List UInt8) =>
 some (.next ((k3.set t4.toNat b7),(v67.wrap (t4+1)))))
 else
 some (.done k3)
def qk9 (t1:Table) (s2:Int):Option (Partition) :=
 (qfe s2).bind fun (r3:List Int) =>
 if 0≤(t1.Rows.length:Int) then
 if qbi t1.Rows.length 16=true then
 (qaj (qgt t1 r3) ((v4a t1.Rows.length []),0)).bind (fun k4 =>
 (qdp k4).bind fun (r5:List (List Int)) =>
 some (Partition.mk (t1.Rows.length:Int) r5))
 else none
 else none
def qla (t1:Table) (s2:Int):Option (Partition×Int) :=
 (qfd t1).bind fun (r3:Int) =>
 if (r3 != 0)=true then
 some ((Partition.mk 0 []),r3)
 else
 (qhi t1 s2).bind fun (r4:Bool) =>
 if r4=true then
 (qk9 t1 s2).bind fun (r5:Partition) =>
 some (r5,0)
 else
 some ((Partition.mk 0 []),6)
def qfs (t1:Table) (b2:Row→Row→Option (Bool)) (x3:List Int) (t4:Int) (x5:Int):(List (List Int)×Int)→Option (LS (List (List Int)×Int) (List (List Int))):=fun (o6,t7) =>
 if t7 < (((x3.drop (v67.wrap (t4+1)).toNat).take (x3.length - (v67.wrap (t4+1)).toNat)).length:Int) then
 (idx ((x3.drop (v67.wrap (t4+1)).toNat).take (x3.length - (v67.wrap (t4+1)).toNat)) t7).bind fun (x8:Int) =>
 (idx t1.Rows x5).bind fun (x9:Row) =>
 (idx t1.Rows x8).bind fun (x10:Row) =>
 (b2 x9 x10).bind fun (r11:Bool) =>
 if r11=true then
 if qbi (o6.length+1) 24=true then
 some (.next ((o6++[[x9.ID,x10.ID]]),(v67.wrap (t7+1))))
 else none
 else
 some (.next (o6,(v67.wrap (t7+1))))
 else
 some (.done o6)
def qft (t1:Table) (b2:Row→Row→Option (Bool)) (x3:List Int):(List (List Int)×Int)→Option (LS (List (List Int)×Int) (List (List Int))):=fun (o4,t5) =>
 if t5 < (x3.length:Int) then
 (idx x3 t5).bind fun (x6:Int) =>
 if 0≤(v67.wrap (t5+1)) then
 if (v67.wrap (t5+1))≤(x3.length:Int) then
 (qaj (qfs t1 b2 x3 t5 x6) (o4,0)).bind (fun o7 =>
 some (.next (o7,(v67.wrap (t5+1)))))
 else none
 else none
 else
 some (.done o4)
def qhj (t1:Table) (b2:Row→Row→Option (Bool)) (r3:Partition×Int):(List (List Int)×Int)→Option (LS (List (List Int)×Int) (List (List Int))):=fun (o4,t5) =>
 if t5 < (r3.1.Classes.length:Int) then
 (idx r3.1.Classes t5).bind fun (x6:List Int) =>
 (qaj (qft t1 b2 x6) (o4,0)).bind (fun o7 =>
 some (.next (o7,(v67.wrap (t5+1)))))
 else
 some (.done o4)
def qjs (t1:Table) (s2:Int) (b3:Row→Row→Option (Bool)):Option (List (List Int)) :=
 (qla t1 s2).bind fun (r4:Partition×Int) =>
 (qaj (qhj t1 b3 r4) ([],0)).bind (fun o5 =>
 some o5)
def qid (a1:Row) (b2:Row) (s3:Int):Int→Option (LS (Int) ((Unit) ⊕ (Bool))):=fun t4 =>
 if t4 < (a1.Values.length:Int) then
 if t4 < 0 then none else
 if ((v68.wrap ((BitVec.ofInt 32 (v7t s3 (2 ^ (min (t4).toNat 32))) &&& (1#32)).toNat:Int)) == 1)=true then
 (idx a1.Values t4).bind fun (x5:Value) =>
 (idx b2.Values t4).bind fun (x6:Value) =>
 if ((x5.Kind == x6.Kind) && ((x5.Num == x6.Num) && (x5.Str == x6.Str)))=true then
 some (.next (v67.wrap (t4+1)))
 else
 some (.done (.inr false))
 else
 some (.next (v67.wrap (t4+1)))
 else
 some (.done (.inl ()))
def qg0 (a1:Row) (b2:Row) (s3:Int):Option (Bool) :=
 (qaj (qid a1 b2 s3) 0).bind (fun o=>match o with
 | .inl () =>
 some true
 | .inr r4 =>
 some r4)
def qee (a1:Row) (b2:Row) (c3:Constraint):Option (Bool) :=
 (qg0 a1 b2 c3.FD.Rhs).bind fun (r4:Bool) =>
 some (!r4)
def qk1 (r1:Row) (c2:Row) (c3:Int) (c4:Row):Option (Bool) :=
 (qg0 r1 c2 c3).bind fun (r5:Bool) =>
 if r5=true then
 (qg0 r1 c4 (v68.wrap ((BitVec.ofInt 32 (IntKind.max .u32) ^^^ BitVec.ofInt 32 c3).toNat:Int))).bind fun (r6:Bool) =>
 some r6
 else
 some false
def qnx (t1:Table) (a2:Row) (b3:Row) (s4:Int):Option (Bool) :=
 (qa0 t1.Rows (fun (y5:Row)=>qk1 y5 a2 s4 b3)).bind fun (r6:Bool) =>
 some (!r6)
def qg8 (a1:Row) (b2:Row) (c3:Table) (c4:Int):Option (Bool) :=
 (qnx c3 a1 b2 c4).bind fun (r5:Bool) =>
 if r5=true then
 some true
 else
 (qnx c3 b2 a1 c4).bind fun (r6:Bool) =>
 some r6
def qp7 (r1:Row) (a2:List Int):(Bool×List UInt8×Int)→Option (LS (Bool×List UInt8×Int) (Bool×List UInt8)):=fun (o3,o4,t5) =>
 if t5 < (a2.length:Int) then
 (idx a2 t5).bind fun (x6:Int) =>
 (idx r1.Values x6).bind fun (x7:Value) =>
 (qou x7).bind fun (r8:List UInt8×Int) =>
 if o4.length+r8.1.length≤140737488355328 then
 some (.next (true,(o4++r8.1),(v67.wrap (t5+1))))
 else none
 else
 some (.done (o3,o4))
def ql8 (r1:Row) (a2:List Int):Option (List UInt8) :=
 (qaj (qp7 r1 a2) (false,[],0)).bind (fun (o3,o4) =>
 some o4)
def qj8 (d1:IND) (x2:Table):((List (List UInt8×Bool))×Int)→Option (LS ((List (List UInt8×Bool))×Int) ((List (List UInt8×Bool)))):=fun (p3,t4) =>
 if t4 < (x2.Rows.length:Int) then
 (idx x2.Rows t4).bind fun (x5:Row) =>
 (ql8 x5 d1.Rhs).bind fun (r6:List UInt8) =>
 some (.next ((qrz p3 r6 true),(v67.wrap (t4+1))))
 else
 some (.done p3)
def qj9 (d1:IND) (p2:List (List UInt8×Bool)) (x3:Table):(List Int×Int)→Option (LS (List Int×Int) (List Int)):=fun (o4,t5) =>
 if t5 < (x3.Rows.length:Int) then
 (idx x3.Rows t5).bind fun (x6:Row) =>
 (ql8 x6 d1.Lhs).bind fun (r7:List UInt8) =>
 if ((qnq p2 r7).getD false)=true then
 some (.next (o4,(v67.wrap (t5+1))))
 else
 if qbi (o4.length+1) 8=true then
 some (.next ((o4++[x6.ID]),(v67.wrap (t5+1))))
 else none
 else
 some (.done o4)
def qiw (d1:Database) (d2:IND):Option (List Int×Int) :=
 (qj7 d1 d2).bind fun (r3:Int) =>
 if (r3 != 0)=true then
 some ([],r3)
 else
 (qge d1.Tables d2.To).bind fun (r4:Int) =>
 (idx d1.Tables r4).bind fun (x5:Table) =>
 (qaj (qj8 d2 x5) ([],0)).bind (fun p6 =>
 (qge d1.Tables d2.From).bind fun (r7:Int) =>
 (idx d1.Tables r7).bind fun (x8:Table) =>
 (qaj (qj9 d2 p6 x8) ([],0)).bind (fun o9 =>
 some (o9,0)))
def qlu (r1:List Int×Int):(List (List Int)×Int)→Option (LS (List (List Int)×Int) (List (List Int))):=fun (o2,t3) =>
 if t3 < (r1.1.length:Int) then
 (idx r1.1 t3).bind fun (x4:Int) =>
 if qbi (o2.length+1) 24=true then
 some (.next ((o2++[[x4]]),(v67.wrap (t3+1))))
 else none
 else
 some (.done o2)
def qdj (d1:Database) (c2:Constraint):Option (List (List Int)×Int) :=
 (qg7 d1 c2.Table).bind fun (r3:Table×Bool) =>
 if (c2.Kind == 1)=true then
 (qjs r3.1 c2.FD.Lhs (fun (y4:Row) (y5:Row)=>qee y4 y5 c2)).bind fun (r6:List (List Int)) =>
 if ((r6.length:Nat):Int) > 20000 then
 some ([],3)
 else
 (q3e (fun (y7:List Int) (y8:List Int)=>qab y7 y8) r6).bind fun (l9:List (List Int)) =>
 some (l9,0)
 else
 if (c2.Kind == 2)=true then
 (qjs r3.1 c2.MVD.Lhs (fun (y10:Row) (y11:Row)=>qg8 y10 y11 r3.1 (v68.wrap ((BitVec.ofInt 32 c2.MVD.Lhs ||| (BitVec.ofInt 32 c2.MVD.Rhs)).toNat:Int)))).bind fun (r12:List (List Int)) =>
 if ((r12.length:Nat):Int) > 20000 then
 some ([],3)
 else
 (q3e (fun (y13:List Int) (y14:List Int)=>qab y13 y14) r12).bind fun (l15:List (List Int)) =>
 some (l15,0)
 else
 if (c2.Kind == 3)=true then
 (qiw d1 c2.IND).bind fun (r16:List Int×Int) =>
 (qaj (qlu r16) ([],0)).bind (fun o17 =>
 if (r16.2 != 0)=true then
 some ([],r16.2)
 else
 if ((o17.length:Nat):Int) > 20000 then
 some ([],3)
 else
 (q3e (fun (y18:List Int) (y19:List Int)=>qab y18 y19) o17).bind fun (l20:List (List Int)) =>
 some (l20,0))
 else
 if (c2.Kind == 4)=true then
 (qb5 r3.1 c2.CFD).bind fun (r21:List (List Int)×Int) =>
 if (r21.2 != 0)=true then
 some ([],r21.2)
 else
 if (((r21.1).length:Nat):Int) > 20000 then
 some ([],3)
 else
 (q3e (fun (y22:List Int) (y23:List Int)=>qab y22 y23) r21.1).bind fun (l24:List (List Int)) =>
 some (l24,0)
 else
 if (c2.Kind == 5)=true then
 (qch r3.1 c2.OD).bind fun (r25:List (List Int)×Int) =>
 if (r25.2 != 0)=true then
 some ([],r25.2)
 else
 if (((r25.1).length:Nat):Int) > 20000 then
 some ([],3)
 else
 (q3e (fun (y26:List Int) (y27:List Int)=>qab y26 y27) r25.1).bind fun (l28:List (List Int)) =>
 some (l28,0)
 else
 (qdi r3.1 c2.Denial).bind fun (r29:List (List Int)×Int) =>
 if (r29.2 != 0)=true then
 some ([],r29.2)
 else
 if (((r29.1).length:Nat):Int) > 20000 then
 some ([],3)
 else
 (q3e (fun (y30:List Int) (y31:List Int)=>qab y30 y31) r29.1).bind fun (l32:List (List Int)) =>
 some (l32,0)
def qka (t1:Int) (r2:List (List Int)×Int):(List Violation×Int)→Option (LS (List Violation×Int) (List Violation)):=fun (o3,t4) =>
 if t4 < (r2.1.length:Int) then
 (idx r2.1 t4).bind fun (x5:List Int) =>
 if qbi (o3.length+1) 32=true then
 some (.next ((o3++[(Violation.mk t1 x5)]),(v67.wrap (t4+1))))
 else none
 else
 some (.done o3)
def qkb (d1:Database) (l2:List Constraint):(List Violation×Int)→Option (LS (List Violation×Int) ((List Violation) ⊕ (List Violation×Int))):=fun (o3,t4) =>
 if t4 < (l2.length:Int) then
 (idx l2 t4).bind fun (x5:Constraint) =>
 (qdj d1 x5).bind fun (r6:List (List Int)×Int) =>
 if (r6.2 != 0)=true then
 some (.done (.inr ([],r6.2)))
 else
 (qaj (qka t4 r6) (o3,0)).bind (fun o7 =>
 some (.next (o7,(v67.wrap (t4+1)))))
 else
 some (.done (.inl o3))
def qov (d1:Database) (l2:List Constraint):Option (List Violation×Int) :=
 (qk8 d1 l2).bind fun (r3:Int×Int) =>
 if (r3.2 != 0)=true then
 some ([],r3.2)
 else
 (qaj (qkb d1 l2) ([],0)).bind (fun o=>match o with
 | .inl o4 =>
 some (o4,0)
 | .inr r5 =>
 some r5)
def qlb (d1:Database) (l2:List Constraint):Option (Bool×Int) :=
 (qov d1 l2).bind fun (r3:List Violation×Int) =>
 if (r3.2 == 0)=true then
 some (((r3.1.length:Int) == 0),r3.2)
 else
 some (false,r3.2)
def qiq (t1:Table):Option (Database) :=
 some (Database.mk [t1])
def qe3 (l1:List Int) (i2:Int):Int→Option (LS (Int) ((Unit) ⊕ (Bool))):=fun i3 =>
 if i3 < (l1.length:Int) then
 (idx l1 i3).bind fun (x4:Int) =>
 if (x4 == i2)=true then
 some (.done (.inr true))
 else
 some (.next (v67.wrap (i3+1)))
 else
 some (.done (.inl ()))
def qi6 (l1:List Int) (i2:Int):Option (Bool) :=
 (qaj (qe3 l1 i2) 0).bind (fun o=>match o with
 | .inl () =>
 some false
 | .inr r3 =>
 some r3)
def qkc (r1:Row):Option (Row) :=
 if qbi r1.Values.length 32=true then
 some (Row.mk r1.ID r1.Values)
 else none
def qf4 (r1:List Row):(List Row×Int)→Option (LS (List Row×Int) (List Row)):=fun (o2,i3) =>
 if i3 < (r1.length:Int) then
 (idx r1 i3).bind fun (x4:Row) =>
 (qkc x4).bind fun (r5:Row) =>
 if qbi (o2.length+1) 32=true then
 some (.next ((o2++[r5]),(v67.wrap (i3+1))))
 else none
 else
 some (.done o2)
def qie (t1:Table) (r2:List Row):Option (Table) :=
 if qbi t1.Attrs.length 16=true then
 (qaj (qf4 r2) ([],0)).bind (fun o3 =>
 some (Table.mk t1.Name t1.Attrs o3))
 else none
def qf5 (t1:Table) (i2:List Int):(List Row×Int)→Option (LS (List Row×Int) (List Row)):=fun (r3,i4) =>
 if i4 < (t1.Rows.length:Int) then
 (idx t1.Rows i4).bind fun (x5:Row) =>
 (qi6 i2 x5.ID).bind fun (r6:Bool) =>
 if r6=true then
 if qbi (r3.length+1) 32=true then
 some (.next ((r3++[x5]),(v67.wrap (i4+1))))
 else none
 else
 some (.next (r3,(v67.wrap (i4+1))))
 else
 some (.done r3)
def qif (t1:Table) (i2:List Int):Option (Table) :=
 (qaj (qf5 t1 i2) ([],0)).bind (fun r3 =>
 (qie t1 r3).bind fun (r4:Table) =>
 some r4)
def qf6 (t1:Table) (m2:Int):(List Int×Int)→Option (LS (List Int×Int) (List Int)):=fun (o3,t4) =>
 if t4 < (t1.Rows.length:Int) then
 (idx t1.Rows t4).bind fun (x5:Row) =>
 if t4 < 0 then none else
 if ((v67.wrap ((BitVec.ofInt 64 (v7t m2 (2 ^ (min (t4).toNat 64))) &&& (1#64)).toNat:Int)) == 1)=true then
 if qbi (o3.length+1) 8=true then
 some (.next ((o3++[x5.ID]),(v67.wrap (t4+1))))
 else none
 else
 some (.next (o3,(v67.wrap (t4+1))))
 else
 some (.done o3)
def qdq (t1:Table) (m2:Int):Option (List Int) :=
 (qaj (qf6 t1 m2) ([],0)).bind (fun o3 =>
 some o3)
def qcj (l1:List Int):Int→Option (LS (Int) ((Unit) ⊕ (Bool))):=fun i2 =>
 if i2 < (l1.length:Int) then
 (idx l1 i2).bind fun (x3:Int) =>
 (idx l1 (v67.wrap (i2 - 1))).bind fun (x4:Int) =>
 if x3≤x4 then
 some (.done (.inr false))
 else
 some (.next (v67.wrap (i2+1)))
 else
 some (.done (.inl ()))
def qdr (l1:List Int):Option (Bool) :=
 (qaj (qcj l1) 1).bind (fun o=>match o with
 | .inl () =>
 some true
 | .inr r2 =>
 some r2)
def qf7 (x1:Int):Option (Bool) :=
 some (x1 != x1)
def qb7 (x1:List Int) (t2:Int):(Int×Int)→Option (LS (Int×Int) (Int)):=fun (i3,j4) =>
 if i3 < j4 then
 (idx x1 (v67.wrap (v7t (v7w.wrap (v67.wrap (i3+j4))) (2 ^ (min 1 64))))).bind fun (x5:Int) =>
 (qi4 x5 t2).bind fun (r6:Bool) =>
 if r6=true then
 some (.next ((v67.wrap ((v67.wrap (v7t (v7w.wrap (v67.wrap (i3+j4))) (2 ^ (min 1 64))))+1)),j4))
 else
 some (.next (i3,(v67.wrap (v7t (v7w.wrap (v67.wrap (i3+j4))) (2 ^ (min 1 64))))))
 else
 some (.done i3)
def qc9 (x1:List Int) (t2:Int):Option (Int×Bool) :=
 (qaj (qb7 x1 t2) (0,(x1.length:Int))).bind (fun i3 =>
 if i3 < (x1.length:Int) then
 (idx x1 i3).bind fun (x4:Int) =>
 if (x4 == t2)=true then
 some (i3,true)
 else
 (qf7 x4).bind fun (r5:Bool) =>
 if r5=true then
 (qf7 t2).bind fun (r6:Bool) =>
 some (i3,r6)
 else
 some (i3,false)
 else
 some (i3,false))
def qdz (l1:List Int) (p2:List Int):Int→Option (LS (Int) ((Unit) ⊕ (Bool))):=fun t3 =>
 if t3 < (p2.length:Int) then
 (idx p2 t3).bind fun (x4:Int) =>
 (qc9 l1 x4).bind fun (r5:Int×Bool) =>
 if r5.2=true then
 some (.next (v67.wrap (t3+1)))
 else
 some (.done (.inr false))
 else
 some (.done (.inl ()))
def qdk (l1:List Int) (p2:List Int):Option (Bool) :=
 (qaj (qdz l1 p2) 0).bind (fun o=>match o with
 | .inl () =>
 some true
 | .inr r3 =>
 some r3)
def qbv (s1:List (List Int)) (f2:(List Int)→Option (Bool)):Int→Option (LS (Int) ((Unit) ⊕ (Int))):=fun t3 =>
 if t3 < (s1.length:Int) then
 (idx s1 t3).bind fun (x4:List Int) =>
 (f2 x4).bind fun (r5:Bool) =>
 if r5=true then
 some (.done (.inr t3))
 else
 some (.next (v67.wrap (t3+1)))
 else
 some (.done (.inl ()))
def qds (s1:List (List Int)) (f2:(List Int)→Option (Bool)):Option (Int) :=
 (qaj (qbv s1 f2) 0).bind (fun o=>match o with
 | .inl () =>
 some (-1)
 | .inr r3 =>
 some r3)
def qcs (s1:List (List Int)) (f2:(List Int)→Option (Bool)):Option (Bool) :=
 (qds s1 f2).bind fun (r3:Int) =>
 some (decide (r3≥0))
def qc0 (m1:List Int) (c2:List Int):Option (Bool) :=
 (qdk c2 m1).bind fun (r3:Bool) =>
 some r3
def qev (h1:Hypergraph) (l2:List Int):Option (Bool) :=
 (qdr l2).bind fun (r3:Bool) =>
 if r3=true then
 (qdk h1.Vertices l2).bind fun (r4:Bool) =>
 if r4=true then
 (qcs h1.Edges (fun (y5:List Int)=>qc0 y5 l2)).bind fun (r6:Bool) =>
 some (!r6)
 else
 some false
 else
 some false
def qgu (h1:Hypergraph):Int→Option (LS (Int) ((Unit) ⊕ (Bool))):=fun t2 =>
 if t2 < (h1.Edges.length:Int) then
 (idx h1.Edges t2).bind fun (x3:List Int) =>
 if ((x3.length:Int) == 0)=true then
 some (.done (.inr false))
 else
 (qdr x3).bind fun (r4:Bool) =>
 if r4=true then
 (qdk h1.Vertices x3).bind fun (r5:Bool) =>
 if r5=true then
 if t2 > 0 then
 (idx h1.Edges (v67.wrap (t2 - 1))).bind fun (x6:List Int) =>
 (qab x6 x3).bind fun (r7:Int) =>
 if r7≥0 then
 some (.done (.inr false))
 else
 some (.next (v67.wrap (t2+1)))
 else
 some (.next (v67.wrap (t2+1)))
 else
 some (.done (.inr false))
 else
 some (.done (.inr false))
 else
 some (.done (.inl ()))
def qgv (h1:Hypergraph) (t2:Int) (x3:List Int):Int→Option (LS (Int) ((Unit) ⊕ (Bool))):=fun t4 =>
 if t4 < (h1.Edges.length:Int) then
 (idx h1.Edges t4).bind fun (x5:List Int) =>
 if (t2 != t4)=true then
 (qdk x3 x5).bind fun (r6:Bool) =>
 if r6=true then
 some (.done (.inr false))
 else
 some (.next (v67.wrap (t4+1)))
 else
 some (.next (v67.wrap (t4+1)))
 else
 some (.done (.inl ()))
def qgw (h1:Hypergraph):Int→Option (LS (Int) ((Unit) ⊕ (Bool))):=fun t2 =>
 if t2 < (h1.Edges.length:Int) then
 (idx h1.Edges t2).bind fun (x3:List Int) =>
 (qaj (qgv h1 t2 x3) 0).bind (fun o=>match o with
 | .inl () =>
 some (.next (v67.wrap (t2+1)))
 | .inr r4 =>
 some (.done (.inr r4)))
 else
 some (.done (.inl ()))
def qi7 (h1:Hypergraph):Option (Bool) :=
 (qdr h1.Vertices).bind fun (r2:Bool) =>
 if r2=true then
 if (h1.Edges.length:Int) > 20000 then
 some false
 else
 (qaj (qgu h1) 0).bind (fun o=>match o with
 | .inl () =>
 (qaj (qgw h1) 0).bind (fun o=>match o with
 | .inl () =>
 some true
 | .inr r3 =>
 some r3)
 | .inr r4 =>
 some r4)
 else
 some false
def qig (h1:Hypergraph):Option (Int) :=
 (qi7 h1).bind fun (r2:Bool) =>
 if r2=true then
 if (h1.Vertices.length:Int) > 40 then
 some 3
 else
 some 0
 else
 some 1
def qdl (s1:List Int) (v2:Int):Int→Option (LS (Int) ((Unit) ⊕ (Int))):=fun t3 =>
 if t3 < (s1.length:Int) then
 (idx s1 t3).bind fun (x4:Int) =>
 if (v2 == x4)=true then
 some (.done (.inr t3))
 else
 some (.next (v67.wrap (t3+1)))
 else
 some (.done (.inl ()))
def qf8 (s1:List Int) (v2:Int):Option (Int) :=
 (qaj (qdl s1 v2) 0).bind (fun o=>match o with
 | .inl () =>
 some (-1)
 | .inr r3 =>
 some r3)
def qbw (s1:List Int) (f2:Int→Option (Bool)):Int→Option (LS (Int) ((Unit) ⊕ (Int))):=fun t3 =>
 if t3 < (s1.length:Int) then
 (idx s1 t3).bind fun (x4:Int) =>
 (f2 x4).bind fun (r5:Bool) =>
 if r5=true then
 some (.done (.inr t3))
 else
 some (.next (v67.wrap (t3+1)))
 else
 some (.done (.inl ()))
def qdt (s1:List Int) (f2:Int→Option (Bool)):Option (Int) :=
 (qaj (qbw s1 f2) 0).bind (fun o=>match o with
 | .inl () =>
 some (-1)
 | .inr r3 =>
 some r3)
def qbd (s1:List Int) (f2:Int→Option (Bool)):Option (Bool) :=
 (qdt s1 f2).bind fun (r3:Int) =>
 some (decide (r3≥0))
def qbe (e1:Int) (c2:Int) (c3:Int) (c4:Int):Option (Bool) :=
 if c2 < 0 then none else
 if ((v7w.wrap ((BitVec.ofInt 64 (v7t e1 (2 ^ (min (c2).toNat 64))) &&& (1#64)).toNat:Int)) == 1)=true then
 some ((v7w.wrap ((BitVec.ofInt 64 (v7w.wrap ((BitVec.ofInt 64 e1 &&& ~~~ (BitVec.ofInt 64 (v7w.wrap (1 * 2 ^ (min (c2).toNat 64))))).toNat:Int)) &&& ~~~ (BitVec.ofInt 64 (v7w.wrap ((BitVec.ofInt 64 c3 ||| (BitVec.ofInt 64 c4)).toNat:Int)))).toNat:Int)) == 0)
 else
 some false
def qbg (e1:Int) (c2:Int):Option (Bool) :=
 some ((v7w.wrap ((BitVec.ofInt 64 e1 &&& ~~~ (BitVec.ofInt 64 c2)).toNat:Int)) == 0)
def qe4 (h1:Hypergraph) (x2:List Int):(Int×Int)→Option (LS (Int×Int) (Int)):=fun (b3,t4) =>
 if t4 < (x2.length:Int) then
 (idx x2 t4).bind fun (x5:Int) =>
 (qf8 h1.Vertices x5).bind fun (r6:Int) =>
 if r6 < 0 then none else
 some (.next ((v7w.wrap ((BitVec.ofInt 64 b3 ||| (BitVec.ofInt 64 (v7w.wrap (1 * 2 ^ (min (r6).toNat 64))))).toNat:Int)),(v67.wrap (t4+1))))
 else
 some (.done b3)
def qe5 (h1:Hypergraph):(List Int×Int)→Option (LS (List Int×Int) (List Int)):=fun (w2,t3) =>
 if t3 < (h1.Edges.length:Int) then
 (idx h1.Edges t3).bind fun (x4:List Int) =>
 (qaj (qe4 h1 x4) (0,0)).bind (fun b5 =>
 if qbi (w2.length+1) 8=true then
 some (.next ((w2++[b5]),(v67.wrap (t3+1))))
 else none)
 else
 some (.done w2)
def qef (h1:Hypergraph) (w2:List Int) (v3:Int) (i4:Int) (o5:Int):Int→Option (LS (Int) ((Unit) ⊕ (Unit))):=fun t6 =>
 if t6 < v3 then
 if t6 < 0 then none else
 if ((v7w.wrap ((BitVec.ofInt 64 (v7t o5 (2 ^ (min (t6).toNat 64))) &&& (1#64)).toNat:Int)) == 1)=true then
 (qbd w2 (fun (y7:Int)=>qbe y7 t6 i4 (v7w.wrap ((BitVec.ofInt 64 (v7w.wrap (18446744073709551615 * 2 ^ (min (v3).toNat 64))) &&& (BitVec.ofInt 64 (v7w.wrap ((v7w.wrap (1 * 2 ^ (min h1.Vertices.length 64))) - 1)))).toNat:Int)))).bind fun (r8:Bool) =>
 if r8=true then
 some (.next (v67.wrap (t6+1)))
 else
 some (.done (.inr ()))
 else
 some (.next (v67.wrap (t6+1)))
 else
 some (.done (.inl ()))
def qco (h1:Hypergraph) (m2:Int) (w3:List Int) (r4:(List Int×Int×Int×Int)→Option (Bool×List Int)):(List Int×Int×Int×Int)→Option (Bool×List Int):=fun (i5,v6,i7,o8) =>
 if v6 < 0 then none else
 if (h1.Vertices.length:Int) < 0 then none else
 (qaj (qef h1 w3 v6 i7 o8) 0).bind (fun o=>match o with
 | .inl () =>
 if (v6 == (h1.Vertices.length:Int))=true then
 if qbi (i5.length+1) 8=true then
 some ((decide ((((i5.length+1):Nat):Int)≤m2)),(i5++[i7]))
 else none
 else
 (qbd w3 (fun (y9:Int)=>qbg y9 (v7w.wrap ((BitVec.ofInt 64 i7 ||| (BitVec.ofInt 64 (v7w.wrap (1 * 2 ^ (min (v6).toNat 64))))).toNat:Int)))).bind fun (r10:Bool) =>
 if r10=true then
 (r4 (i5,(v67.wrap (v6+1)),i7,(v7w.wrap ((BitVec.ofInt 64 o8 ||| (BitVec.ofInt 64 (v7w.wrap (1 * 2 ^ (min (v6).toNat 64))))).toNat:Int)))).bind (fun (o:Bool×List Int)=>match o with
 | (t11,i12) =>
 some (t11,i12))
 else
 (r4 (i5,(v67.wrap (v6+1)),(v7w.wrap ((BitVec.ofInt 64 i7 ||| (BitVec.ofInt 64 (v7w.wrap (1 * 2 ^ (min (v6).toNat 64))))).toNat:Int)),o8)).bind (fun (o:Bool×List Int)=>match o with
 | (t13,i14) =>
 if t13=true then
 (r4 (i14,(v67.wrap (v6+1)),i7,(v7w.wrap ((BitVec.ofInt 64 o8 ||| (BitVec.ofInt 64 (v7w.wrap (1 * 2 ^ (min (v6).toNat 64))))).toNat:Int)))).bind (fun (o:Bool×List Int)=>match o with
 | (t15,i16) =>
 some (t15,i16))
 else
 some (false,i14))
 | .inr () =>
 some (true,i5))
def qi8 (h1:Hypergraph) (m2:Int):Option (List Int×Bool) :=
 (qaj (qe5 h1) ([],0)).bind (fun w3 =>
 (vvh (qco h1 m2 w3) 64 ([],0,0,0)).bind (fun (o:Bool×List Int)=>match o with
 | (t4,i5) =>
 some (i5,t4)))
def qhk (h1:Hypergraph) (s2:Int):(List Int×Int)→Option (LS (List Int×Int) (List Int)):=fun (o3,t4) =>
 if t4 < (h1.Vertices.length:Int) then
 (idx h1.Vertices t4).bind fun (x5:Int) =>
 if t4 < 0 then none else
 if ((v7w.wrap ((BitVec.ofInt 64 (v7t s2 (2 ^ (min (t4).toNat 64))) &&& (1#64)).toNat:Int)) == 1)=true then
 if qbi (o3.length+1) 8=true then
 some (.next ((o3++[x5]),(v67.wrap (t4+1))))
 else none
 else
 some (.next (o3,(v67.wrap (t4+1))))
 else
 some (.done o3)
def qkd (h1:Hypergraph) (s2:Int):Option (List Int) :=
 (qaj (qhk h1 s2) ([],0)).bind (fun o3 =>
 some o3)
def qhl (h1:Hypergraph) (r2:List Int×Bool):(List (List Int)×Int)→Option (LS (List (List Int)×Int) (List (List Int))):=fun (o3,t4) =>
 if t4 < (r2.1.length:Int) then
 (idx r2.1 t4).bind fun (x5:Int) =>
 (qkd h1 x5).bind fun (r6:List Int) =>
 if qbi (o3.length+1) 24=true then
 some (.next ((o3++[r6]),(v67.wrap (t4+1))))
 else none
 else
 some (.done o3)
def qke (h1:Hypergraph) (m2:Int):Option (List (List Int)×Int) :=
 (qig h1).bind fun (r3:Int) =>
 if (r3 != 0)=true then
 some ([],r3)
 else
 (qi8 h1 m2).bind fun (r4:List Int×Bool) =>
 if r4.2=true then
 (qaj (qhl h1 r4) ([],0)).bind (fun o5 =>
 some (o5,0))
 else
 some ([],3)
def qe6 (a1:List Int) (b2:List Int):Int→Option (LS (Int) ((Unit) ⊕ (Bool))):=fun i3 =>
 if i3 < (a1.length:Int) then
 (idx a1 i3).bind fun (x4:Int) =>
 (idx b2 i3).bind fun (x5:Int) =>
 if (x4 != x5)=true then
 some (.done (.inr false))
 else
 some (.next (v67.wrap (i3+1)))
 else
 some (.done (.inl ()))
def qi9 (a1:List Int) (b2:List Int):Option (Bool) :=
 if ((a1.length:Int) != (b2.length:Int))=true then
 some false
 else
 (qaj (qe6 a1 b2) 0).bind (fun o=>match o with
 | .inl () =>
 some true
 | .inr r3 =>
 some r3)
def qc1 (r1:Table×Bool) (r2:List Constraint) (r3:Hypergraph×Int):(List Bool×Int)→Option (LS (List Bool×Int) ((List Bool) ⊕ (Bool))):=fun (c4,t5) =>
 if t5 < (((v67.wrap (1 * 2 ^ (min r1.1.Rows.length 64))).toNat:Nat):Int) then
 (qdq r1.1 t5).bind fun (r6:List Int) =>
 (qif r1.1 r6).bind fun (r7:Table) =>
 (qiq r7).bind fun (r8:Database) =>
 (qlb r8 r2).bind fun (r9:Bool×Int) =>
 if (r9.2 != 0)=true then
 some (.done (.inr false))
 else
 (qdq r1.1 t5).bind fun (r10:List Int) =>
 (qev r3.1 r10).bind fun (r11:Bool) =>
 if (r9.1 == r11)=true then
 (idx c4 t5).bind fun (x12:Bool) =>
 some (.next ((c4.set t5.toNat r9.1),(v67.wrap (t5+1))))
 else
 some (.done (.inr false))
 else
 some (.done (.inl c4))
def qc2 (r1:Table×Bool) (c2:List Bool) (t3:Int):(Bool×Int)→Option (LS (Bool×Int) (Bool)):=fun (g4,t5) =>
 if t5 < (r1.1.Rows.length:Int) then
 if g4=true then
 if t5 < 0 then none else
 if ((v67.wrap ((BitVec.ofInt 64 (v7t t3 (2 ^ (min (t5).toNat 64))) &&& (1#64)).toNat:Int)) == 1)=true then
 some (.next (true,(v67.wrap (t5+1))))
 else
 (idx c2 (v67.wrap ((BitVec.ofInt 64 t3 ||| (BitVec.ofInt 64 (v67.wrap (1 * 2 ^ (min (t5).toNat 64))))).toNat:Int))).bind fun (x6:Bool) =>
 some (.next ((!x6),(v67.wrap (t5+1))))
 else
 some (.next (false,(v67.wrap (t5+1))))
 else
 some (.done g4)
def qc3 (r1:Table×Bool) (c2:List Bool):(List (List Int)×Int)→Option (LS (List (List Int)×Int) (List (List Int))):=fun (w3,t4) =>
 if t4 < ((c2.length:Nat):Int) then
 (idx c2 t4).bind fun (x5:Bool) =>
 (qaj (qc2 r1 c2 t4) (x5,0)).bind (fun g6 =>
 if g6=true then
 (qdq r1.1 t4).bind fun (r7:List Int) =>
 if qbi (w3.length+1) 24=true then
 some (.next ((w3++[r7]),(v67.wrap (t4+1))))
 else none
 else
 some (.next (w3,(v67.wrap (t4+1)))))
 else
 some (.done w3)
def qc4 (r1:List (List Int)×Int) (x2:List Int):(Bool×Int)→Option (LS (Bool×Int) (Bool)):=fun (f3,t4) =>
 if t4 < (r1.1.length:Int) then
 (idx r1.1 t4).bind fun (x5:List Int) =>
 if f3=true then
 some (.next (true,(v67.wrap (t4+1))))
 else
 (qi9 x2 x5).bind fun (r6:Bool) =>
 some (.next (r6,(v67.wrap (t4+1))))
 else
 some (.done f3)
def qc5 (w1:List (List Int)) (r2:List (List Int)×Int):Int→Option (LS (Int) ((Unit) ⊕ (Bool))):=fun t3 =>
 if t3 < ((w1.length:Nat):Int) then
 (idx w1 t3).bind fun (x4:List Int) =>
 (qaj (qc4 r2 x4) (false,0)).bind (fun f5 =>
 if f5=true then
 some (.next (v67.wrap (t3+1)))
 else
 some (.done (.inr false)))
 else
 some (.done (.inl ()))
def qg9 (x1:Drossref03_Recipe) (r2:List Drossref37_Rule):Option (Bool) :=
 (qeo x1 6).bind fun (r3:Table×Bool) =>
 (qh6 (r3.1.Attrs.length:Int) r2).bind fun (r4:List Constraint×Bool) =>
 (show Option (Bool) from
 (qjd ).bind fun (r5:Bool) =>
 if r5=true then
 if r3.2=true then
 some (!r4.2)
 else
 some true
 else
 some true).bind (fun t6 =>
 if t6=true then
 (qjd ).bind fun (r7:Bool) =>
 some r7
 else
 (qhg r4.1).bind fun (r8:List Constraint) =>
 (qi5 r3.1 r8).bind fun (r9:Hypergraph×Int) =>
 if (r9.2 != 0)=true then
 some false
 else
 if (r3.1.Rows.length:Int) < 0 then none else
 if 0≤(v67.wrap (1 * 2 ^ (min r3.1.Rows.length 64))) then
 if qbi (v67.wrap (1 * 2 ^ (min r3.1.Rows.length 64))).toNat 1=true then
 (qaj (qc1 r3 r8 r9) ((v4a (v67.wrap (1 * 2 ^ (min r3.1.Rows.length 64))).toNat false),0)).bind (fun o=>match o with
 | .inl c10 =>
 (qaj (qc3 r3 c10) ([],0)).bind (fun w11 =>
 (qke r9.1 1000).bind fun (r12:List (List Int)×Int) =>
 if (r12.2 != 0)=true then
 some false
 else
 if ((r12.1.length:Int) != ((w11.length:Nat):Int))=true then
 some false
 else
 (qaj (qc5 w11 r12) 0).bind (fun o=>match o with
 | .inl () =>
 some true
 | .inr r13 =>
 some r13))
 | .inr r14 =>
 some r14)
 else none
 else none)
end Go.Proofs.YtkebadaokhljmaaGreatDoor
namespace Go.Ab
open Go
def qze {α β τ:Type} (f:β→α→β ⊕ τ) (fin:β→τ):List α→β→τ
 | [],b=>fin b
 | x :: r,b=>match f b x with
  | .inl b'=>qze f fin r b'
  | .inr t=>t
theorem q9j {α β σ τ:Type} (l:List α) (S:β→Int→σ) (B:σ→Option (LS σ τ)) (f:β→α→β ⊕ τ) (fin:β→τ) (I:Nat→β→Prop)
  (hs:∀(k:Nat) b x,l[k]?=some x→I k b→(∀b',f b x=.inl b'→B (S b k)=some (.next (S b' (k+1:Nat)))∧I (k+1) b')∧(∀t,f b x=.inr t→B (S b k)=some (.done t)))
  (he:∀b,I l.length b→B (S b l.length)=some (.done (fin b))) :
  ∀(r:List α) (k:Nat) (b:β),l.drop k=r→k≤l.length→I k b→qaj B (S b k)=some (qze f fin r b):=by
 intro r
 induction r with
 | nil =>
  intro k b hd hk hI;have:k=l.length:=by
   have:=congrArg v71 hd;simp at this;omega
  subst this;exact qao (he b hI)
 | cons x r ih =>
  intro k b hd hk hI;have hx:l[k]?=some x:=by
   have:=congrArg (·[0]?) hd;simpa [v3c] using this
  have hlt:k < l.length:=(List.getElem?_eq_some_iff.1 hx).1;have hd':l.drop (k+1)=r:=by
   rw [←v7y,hd];rfl
  obtain ⟨h1,h2⟩:=hs k b x hx hI;cases hf:f b x with
  | inl b' =>
   obtain ⟨h3,h4⟩:=h1 b' hf;rw [qaq h3,ih (k+1) b' hd' hlt h4];simp [qze,hf]
  | inr t =>
   rw [qao (h2 t hf)];simp [qze,hf]
theorem qr3 {α β σ τ:Type} (l:List α) (S:β→Int→σ) (B:σ→Option (LS σ τ)) (f:β→α→β ⊕ τ) (fin:β→τ) (I:Nat→β→Prop) {b0:β} {s0:σ} (h0:s0=S b0 0) (hI:I 0 b0)
  (hs:∀(k:Nat) b x,l[k]?=some x→k < l.length→I k b→(∀b',f b x=.inl b'→B (S b k)=some (.next (S b' (k+1:Nat)))∧I (k+1) b')∧(∀t,f b x=.inr t→B (S b k)=some (.done t)))
  (he:∀b,I l.length b→B (S b l.length)=some (.done (fin b))):qaj B s0=some (qze f fin l b0):=by
 subst h0;exact q9j l S B f fin I (fun k b x hx=>hs k b x hx (qdf hx)) he l 0 b0 rfl (Nat.zero_le _) hI
theorem qbh {k n:Nat} (h:k < n) (hn:n≤4611686018427387904):v67.wrap ((k:Int)+1)=((k+1:Nat):Int):=by
 rw [qbx (by omega) (by omega)];omega
theorem qcd {k:Nat} (h:k < 4611686018427387904):v67.wrap ((k:Int)+1)=((k+1:Nat):Int):=by
 rw [qbx (by omega) (by omega)];omega
theorem wqn (k:Nat) (h:k < 4611686018427387904:=by omega):v67.wrap ((k:Int)+1)=((k+1:Nat):Int):=qcd h
theorem qbq {n b:Nat} (h:n≤1073741824) (hb:b≤65536):qbi n b=true:=by
 unfold qbi;have:n * b≤1073741824 * 65536:=Nat.mul_le_mul h hb;simp only [decide_eq_true_eq];omega
theorem qaf {α:Type} {l:List α} {k:Nat} {x:α} (h:l[k]?=some x):idx l (k:Int)=some x:=by rw [qym,h]
theorem qai {α:Type} {l:List α} {k:Nat} {x:α} (h:l[k]?=some x):((k:Int) < (l.length:Int)):=by have:=qdf h;omega
theorem q6k {α β τ:Type} (g:β→α→β) (fin:β→τ):∀(l:List α) (b:β),qze (fun b x=>(Sum.inl (g b x):β ⊕ τ)) fin l b=fin (l.foldl g b)
 | [],_=>rfl
 | x :: r,b=>by simp only [qze,List.foldl_cons];exact q6k g fin r _
theorem qlc {α ρ:Type} (l:List α) (B:Int→Option (LS Int (Unit ⊕ ρ))) (p:α→Bool) (bad:ρ)
  (h1:∀(k:Nat) x,l[k]?=some x→k < l.length→p x=true→B k=some (.next (k+1:Nat))) (h2:∀(k:Nat) x,l[k]?=some x→p x=false→B k=some (.done (.inr bad))) (h3:B l.length=some (.done (.inl ()))) :
  qaj B 0=some (if l.all p then .inl () else .inr bad):=by
 have h:=qr3 l (fun (_:Unit) i=>i) B (fun (_:Unit) x=>if p x then Sum.inl () else Sum.inr (Sum.inr bad)) (fun _=>Sum.inl ()) (fun _ _=>True) (b0:=()) (s0:=0) rfl trivial
  (fun k b x hx hk _=>by
   constructor
   ·intro b' hf;refine ⟨?_,trivial⟩;rcases v7s (p x) with hp | hp
    ·exact h1 k x hx hk hp
    ·simp [hp] at hf
   ·intro t hf;rcases v7s (p x) with hp | hp
    ·simp [hp] at hf
    ·simp [hp] at hf;subst hf;exact h2 k x hx hp)
  (fun b _=>h3)
 rw [h];congr 1;clear h h1 h2 h3
 induction l with
 | nil=>rfl
 | cons x r ih=>rcases v7s (p x) with hp | hp <;> simp [qze,hp,ih]
theorem qgx {α:Type} (l:List α) (B:Int→Option (LS Int (Unit ⊕ Int))) (p:α→Bool)
  (h1:∀(k:Nat) x,l[k]?=some x→k < l.length→p x=false→B k=some (.next (k+1:Nat))) (h2:∀(k:Nat) x,l[k]?=some x→p x=true→B k=some (.done (.inr k))) (h3:B l.length=some (.done (.inl ()))) :
  qaj B 0=some (match l.findIdx? p with | some i=>.inr (i:Int) | none=>.inl ()):=by
 have key:∀(r:List α) (k:Nat),l.drop k=r→k≤l.length→qaj B (k:Int)=some (match r.findIdx? p with | some i=>.inr ((k+i:Nat):Int) | none=>.inl ()):=by
  intro r
  induction r with
  | nil =>
   intro k hd hk;have:k=l.length:=by
    have:=congrArg v71 hd;simp at this;omega
   subst this;exact qao h3
  | cons x r ih =>
   intro k hd hk;have hx:l[k]?=some x:=by
    have:=congrArg (·[0]?) hd;simpa [v3c] using this
   have hd':l.drop (k+1)=r:=by rw [←v7y,hd];rfl
   rcases v7s (p x) with hp | hp
   ·rw [qao (h2 k x hx hp)];simp [v7z,hp]
   ·rw [qaq (h1 k x hx (qdf hx) hp),ih (k+1) hd' (qdf hx)];simp only [v7z,hp];cases r.findIdx? p with
    | none=>rfl
    | some i=>simp;omega
 have:=key l 0 (by simp) (Nat.zero_le _);simpa using this
theorem qdu {α β σ τ:Type} (l:List α) (S:β→Int→σ) (B:σ→Option (LS σ τ)) (g:β→α→β) (fin:β→τ) (I:Nat→β→Prop) {b0:β} {s0:σ} (h0:s0=S b0 0) (hI:I 0 b0)
  (hs:∀(k:Nat) b x,l[k]?=some x→k < l.length→I k b→B (S b k)=some (.next (S (g b x) (k+1:Nat)))∧I (k+1) (g b x))
  (he:∀b,I l.length b→B (S b l.length)=some (.done (fin b))):qaj B s0=some (fin (l.foldl g b0)):=by
 rw [qr3 l S B (fun b x=>Sum.inl (g b x)) fin I h0 hI (fun k b x hx hk hi=>⟨fun b' hb=>by cases hb;exact hs k b x hx hk hi,fun t ht=>by cases ht⟩) he,q6k]
def okI (k:IntKind) (n:Int):Prop:=(Lit.int k n).wf=true
def okS (s:List UInt8):Prop:=s.length≤1048576
def okL {α:Type} (ok:α→Prop) (l:List α):Prop:=l.length≤1048576∧∀x∈l,ok x
def qih {α:Type} (p:Nat→α→Bool):Nat→List α→Bool
 | _,[]=>true
 | k,x :: r=>p k x && qih p (k+1) r
theorem qv1 {α ρ:Type} (l:List α) (B:Int→Option (LS Int (Unit ⊕ ρ))) (p:Nat→α→Bool) (bad:ρ)
  (h1:∀(k:Nat) x,l[k]?=some x→k < l.length→p k x=true→B k=some (.next (k+1:Nat))) (h2:∀(k:Nat) x,l[k]?=some x→p k x=false→B k=some (.done (.inr bad))) (h3:B l.length=some (.done (.inl ()))) :
  ∀(r:List α) (k:Nat),l.drop k=r→k≤l.length→qaj B (k:Int)=some (if qih p k r then .inl () else .inr bad):=by
 intro r
 induction r with
 | nil =>
  intro k hd hk;have:k=l.length:=by
   have:=congrArg v71 hd;simp at this;omega
  subst this;exact qao h3
 | cons x r ih =>
  intro k hd hk;have hx:l[k]?=some x:=by
   have:=congrArg (·[0]?) hd;simpa [v3c] using this
  have hd':l.drop (k+1)=r:=by rw [←v7y,hd];rfl
  rcases v7s (p k x) with hp | hp
  ·rw [qaq (h1 k x hx (qdf hx) hp),ih (k+1) hd' (qdf hx)];simp [qih,hp]
  ·rw [qao (h2 k x hx hp)];simp [qih,hp]
theorem qzf {α:Type} (q:α→Bool):∀(l:List α) (k:Nat),qih (fun _ x=>q x) k l=l.all q
 | [],_=>rfl
 | x :: r,k=>by simp [qih,qzf q r]
theorem qun {α:Type} {p q:Nat→α→Bool}:∀(l:List α) (k:Nat),(∀j x,k≤j→x∈l→p j x=q j x)→qih p k l=qih q k l
 | [],_,_=>rfl
 | x :: r,k,h=>by
  simp only [qih];rw [h k x (Nat.le_refl _) (by simp),qun r (k+1) (fun j y hj hy=>h j y (by omega) (by simp [hy]))]
theorem qw2 {n:Nat} (h:n≤17592186044416):qbi n 8=true:=by
 unfold qbi;simp only [decide_eq_true_eq];omega
end Go.Ab
namespace Go.Proofs.YtkebadaokhljmaaGreatDoor
open Go Go.Ab
def vin (x:Value):Prop:=(okI .i64) x.Kind∧(okI .i64) x.Num∧okS x.Str
def qha (x:Drossref03_Recipe):Prop:=(okI .u8) x.Attrs∧(okI .u8) x.Gap∧(okL (okL (okI .u8))) x.Rows
def okRow (x:Row):Prop:=(okI .i64) x.ID∧(okL vin) x.Values
def qtc (x:Table):Prop:=okS x.Name∧(okL okS) x.Attrs∧(okL okRow) x.Rows
def qhw (x:Drossref16_Draft):Prop:=(okI .u8) x.Lhs∧(okI .u8) x.Rhs∧(okL (okI .u8)) x.Codes
def qhx (x:Drossref17_Lists):Prop:=(okL (okI .u8)) x.X∧(okL (okI .u8)) x.Y
def qgy (x:Drossref18_Side):Prop:=(okI .u8) x.Var∧(okI .u8) x.Code
def qf9 (x:Drossref18_Sentence):Prop:=qgy x.Left∧(okI .u8) x.Op∧qgy x.Right
def qhb (x:Drossref18_Recipe):Prop:=(okI .u8) x.Vars∧(okL qf9) x.Atoms
def qjg (x:Drossref09_Dep):Prop:=(okI .u8) x.L∧(okI .u8) x.R
def qe7 (x:Drossref37_Rule):Prop:=(okI .u8) x.Kind∧qjg x.F∧qhw x.C∧qhx x.O∧qhb x.N
end Go.Proofs.YtkebadaokhljmaaGreatDoor

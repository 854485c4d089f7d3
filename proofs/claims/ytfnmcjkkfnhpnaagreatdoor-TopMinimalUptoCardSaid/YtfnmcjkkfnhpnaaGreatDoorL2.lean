/- The Lean functions that the program's functions are lifted to, and the plain laws about them. -/
import Derived.Lib.Bytealg
import Derived.Test.YtfnmcjkkfnhpnaaGreatDoorT1
import Derived.Test.YtfnmcjkkfnhpnaaGreatDoorA3
set_option linter.unusedVariables false
set_option linter.unusedSimpArgs false
noncomputable section
namespace Go.Proofs.YtfnmcjkkfnhpnaaGreatDoor
open Go Go.Ab
def qwj:Ext:=fun k=>bif Nat.beq k 258 then some (fun a=>match a with
  | [.str x,.str y]=>some (.int .i64 (Lib.compareBytes x y))
  | _=>none) else bif Nat.beq k 182 then some (fun a=>match a with
  | [.int .u32 n]=>if 0≤n∧n < 4294967296 then some (.int .i64 (vjq n.toNat)) else none
  | _=>none) else none
def von:KR→Bool
 | .r (.p (.bool true)) ..=>true
 | _=>false
theorem vonG {P:Program} {D:Prop} {ext:Ext} {n:Nat} {k:FuncId} (hB:(P.funcs.all fun fn=>!(fn.name== "runtime.NumGoroutine"))=true) (hmo:P.follows .mixedOrders=true) (hE:q9j P ext) (h:von (qve P ext (qp5 P ext n) k [] .e 1000)=true):ven D P k [] (.bool true):=by
  generalize hz:qve P ext (qp5 P ext n) k [] .e 1000=z at h
  unfold von at h
  split at h
  · rename_i h1 f1
    exact vcu hB hmo hE (args:=[]) hz rfl
  · cases h
theorem vcv:von (qve Tryz.prog qwj (qp5 Tryz.prog qwj 1000) 5 [] .e 1000)=true:=by decide +kernel
end Go.Proofs.YtfnmcjkkfnhpnaaGreatDoor

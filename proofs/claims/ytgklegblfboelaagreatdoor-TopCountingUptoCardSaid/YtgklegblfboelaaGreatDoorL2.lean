/- The Lean functions that the program's functions are lifted to, and the plain laws about them. -/
import Derived.Lib.Bytealg
import Derived.Test.YtgklegblfboelaaGreatDoorT1
import Derived.Test.YtgklegblfboelaaGreatDoorA3
set_option linter.unusedVariables false
set_option linter.unusedSimpArgs false
noncomputable section
namespace Go.Proofs.YtgklegblfboelaaGreatDoor
open Go Go.Ab
def qx5:Ext:=fun k=>bif Nat.beq k 236 then some (fun a=>match a with
  | [.str x,.str y]=>some (.int .i64 (Lib.compareBytes x y))
  | _=>none) else bif Nat.beq k 200 then some (fun a=>match a with
  | [.int .u32 n]=>if 0≤n∧n < 4294967296 then some (.int .i64 (tz32 n.toNat)) else none
  | _=>none) else none
theorem q56:vag (qo1 Tryz.prog qx5 (qkp Tryz.prog qx5 1000) 5 [] .e 1000)=true:=by decide +kernel
end Go.Proofs.YtgklegblfboelaaGreatDoor

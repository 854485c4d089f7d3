/- -/
import Derived.Lib.Bytealg
import Derived.Test.YtkebadaokhljmaaGreatDoorT1
import Derived.Test.YtkebadaokhljmaaGreatDoorA3
set_option linter.unusedVariables false
set_option linter.unusedSimpArgs false
noncomputable section
namespace Go.Proofs.YtkebadaokhljmaaGreatDoor
open Go Go.Ab
def vbm:Ext:=fun k=>bif Nat.beq k 275 then some (fun a=>match a with
  | [.str x,.str y]=>some (.int .i64 (Lib.compareBytes x y))
  | _=>none) else bif Nat.beq k 183 then some (fun a=>match a with
  | [.int .u32 n]=>if 0≤n∧n < 4294967296 then some (.int .i64 (vvg n.toNat)) else none
  | _=>none) else none
theorem vmp:vs7 (qy6 Tryz.prog vbm (qs9 Tryz.prog vbm 1000) 6 [] .e 1000)=true:=by decide +kernel
end Go.Proofs.YtkebadaokhljmaaGreatDoor

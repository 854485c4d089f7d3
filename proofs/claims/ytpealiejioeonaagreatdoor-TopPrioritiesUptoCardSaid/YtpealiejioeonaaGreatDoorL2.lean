/- -/
import Derived.Lib.Bytealg
import Derived.Test.YtpealiejioeonaaGreatDoorT1
import Derived.Test.YtpealiejioeonaaGreatDoorA3
set_option linter.unusedVariables false
set_option linter.unusedSimpArgs false
noncomputable section
namespace Go.Proofs.YtpealiejioeonaaGreatDoor
open Go Go.Ab
def q9d:Ext:=fun k=>bif Nat.beq k 294 then some (fun a=>match a with
  | [.str x,.str y]=>some (.int .i64 (Lib.compareBytes x y))
  | _=>none) else bif Nat.beq k 191 then some (fun a=>match a with
  | [.int .u32 n]=>if 0≤n∧n < 4294967296 then some (.int .i64 (vq1 n.toNat)) else none
  | _=>none) else none
theorem vjl:vpi (qx4 Tryz.prog q9d (qsy Tryz.prog q9d 1000) 5 [] .e 1000)=true:=by decide +kernel
end Go.Proofs.YtpealiejioeonaaGreatDoor

import Derived.Test.YtljbbjpbefjpiaaGreatDoorPA21
set_option linter.all false
namespace Go.Proofs.YtljbbjpbefjpiaaGreatDoor.Abs
open Go.RowKit
@[go_sem high] theorem newsU_sb {s:cB}:Np .str (.lit (.string (bs s)))=some (mT s):=congrArg some (Fk s)

/- Contracts of the reference's functions on natural numbers (digits to the base 65536), first part. -/
import Derived.Test.YtchcjbbnkcodjaaGreatDoorW2
import Derived.Test.YtchcjbbnkcodjaaGreatDoorRepA
import Derived.Test.YtchcjbbnkcodjaaGreatDoorDig
import Derived.Test.YtchcjbbnkcodjaaGreatDoorW6
import Derived.Test.YtchcjbbnkcodjaaGreatDoorW4
import Derived.Test.YtchcjbbnkcodjaaGreatDoorRep3
set_option linter.unusedVariables false
set_option linter.unusedSimpArgs false
namespace Go.Dig
end Go.Dig
namespace Go.Proofs.YtchcjbbnkcodjaaGreatDoor
open Go Go.Vc Go.Dig
end Go.Proofs.YtchcjbbnkcodjaaGreatDoor

/- Contracts of the reference's functions on natural numbers (digits to the base 65536), second part: words, bits, powers, shifts, division by a digit. -/
namespace Go.Dig
end Go.Dig
namespace Go.Proofs.YtchcjbbnkcodjaaGreatDoor
open Go Go.Vc Go.Dig

end Go.Proofs.YtchcjbbnkcodjaaGreatDoor

/- Contracts of the reference's functions on natural numbers (digits to the base 65536), third part: division by a digit, shifts, what long division calls. -/
namespace Go.Dig
end Go.Dig
namespace Go.Proofs.YtchcjbbnkcodjaaGreatDoor
open Go Go.Vc Go.Dig

end Go.Proofs.YtchcjbbnkcodjaaGreatDoor

/- Contracts of the reference's functions on natural numbers (digits to the base 65536), fourth part: the shift to the right, long division. -/
namespace Go.Proofs.YtchcjbbnkcodjaaGreatDoor
open Go Go.Vc Go.Dig

end Go.Proofs.YtchcjbbnkcodjaaGreatDoor

/- Contracts of the reference's functions on natural numbers (digits to the base 65536), fifth part: one digit of long division. -/
namespace Go.Vc
open Go Go.Dig
/-- own memory that holds numbers, and something behind them -/
abbrev RowZ (kd : IntKind) (T : TypeId) (o : List Nat) (zs : List Value) : Obj := .cells (o.map (vu kd) ++ zs).toArray T (0, 0)
end Go.Vc
namespace Go.Dig
end Go.Dig
namespace Go.Proofs.YtchcjbbnkcodjaaGreatDoor
open Go Go.Vc Go.Dig

end Go.Proofs.YtchcjbbnkcodjaaGreatDoor

/- Contracts of the reference's functions on natural numbers (digits to the base 65536), sixth part: long division, the greatest common divisor. -/
namespace Go.Vc
open Go
end Go.Vc
namespace Go.Dig
end Go.Dig
namespace Go.Proofs.YtchcjbbnkcodjaaGreatDoor
open Go Go.Vc Go.Dig
end Go.Proofs.YtchcjbbnkcodjaaGreatDoor

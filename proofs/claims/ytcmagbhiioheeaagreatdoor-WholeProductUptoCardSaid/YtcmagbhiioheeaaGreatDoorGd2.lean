/- An own logic over the kit's weakest preconditions, part Wm: maps of rows that go on growing. Conditions: none. -/
import Derived.Test.YtcmagbhiioheeaaGreatDoorGd0
namespace Go.Gg
section
variable {α:Type}
variable {T:List (Int×List α)} {i:Int} {l:List α}
end
section
variable {α:Type} {S S0:St} {rf rg kk:Nat} {enc:α->AV} {gs:Nat->Nat} {T:List (Int×List α)} {L:cq} {i:Int}
end
section
variable {α:Type} {P:Program} {n:Nat} {rg rf kk:Nat} {enc:α->AV} {gs:Nat->Nat} {T:List (Int×List α)} {t:Env} {S0:St} {L:cq} {x y a:Operand} {i:Int} {d:Option Nat} {Ty e kt et:TypeId} {sh:KShape}
end
end Go.Gg

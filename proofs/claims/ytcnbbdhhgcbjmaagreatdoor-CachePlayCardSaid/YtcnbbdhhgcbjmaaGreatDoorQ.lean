/- The heap tells its spans in a row: a range over a map, and the sort of the row. No further condition. -/
import Derived.Test.YtcnbbdhhgcbjmaaGreatDoorA
import Derived.Test.YtcnbbdhhgcbjmaaGreatDoorF
import Derived.Test.YtcnbbdhhgcbjmaaGreatDoorH
set_option linter.all false
set_option maxRecDepth 50000
set_option maxHeartbeats 4000000
namespace Go.Sh
def SP(E:Env)(s:Ac)(Z:List Pr)(l0:List Int)(w:World):Prop:= ∃l:List Int,l.Perm l0/\Sat (Row E.Ep 1 s (ints .i64 l)::Z) w
def CmpOk(E:Env)(cmp:Value)(s:Ac)(Z:List Pr)(l0:List Int):Prop:= ∀x y w (R:Value->World->Prop),x∈l0->y∈l0->SP E s Z l0 w->(∀r w',SP E s Z l0 w'->R (.int .i64 r) w')->DYN E.call cmp #[.int .i64 x,.int .i64 y] w R
section
variable{E:Env}{cmp:Value}{s:Ac}{Z:List Pr}{l0:List Int}{w:World}
variable(hC:CmpOk E cmp s Z l0)(hsm:s.len<1099511627776)
include hC hsm
end
section
variable{E:Env}{w:World}
end
section
variable{E:Env}{cmp:Value}{s:Ac}{Z:List Pr}{l0:List Int}{w:World}
end
section
variable{E:Env}{w:World}{Z:List Pr}
end
end Go.Sh

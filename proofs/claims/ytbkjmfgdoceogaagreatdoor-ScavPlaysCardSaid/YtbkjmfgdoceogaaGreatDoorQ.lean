/- The heap tells its spans in a row: a range over a map, and the sort of the row. No further condition. -/
import Derived.Test.YtbkjmfgdoceogaaGreatDoorB
import Derived.Test.YtbkjmfgdoceogaaGreatDoorV
set_option linter.all false
namespace Go.Sh
open Go.Proofs
theorem rZ:EnvS env where
 sL:=by
  intro i d j K w h;refine⟨(VA #[.int .i64 i,.pointer d,.pointer j] w (fun v w'=> ∃b,v= .bool b/\K b w') Ns ?_).1,(VA #[.int .i64 i,.pointer d,.pointer j] w (fun v w'=> ∃b,v= .bool b/\K b w') Ns ?_).2⟩<;>
  exact(show F.C8 env i d j (fun b w'=> ∃C,Value.bool b= .bool C/\K C w') w from Xr (fun b w' h=>⟨b,rfl,h⟩) h)
 mono:=R0
theorem sA:K7 env where
 toEnvS:=rZ
 aC:=by
  intro x y d j R w h;refine⟨(Xq #[.int .u64 x,.int .u64 y,.pointer d,.pointer j] w R Ns ?_).1,(Xq #[.int .u64 x,.int .u64 y,.pointer d,.pointer j] w R Ns ?_).2⟩<;>
  exact h
end Go.Sh

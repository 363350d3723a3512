/- Each shallow form is what the code of its function comes to, piece 4. No further condition. -/
import Derived.Test.YtjibkpcalinfhaaGreatDoorV
import Derived.Test.YtjibkpcalinfhaaGreatDoorProg
import Derived.KernelRfl
import Derived.Test.YtjibkpcalinfhaaGreatDoorS
import Derived.Test.YtjibkpcalinfhaaGreatDoorA
import Derived.Calls
set_option linter.all false
set_option maxRecDepth 100000
set_option maxHeartbeats 4000000
namespace Go.Sh
open Go.Proofs Go.Proofs.Tryz
noncomputable section
def tJ:Slot:=⟨133,_,λc=>TP (g49 c),F.DX env,pK⟩
def s94:=mk 94 g50 (F.EH env) [s132,tJ,s134] (T0.EH env) func94 call94
def wU:=mk 53 rW (F.CG env) [Mr,xR,s94] (T0.CG env) func53 call53
def kT:GL 53 (rW (F.CG env)):=wU.ok
def tU:=GV 126 g7 (F.JV env) func126 call126
def g97(c:Y8):Sem [.one (.int .u64),.one (.int .u64)]:=λx K Kp w=>c x.1 x.2.1 (λr1 w'=>K (.int .i64 r1) w') w
def s89:=mk 89 g97 (F.DI env) [tU] (T0.DI env) func89 call89
def g98(c:Y79):Sem [.one (.int .i64),.one (.int .i64),.one (.ptr)]:=λx K Kp w=>c x.1 x.2.1 x.2.2.1 (λr1 w'=>K (.int .i64 r1) w') w
def s88:=mk 88 g98 (F.C4 env) [ZH,s89] (T0.C4 env) func88 call88
def kU:GL 88 (g98 (F.C4 env)):=s88.ok
def g99(c:Y80):Sem [.one (.int .i64),.one (.ptr),.one (.ptr)]:=λx K Kp w=>c x.1 x.2.1 x.2.2.1 (λr1 w'=>K (.bool r1) w') w
def tL:=GV 147 g99 (F.HQ env) func147 call147
def cU:GL 147 (g99 (F.HQ env)):=tL.ok
def g100(c:iJ):Sem [.one (.ptr),.one (.int .u64)]:=λx K Kp w=>c x.1 x.2.1 (λr1 w'=>K (.pointer r1) w') w
def tM:=mk 155 g100 (F.E9 env) [oL,XV] (T0.E9 env) func155 call155 ⟨[(7,[(25,.one (.int .i64))])],[]⟩
def zM(c:Y81):Sem [.one (.int .u64),.one (.int .u64),.one (.ptr),.one (.ptr)]:=λx K Kp w=>c x.1 x.2.1 x.2.2.1 x.2.2.2.1 (λw'=>K (.tuple ⟨[]⟩) w') w
def uB:=mk 154 zM (F.Dz env) [tM] (T0.Dz env) func154 call154 ⟨[(1,[(6,.one (.int .u64))])],[]⟩
def cV:GL 154 (zM (F.Dz env)):=uB.ok
def s215:=GV 215 g99 (F.EI env) func215 call215
def cW:GL 215 (g99 (F.EI env)):=s215.ok
end
end Go.Sh
namespace Go.Sh
def kV{E:Env}{i:Int}{j v:Option Addr}{w:World}{K d:Bool->World->Prop}(hk: ∀b w',K b w'->d b w')(h:F.EI E i j v K w):F.EI E i j v d w:=by
 unfold F.EI at h⊢;obtain⟨q1,rfl,x2,h2,h⟩:=Ic h;obtain⟨Y,rfl,x4,y,h⟩:=Ic h;obtain⟨q5,C,T,x6,J,h⟩:=Ic h;obtain⟨q7,rfl,x8,O,h⟩:=Ic h;refine⟨some Y,h2,x4,y,?_⟩;rw[C];exact⟨T,x6,J,x8,O,hk _ _ h⟩
def Xb{P:Program}(g:FuncId)(args:Array Value)(w:World)(K d:Value->World->Prop)(hk: ∀v w',K v w'->d v w')(h:ground P g args w K Kk):ground P g args w d Kk:=
 ⟨h.1,h.2.mono λe w' hE=>let⟨v,hv,h⟩:=hE.val; .inl ⟨v,hv,hk v w' h⟩⟩
end Go.Sh

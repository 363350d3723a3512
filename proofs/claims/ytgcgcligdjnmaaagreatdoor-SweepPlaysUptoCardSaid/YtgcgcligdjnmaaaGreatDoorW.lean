/- Each shallow form is what the code of its function comes to, piece 4. No further condition. -/
import Derived.Test.YtgcgcligdjnmaaaGreatDoorV
import Derived.Test.YtgcgcligdjnmaaaGreatDoorProg
import Derived.KernelRfl
import Derived.Test.YtgcgcligdjnmaaaGreatDoorS
import Derived.Test.YtgcgcligdjnmaaaGreatDoorA
import Derived.Calls
set_option linter.all false
set_option maxRecDepth 100000
set_option maxHeartbeats 4000000
namespace Go.Sh
open Go.Proofs Go.Proofs.Tryz
noncomputable section
def EB:=mk 10 z8 (F.Cj env) [sE,rE,s45,Sz,s47,sG,aH,s49,z3,P5,Q4,Sb,zH,aF] (T0.Cj env) func10 call10 ⟨[(9,[(10,.one (.int .i64))]),(15,[(11,.one (.int .i64))])],[(4,[(114,.one (.bool))]),(19,[(219,.one (.bool))])]⟩
def g101(c:Y79):Sem []:=λx K Kp w=>c (λr1 w'=>K (.bool r1) w') w
def s11:=mk 11 g101 (F.Dx env) [s5,sE,s21,Q4,Q5,Sb,NK,rD,PW,s35,aG,P5] (T0.Dx env) func11 call11 ⟨[],[(7,[(41,.one (.bool))]),(11,[(62,.one (.bool))])]⟩
def vM:Gs 3 (g0 (F.Ba env)):=Xn 3 g0 (F.Ba env) [s4,s5,s8,s7,s6,s9,EB,s11] (T0.Ba env) func3 call3 ⟨[(8,[(6,.one (.int .i64))])],[(11,[(45,.one (.bool))])]⟩
def s3:Slot:=⟨3,_,λc=>Oi (g0 c),F.Ba env,vM.any⟩
def s149:=Gz 149 g10 (F.Jm env) func149 call149
def g102(c:Vk):Sem [.one (.int .u64),.one (.int .u64)]:=λx K Kp w=>c x.1 x.2.1 (λr1 w'=>K (.int .i64 r1) w') w
def Ky:=mk 103 g102 (F.DK env) [s149] (T0.DK env) func103 call103
def g103(c:Y80):Sem [.one (.int .i64),.one (.int .i64),.one (.ptr)]:=λx K Kp w=>c x.1 x.2.1 x.2.2.1 (λr1 w'=>K (.int .i64 r1) w') w
def fV:Gs 102 (g103 (F.C8 env)):=Xn 102 g103 (F.C8 env) [Sb,Ky] (T0.C8 env) func102 call102
def g104(c:lN):Sem [.one (.ptr),.one (.int .u64)]:=λx K Kp w=>c x.1 x.2.1 (λr1 w'=>K (.pointer r1) w') w
def s180:=mk 180 g104 (F.FL env) [s199,s178] (T0.FL env) func180 call180 ⟨[(7,[(25,.one (.int .i64))])],[]⟩
def g105(c:Y81):Sem [.one (.int .u64),.one (.int .u64),.one (.ptr),.one (.ptr)]:=λx K Kp w=>c x.1 x.2.1 x.2.2.1 x.2.2.2.1 (λw'=>K (.tuple ⟨[]⟩) w') w
def fW:Gs 179 (g105 (F.EE env)):=Xn 179 g105 (F.EE env) [s180] (T0.EE env) func179 call179 ⟨[(1,[(6,.one (.int .u64))])],[]⟩
def tH(c:Y82):Sem [.one (.int .i64),.one (.ptr),.one (.ptr)]:=λx K Kp w=>c x.1 x.2.1 x.2.2.1 (λr1 w'=>K (.bool r1) w') w
def fX:Gs 198 (tH (F.Hy env)):=YQ 198 tH (F.Hy env) func198 call198
def fY:Gs 237 (tH (F.EP env)):=YQ 237 tH (F.EP env) func237 call237
end
end Go.Sh
namespace Go.Sh
def n9{E:Env}{i:Int}{j v:Option Addr}{w:World}{K d:Bool->World->Prop}(hk: ∀b w',K b w'->d b w')(h:F.EP E i j v K w):F.EP E i j v d w:=by
 unfold F.EP at h⊢;obtain⟨q1,rfl,x2,h2,h⟩:=Iy h;obtain⟨q3,rfl,x4,y,h⟩:=Iy h;obtain⟨q5,J,Y,x6,O,h⟩:=Iy h;obtain⟨q7,rfl,x8,T,h⟩:=Iy h;refine⟨some q3,h2,x4,y,?_⟩;rw[J];exact⟨Y,x6,O,x8,T,hk _ _ h⟩
def YR{P:Program}(g:FuncId)(args:Array Value)(w:World)(K d:Value->World->Prop)(hk: ∀v w',K v w'->d v w')(h:ground P g args w K NI):ground P g args w d NI:=
 ⟨h.1,h.2.mono λe w' hE=>let⟨v,hv,h⟩:=hE.val; .inl ⟨v,hv,hk v w' h⟩⟩
end Go.Sh

/- Each shallow form is what the code of its function comes to, piece 3. No further condition. -/
import Derived.Test.YtbkjmfgdoceogaaGreatDoorU
import Derived.Test.YtbkjmfgdoceogaaGreatDoorProg
import Derived.KernelRfl
import Derived.Test.YtbkjmfgdoceogaaGreatDoorS
import Derived.Test.YtbkjmfgdoceogaaGreatDoorA
import Derived.Calls
set_option linter.all false
set_option maxRecDepth 100000
set_option maxHeartbeats 4000000
namespace Go.Sh
open Go.Proofs
def G3(c:sJ):Sem [.agg [.sl,.sl,.sl],.one (.int .u64),.one (.sl)]:=fun x K Kp w=>c x.1.1 x.1.2.1 x.1.2.2.1 x.2.1 x.2.2.1 (fun d w'=>K (.bool d) w') w
def rS:Ed:={loops:=[(5,[(7,.one (.int .u64)),(8,.one (.int .i64))]),(19,[(12,.one (.int .i64))])],Aw:=[(2,[(45,.one (.bool))]),(27,[(123,.one (.bool))]),(39,[]),(42,[(221,.one (.bool))])]}
theorem Z3(c0:Y1)(c1:Y1)(c2:Y5)(c3:ZG)(c4:Yu)(c5:Yu)(c6:El)(c7:El)(c8:El)(c9:GD)(O:El)(T:El)(K:PY)(j:PY)(d:Hg)(J:El)(v:Y5)(Y:El)(C:El)(N:mS):G3 (T0.BO env c0 c1 c2 c3 c4 c5 c6 c7 c8 c9 O T K j d J v Y C N)=Ad [(4,A2 (G4 c0)),(6,A2 (G6 c1)),(5,A2 (G5 c2)),(7,A2 (G7 c3)),(8,A2 (G8 c4)),(9,A2 (G9 c5)),(10,A2 (nD c6)),(11,A2 (qQ c7)),(12,A2 (nF c8)),(13,A2 (rM c9)),(14,A2 (nI O)),(15,A2 (rN T)),(16,A2 (kV K)),(17,A2 (lB j)),(18,A2 (kY d)),(19,A2 (nG J)),(20,A2 (rO v)),(21,A2 (rP Y)),(22,A2 (rQ C)),(23,A2 (rR N))] rS Tryz.f3:=by kernel_rfl
theorem lK:AP 3 (G3 (F.BO env)):=AJ (AB bB (AB jQ (AB jS (AB bC (AB bD (AB kO (AB Xj (AB fJ (AB Xm (AB gK (AB Xp (AB gL (AB Th (AB Tj (AB Ti (AB Xn (AB gM (AB gN (AB gO (AB gP AF)))))))))))))))))))) Tryz.func3 Tryz.call3 (Z3 _ _ _ _ _ _ _ _ _ _ _ _ _ _ _ _ _ _ _ _)
def gQ(c:El):Sem [.one (.ptr),.one (.int .u64)]:=fun x K Kp w=>c x.1 x.2.1 (fun d w'=>K (.int .i64 d) w') w
def gR:Ed:={loops:=[(2,[(12,.one (.int .i64))])],Aw:=[(5,[(25,.one (.bool))])]}
theorem rT:gQ (F.Ev env)=Ad [] gR Tryz.f127:=by kernel_rfl
theorem Zy:AP 127 (gQ (F.Ev env)):=AJ AF Tryz.func127 Tryz.call127 (rT)
def rU(c:ZG):Sem [.one (.ptr),.one (.int .u64)]:=fun x K Kp w=>c x.1 x.2.1 (fun d w'=>K (.pointer d) w') w
def lL:Ed:={loops:=[(7,[(25,.one (.int .i64))])],Aw:=[]}
theorem wI(c0:El)(c1:IH):rU (T0.Dk env c0 c1)=Ad [(127,A2 (gQ c0)),(77,A2 (mY c1))] lL Tryz.f79:=by kernel_rfl
theorem gS:AP 79 (rU (F.Dk env)):=AJ (AB Zy (AB Xb AF)) Tryz.func79 Tryz.call79 (wI _ _)
def sT(c:sK):Sem [.one (.int .u64),.one (.int .u64),.one (.ptr),.one (.ptr)]:=fun x K Kp w=>c x.1 x.2.1 x.2.2.1 x.2.2.2.1 (fun w'=>K (.tuple ⟨[]⟩) w') w
def lM:Ed:={loops:=[(1,[(6,.one (.int .u64))])],Aw:=[]}
theorem wJ(c0:ZG):sT (T0.DS env c0)=Ad [(79,A2 (rU c0))] lM Tryz.f78:=by kernel_rfl
theorem Xq:AP 78 (sT (F.DS env)):=AJ (AB gS AF) Tryz.func78 Tryz.call78 (wJ _)
def lN(c:tG):Sem [.one (.int .i64),.one (.ptr),.one (.ptr)]:=fun x K Kp w=>c x.1 x.2.1 x.2.2.1 (fun d w'=>K (.bool d) w') w
theorem rV:lN (F.C8 env)=Ad [] CX Tryz.f145:=by kernel_rfl
theorem VA:AP 145 (lN (F.C8 env)):=AJ AF Tryz.func145 Tryz.call145 (rV)
end Go.Sh
set_option linter.all false
namespace Go.Sh
theorem Xr{E:Env}{i:Int}{j v:Option Addr}{w:World}{K d:Bool->World->Prop}(hk: ∀b w',K b w'->d b w')(h:F.C8 E i j v K w):F.C8 E i j v d w:=by
 unfold F.C8 at h⊢;obtain⟨q1,rfl,x2,T,h⟩:=Fq h;obtain⟨q3,rfl,x4,h4,h⟩:=Fq h;obtain⟨q5,C,hi,N,Y,h⟩:=Fq h;obtain⟨q7,rfl,O,J,h⟩:=Fq h;refine⟨some q3,T,x4,h4,?_⟩;rw[C];exact⟨hi,N,Y,O,J,hk _ _ h⟩
theorem R0{P:Program}(g:FuncId)(args:Array Value)(w:World)(K d:Value->World->Prop)(j: ∀v w',K v w'->d v w')(h:ground P g args w K Ns):ground P g args w d Ns:=
 ⟨h.1,h.2.mono fun e w' hE=>let⟨v,hv,h⟩:=hE.val; .inl ⟨v,hv,j v w' h⟩⟩
end Go.Sh

/- Each shallow form is what the code of its function comes to, piece 4. No further condition. -/
import Derived.Test.YtcnbbdhhgcbjmaaGreatDoorV
import Derived.Test.YtcnbbdhhgcbjmaaGreatDoorProg
import Derived.KernelRfl
import Derived.Test.YtcnbbdhhgcbjmaaGreatDoorS
import Derived.Test.YtcnbbdhhgcbjmaaGreatDoorA
import Derived.Calls
set_option linter.all false
set_option maxRecDepth 100000
set_option maxHeartbeats 4000000
namespace Go.Sh
open Go.Proofs Go.Proofs.Tryz
noncomputable section
def s237:=HT 237 g51 (F.E0 env) func237 call237
def s241:=mk 241 g40 (F.En env) [eJ] (T0.En env) func241 call241
def s242:=mk 242 g56 (F.EN env) [s243,s241] (T0.EN env) func242 call242 ⟨[(5,[(8,.one (.int .u64)),(24,.one (.int .i64))])],[(9,[]),(11,[(8,.one (.int .u64))])]⟩
def s227:=mk 227 g52 (F.Ef env) [s235,s237,s241,s242,pP] (T0.Ef env) func227 call227 ⟨[(9,[(10,.one (.int .u64)),(11,.one (.bool)),(52,.one (.int .i64))])],[(2,[(24,.one (.bool))]),(8,[(11,.one (.bool))])]⟩
def s228:=mk 228 xY (F.Dv env) [eJ,pP,lI] (T0.Dv env) func228 call228 ⟨[],[(2,[(24,.one (.bool))])]⟩
def s229:=mk 229 z7 (F.Fl env) [pP] (T0.Fl env) func229 call229
noncomputable def C207:Entry:=Sn (u9 (F.DL env))
def vD:Ir 207 (u9 (F.DL env)):=Xy 207 u9 (F.DL env) [s227,s228,s229] (T0.DL env) func207 call207
def s234:=HT 234 g47 (F.Na env) func234 call234
def s236:=mk 236 g74 (F.B5 env) [vA] (T0.B5 env) func236 call236 ⟨[(3,[(7,.one (.sl)),(8,.one (.int .i64))])],[]⟩
noncomputable def C211:Entry:=Sn (xY (F.Cv env))
def vE:Ir 211 (xY (F.Cv env)):=Xy 211 xY (F.Cv env) [s234,eJ,s235,s236,s237,z8,pP] (T0.Cv env) func211 call211 ⟨[(12,[(56,.one (.int .i64))]),(15,[(12,.one (.int .u64))])],[(22,[])]⟩
def s232:=mk 232 g74 (F.Ga env) [s236] (T0.Ga env) func232 call232
def s233:=mk 233 xY (F.Dw env) [s172] (T0.Dw env) func233 call233
noncomputable def C210:Entry:=Sn (z7 (F.DM env))
def vF:Ir 210 (z7 (F.DM env)):=Xy 210 z7 (F.DM env) [s232,s233,uP] (T0.DM env) func210 call210 ⟨[(2,[(6,.one (.int .u64)),(20,.one (.int .i64))])],[]⟩
noncomputable def X0:Code:=(Tryz.f209.body).getD .skip
def eN:Tj:={loops:=[],UK:=[]}
def vG(j: ∀(a0:(Option Addr)) (a1:Int) (a2:Int) (K:World->Prop) (w:World),Prop)(x:KJ [.one (.ptr),.one (.ptr),.one (.ptr),.one (.ptr)])(K Kp:Value->World->Prop)(w:World):T0.BF env j x.1 x.2.1 x.2.2.1 x.2.2.2.1 (λw'=>K (.tuple ⟨[]⟩) w') w=
 ev Tryz.prog (tabC [(210,λargs w K Kp=>unArgs [.one (.ptr),.one (.int .u64),.one (.int .u64)] args.toList λx=>j x.1 x.2.1 x.2.2.1 (λw'=>K (.tuple ⟨[]⟩) w') w)]) (ground Tryz.prog) eN X0 (finQ Tryz.prog Tryz.f209 K Kp) (JC (mkArgs [.one (.ptr),.one (.ptr),.one (.ptr),.one (.ptr)] x)) w:=by kernel_rfl
def AA3(x:KJ [.one (.ptr),.one (.ptr),.one (.ptr),.one (.ptr)])(K Kp:Value->World->Prop)(w:World):F.BF env x.1 x.2.1 x.2.2.1 x.2.2.2.1 (λw'=>K (.tuple ⟨[]⟩) w') w=
 ev Tryz.prog (tabC [(210,C210)]) (ground Tryz.prog) eN X0 (finQ Tryz.prog Tryz.f209 K Kp) (JC (mkArgs [.one (.ptr),.one (.ptr),.one (.ptr),.one (.ptr)] x)) w:=vG (F.DM env) x K Kp w
noncomputable def vH:NO:=λargs j w K=>unArgs [.one (.ptr),.one (.ptr),.one (.ptr),.one (.ptr)] args.toList λx=>F.BF env x.1 x.2.1 x.2.2.1 x.2.2.2.1 (λw'=>K false w') w
def pU:JL Tryz.prog 209 vH:=
 ZW (T:=[(210,C210)]) (A:=eN) (fn:=Tryz.f209) (c:=X0) (l:=[.one (.ptr),.one (.ptr),.one (.ptr),.one (.ptr)]) (F:=λ(x:KJ [.one (.ptr),.one (.ptr),.one (.ptr),.one (.ptr)]) K w=>F.BF env x.1 x.2.1 x.2.2.1 x.2.2.2.1 K w) (HD vF OV) mixed Tryz.func209 Tryz.call209 (by kernel_rfl) (by kernel_rfl) (by kernel_rfl) (λx K w=>AA3 x (λ_ w'=>K w') Lp w)
noncomputable def C186:Entry:=λargs w K Kp=>unArgs [.one (.ptr),.one (.int .i64),.one (.int .u64)] args.toList λx=>F.Dx env x.1 x.2.1 x.2.2.1 (λj r2 w'=>K (.tuple ⟨[.int .u64 j,.int .i64 r2]⟩) w') w
noncomputable def X1:Code:=(Tryz.f186.body).getD .skip
def eO:Tj:={loops:=[],UK:=[(7,[(6,.one (.int .u64))])]}
def vI(J: ∀(a0:(Option Addr)) (a1:Int) (a2:Int) (K:Int->Bool->World->Prop) (w:World),Prop)(v: ∀(a0:(Option Addr)) (a1:Int) (K:Int->World->Prop) (w:World),Prop)(j: ∀(a0:(Option Addr)) (a1:Int) (K:Int->Int->Int->World->Prop) (w:World),Prop)(y: ∀(a0:(Option Addr)) (a1:Int) (a2:Int) (K:Int->World->Prop) (w:World),Prop)(x:KJ [.one (.ptr),.one (.int .i64),.one (.int .u64)])(K:Value->World->Prop)(w:World):T0.Dx env J v j y x.1 x.2.1 x.2.2.1 (λO r2 w'=>K (.tuple ⟨[.int .u64 O,.int .i64 r2]⟩) w') w=
 evD Tryz.prog (tabC [(206,λargs w K Kp=>unArgs [.one (.ptr),.one (.int .i64),.one (.int .u64)] args.toList λx=>J x.1 x.2.1 x.2.2.1 (λO r2 w'=>K (.tuple ⟨[.int .u64 O,.bool r2]⟩) w') w),(207,λargs w K Kp=>unArgs [.one (.ptr),.one (.int .u64)] args.toList λx=>v x.1 x.2.1 (λO w'=>K (.int .i64 O) w') w),(208,λargs w K Kp=>unArgs [.one (.ptr),.one (.int .u64)] args.toList λx=>j x.1 x.2.1 (λO r2 T w'=>K (.tuple ⟨[.int .u64 O,.int .u64 r2,.int .i64 T]⟩) w') w),(211,λargs w K Kp=>unArgs [.one (.ptr),.one (.int .u64),.one (.int .u64)] args.toList λx=>y x.1 x.2.1 x.2.2.1 (λO w'=>K (.int .i64 O) w') w)]) (ground Tryz.prog) eO (finQ Tryz.prog Tryz.f186 K Lp) (finD Tryz.prog Tryz.f186 (tabD [(209,vH)]) K Lp) X1 (JC (mkArgs [.one (.ptr),.one (.int .i64),.one (.int .u64)] x)) w:=by kernel_rfl
def AA4(x:KJ [.one (.ptr),.one (.int .i64),.one (.int .u64)])(K:Value->World->Prop)(w:World):F.Dx env x.1 x.2.1 x.2.2.1 (λj r2 w'=>K (.tuple ⟨[.int .u64 j,.int .i64 r2]⟩) w') w=
 evD Tryz.prog (tabC [(206,C206),(207,C207),(208,C208),(211,C211)]) (ground Tryz.prog) eO (finQ Tryz.prog Tryz.f186 K Lp) (finD Tryz.prog Tryz.f186 (tabD [(209,vH)]) K Lp) X1 (JC (mkArgs [.one (.ptr),.one (.int .i64),.one (.int .u64)] x)) w:=vI (F.Dr env) (F.DL env) (F.A8 env) (F.Cv env) x K w
def vJ:MK Tryz.prog 186 C186:=
 Qf (T:=[(206,C206),(207,C207),(208,C208),(211,C211)]) (TD:=[(209,vH)]) (A:=eO) (fn:=Tryz.f186) (c:=X1) (HD vC (HD vD (HD iZ (HD vE OV)))) (UP pU Wh) mixed Tryz.func186 Tryz.call186 (by kernel_rfl) (by kernel_rfl) (by kernel_rfl) AA4
def s212:=HT 212 pK (F.Lj env) func212 call212 ⟨[],[(6,[(3,.one (.ptr))])]⟩
def s187:=mk 187 g53 (F.FB env) [s212,s68,uJ] (T0.FB env) func187 call187
def s186:Slot:=⟨186,_,λc=>Sn (g61 c),F.Dx env,vJ.any⟩
def zI:=mk 153 g62 (F.Eg env) [s185,s186,s187] (T0.Eg env) func153 call153
def jA:Ir 101 (tN (F.CB env)):=Xy 101 tN (F.CB env) [dH,lH,zI] (T0.CB env) func101 call101
def vK(c:Y79):Sem [.one (.int .i64),.one (.ptr),.one (.ptr)]:=λx K Kp w=>c x.1 x.2.1 x.2.2.1 (λj w'=>K (.bool j) w') w
def jB:Ir 163 (vK (F.IX env)):=zY 163 vK (F.IX env) func163 call163
def g102(c:Y7):Sem [.one (.ptr),.one (.int .u64)]:=λx K Kp w=>c x.1 x.2.1 (λj w'=>K (.pointer j) w') w
def s171:=mk 171 g102 (F.Fm env) [s199,uO] (T0.Fm env) func171 call171 ⟨[(7,[(25,.one (.int .i64))])],[]⟩
def g103(c:Y80):Sem [.one (.int .u64),.one (.int .u64),.one (.ptr),.one (.ptr)]:=λx K Kp w=>c x.1 x.2.1 x.2.2.1 x.2.2.2.1 (λw'=>K (.tuple ⟨[]⟩) w') w
def jC:Ir 170 (g103 (F.ET env)):=Xy 170 g103 (F.ET env) [s171] (T0.ET env) func170 call170 ⟨[(1,[(6,.one (.int .u64))])],[]⟩
def jD:Ir 222 (vK (F.Eh env)):=zY 222 vK (F.Eh env) func222 call222
end
end Go.Sh
namespace Go.Sh
def pV{E:Env}{i:Int}{v y:Option Addr}{w:World}{K j:Bool->World->Prop}(hk: ∀b w',K b w'->j b w')(h:F.Eh E i v y K w):F.Eh E i v y j w:=by
 unfold F.Eh at h⊢;obtain⟨q1,rfl,x2,h2,h⟩:=JW h;obtain⟨q3,rfl,x4,J,h⟩:=JW h;obtain⟨q5,O,hi,x6,T,h⟩:=JW h;obtain⟨q7,rfl,x8,Y,h⟩:=JW h;refine⟨some q3,h2,x4,J,?_⟩;rw[O];exact⟨hi,x6,T,x8,Y,hk _ _ h⟩
def Zo{P:Program}(g:FuncId)(args:Array Value)(w:World)(K j:Value->World->Prop)(hk: ∀v w',K v w'->j v w')(h:ground P g args w K Lp):ground P g args w j Lp:=
 ⟨h.1,h.2.mono λe w' hE=>let⟨v,hv,h⟩:=hE.val; .inl ⟨v,hv,hk v w' h⟩⟩
end Go.Sh

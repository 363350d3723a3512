/- Each shallow form is what the code of its function comes to, piece 4. No further condition. -/
import Derived.Test.YtgeilojialbgdaaGreatDoorV
import Derived.Test.YtgeilojialbgdaaGreatDoorProg
import Derived.KernelRfl
import Derived.Test.YtgeilojialbgdaaGreatDoorS
import Derived.Test.YtgeilojialbgdaaGreatDoorA
import Derived.Calls
set_option linter.all false
set_option maxRecDepth 100000
set_option maxHeartbeats 4000000
namespace Go.Sh
open Go.Proofs Go.Proofs.Tryz
noncomputable section
def g134(c:v7):Sem [tp,tl]:=λx K Kp=>c x.1 x.2.1 (λr1=>K (.int .i64 r1))
def s169:=mk 169 g134 (F.DH env) [s173,s185,wG,s186,s227,s228] (T0.DH env) func169 call169 ⟨[(4,[(20,ti)])],[]⟩
noncomputable def C291:Entry:=λargs w K Kp=>unArgs [.one (.z7)] args.toList λx=>F.IT env x.1 (λr1=>K (.int .u64 r1)) w
def xZ:EZ Tryz.prog 291 C291:=
 UH Tryz.func291 (by kernel_rfl) (by kernel_rfl) (by kernel_rfl) (e:=Extern.MathFloatBits.float64bits) (by kernel_rfl) (cU rfl)
def g135(c:lN):Sem [.one (.z7)]:=λx K Kp=>c x.1 (λr1=>K (.int .u64 r1))
def s291:Slot:=⟨291,_,λc=>JJ (g135 c),F.IT env,xZ⟩
def s274:=mk 274 g135 (F.GY env) [s291] (T0.GY env) func274 call274
def s229:=mk 229 g23 (F.Jj env) [s274] (T0.Jj env) func229 call229
def g136(c:SC):Sem [tu,ti]:=λx K Kp=>c x.1 x.2.1 (λr1=>K (.int .u64 r1))
def s172:=mk 172 g136 (F.IG env) [s229,pU,s149] (T0.IG env) func172 call172
def g137(c:wA):Sem [tu,tu,tu]:=λx K Kp=>c x.1 x.2.1 x.2.2.1 (λr1=>K (.int .u64 r1))
def s171:=mk 171 g137 (F.IH env) [s229] (T0.IH env) func171 call171 ⟨[],[(4,[(7,tu)])]⟩
def s170:=IL 170 g96 (F.HD env) func170 call170
def g138(c:wB):Sem [tp,tl]:=λx K Kp=>c x.1 x.2.1 (λr1 a e=>K (.agg ⟨[.int .u64 r1,.int .u64 a,.int .i64 e]⟩))
def s119:=mk 119 g138 (F.Cy env) [s166,s169,JR,s172,s171,s170,s173] (T0.Cy env) func119 call119 ⟨[(2,[(14,ti)])],[]⟩
noncomputable def C118:Entry:=λargs w K Kp=>unArgs [tp,.agg [.int .i64,.int .i64,.int .u64,.int .u64,.int .i64,.int .u64,.bool,.int .i64,.sl,.sl]] args.toList λx=>F.JH env x.1 x.2.1.1 x.2.1.2.1 x.2.1.2.2.1 x.2.1.2.2.2.1 x.2.1.2.2.2.2.1 x.2.1.2.2.2.2.2.1 x.2.1.2.2.2.2.2.2.1 x.2.1.2.2.2.2.2.2.2.1 x.2.1.2.2.2.2.2.2.2.2.1 x.2.1.2.2.2.2.2.2.2.2.2.1 (λr1 a e=>K (.agg ⟨[.int .u64 r1,.int .u64 a,.int .i64 e]⟩)) Kp w
def yA:Dn Tryz.prog 118 C118:=λ_ _ _ _ h=>let⟨_,_,h2⟩:=CE h;(show False from h2).elim
def lR(c:pS):Sem [tp,tp]:=λx K Kp=>c x.1 x.2.1 (λw'=>K (.tuple ⟨[]⟩) w') Kp
def g140(c:Y112):Sem [tp,.agg [.int .i64,.int .i64,.int .u64,.int .u64,.int .i64,.int .u64,.bool,.int .i64,.sl,.sl]]:=λx K Kp=>c x.1 x.2.1.1 x.2.1.2.1 x.2.1.2.2.1 x.2.1.2.2.2.1 x.2.1.2.2.2.2.1 x.2.1.2.2.2.2.2.1 x.2.1.2.2.2.2.2.2.1 x.2.1.2.2.2.2.2.2.2.1 x.2.1.2.2.2.2.2.2.2.2.1 x.2.1.2.2.2.2.2.2.2.2.2.1 (λr1 a e=>K (.agg ⟨[.int .u64 r1,.int .u64 a,.int .i64 e]⟩)) Kp
def s118:Slot:=⟨118,_,λc=>JJ (g140 c),F.JH env,yA.any⟩
def dX:C5 70 (lR (F.GZ env)):=P7 70 lR (F.GZ env) [s84,s117,s86,s118,s41] (T0.GZ env) func70 call70 ⟨[],[(4,[])]⟩
def Yv:Slot:=⟨70,_,λc=>JJ (lR c),F.GZ env,dX.any⟩
def dY:C5 72 (P8 (F.DX env)):=P7 72 P8 (F.DX env) [s83,s86,s109,xH,s41] (T0.DX env) func72 call72 ⟨[],[(2,[(22,tb)]),(5,[])]⟩
def s72:Slot:=⟨72,_,λc=>JJ (P8 c),F.DX env,dY.any⟩
def dZ:C5 73 (lR (F.Ff env)):=P7 73 lR (F.Ff env) [s111,s83] (T0.Ff env) func73 call73
def s73:Slot:=⟨73,_,λc=>JJ (lR c),F.Ff env,dZ.any⟩
def eA:C5 74 (P8 (F.IU env)):=PV 74 P8 (F.IU env) func74 call74
def s74:Slot:=⟨74,_,λc=>JJ (P8 c),F.IU env,eA.any⟩
def eB:C5 75 (P8 (F.IV env)):=PV 75 P8 (F.IV env) func75 call75
def s75:Slot:=⟨75,_,λc=>JJ (P8 c),F.IV env,eB.any⟩
def eC:C5 76 (P8 (F.EG env)):=P7 76 P8 (F.EG env) [s109,xH] (T0.EG env) func76 call76
def s76:Slot:=⟨76,_,λc=>JJ (P8 c),F.EG env,eC.any⟩
def qU:C5 78 (P8 (F.FW env)):=P7 78 P8 (F.FW env) [s86,s119,s41] (T0.FW env) func78 call78
def qV:C5 80 (dL (F.Hh env)):=PV 80 dL (F.Hh env) func80 call80
def g141(c:Y114):Sem [tl]:=λx K Kp=>c x.1 (λr1=>K (r1))
noncomputable def C92:Entry:=JJ (g141 (F.IW env))
def fits92:C5 92 (g141 (F.IW env)):=PV 92 g141 (F.IW env) func92 call92
noncomputable def C91:Entry:=λargs w K Kp=>unArgs [ta,tp] args.toList λx=>F.Cc env x.1 x.2.1 (λw'=>K (.tuple ⟨[]⟩) w') w
noncomputable def eD:Code:=(Tryz.f91.body).getD .skip
def qW:Ni:={loops:=[],L1:=[]}
def tieZ91(a: ∀(a0:AY) (K:Value->World->Prop) (w:World),Prop)(x:Fq [ta,tp])(K Kp:Value->World->Prop)(w:World):T0.Cc env a x.1 x.2.1 (λw'=>K (.tuple ⟨[]⟩) w') w=
 evM Tryz.prog (tabC [(92,λargs w K Kp=>unArgs [tl] args.toList λx=>a x.1 (λr1=>K (r1)) w)]) (ground Tryz.prog) (Gh Tryz.prog) (V4 Tryz.prog) qW eD (finM Tryz.prog Tryz.f91 K Kp) (FA (mkArgs [ta,tp] x)) w:=by kernel_rfl
def tie91(x:Fq [ta,tp])(K Kp:Value->World->Prop)(w:World):F.Cc env x.1 x.2.1 (λw'=>K (.tuple ⟨[]⟩) w') w=
 evM Tryz.prog (tabC [(92,C92)]) (ground Tryz.prog) (Gh Tryz.prog) (V4 Tryz.prog) qW eD (finM Tryz.prog Tryz.f91 K Kp) (FA (mkArgs [ta,tp] x)) w:=tieZ91 (F.IW env) x K Kp w
def fits91:Dn Tryz.prog 91 C91:=
 Qu (T:=[(92,C92)]) (A:=qW) (fn:=Tryz.f91) (c:=eD) (BU fits92 Ho) mixed Tryz.func91 Tryz.call91 (by kernel_rfl) (by kernel_rfl) (by kernel_rfl) tie91
noncomputable def C124:Entry:=λargs w K Kp=>unArgs [ta,tp] args.toList λx=>F.II env x.1 x.2.1 (λw'=>K (.tuple ⟨[]⟩) w') w
noncomputable def jJ:Code:=(Tryz.f124.body).getD .skip
def qX:Ni:={loops:=[(1,[(8,ti)]),(4,[(5,tu)])],L1:=[]}
def tie124(x:Fq [ta,tp])(K Kp:Value->World->Prop)(w:World):F.II env x.1 x.2.1 (λw'=>K (.tuple ⟨[]⟩) w') w=
 evI Tryz.prog (tabC []) (ground Tryz.prog) (Gh Tryz.prog) qX jJ (finQ Tryz.prog Tryz.f124 K Kp) (FA (mkArgs [ta,tp] x)) w:=by kernel_rfl
def yB:Dn Tryz.prog 124 C124:=
 Xi (T:=[]) (A:=qX) (fn:=Tryz.f124) (c:=jJ) Ho mixed Tryz.func124 Tryz.call124 (by kernel_rfl) (by kernel_rfl) (by kernel_rfl) tie124
def eE(c:wC):Sem [ti,tp,tp]:=λx K Kp=>c x.1 x.2.1 x.2.2.1 (λr1=>K (.bool r1))
def Xy:C5 180 (eE (F.Ga env)):=PV 180 eE (F.Ga env) func180 call180
def s180:Slot:=⟨180,_,λc=>JJ (eE c),F.Ga env,Xy.any⟩
def jK:C5 241 (eE (F.Hi env)):=PV 241 eE (F.Hi env) func241 call241
def s266:=mk 266 g10 (F.E5 env) [s275,s264] (T0.E5 env) func266 call266 ⟨[(7,[(25,ti)])],[]⟩
def g143(c:Y117):Sem [tu,tu,tp,tp]:=λx K Kp=>c x.1 x.2.1 x.2.2.1 x.2.2.2.1 (λw'=>K (.tuple ⟨[]⟩) w')
def jL:C5 265 (g143 (F.Dt env)):=P7 265 g143 (F.Dt env) [s266] (T0.Dt env) func265 call265 ⟨[(1,[(6,tu)])],[]⟩
def jM:C5 276 (eE (F.D6 env)):=PV 276 eE (F.D6 env) func276 call276
end
end Go.Sh
namespace Go.Sh
def qY{E:Env}{i:Int}{p1 e:Option Addr}{w:World}{K a:Bool->World->Prop}(T: ∀b w',K b w'->a b w')(h:F.D6 E i p1 e K w):F.D6 E i p1 e a w:=by
 unfold F.D6 at h⊢;obtain⟨q1,rfl,x2,j,h⟩:=G4 h;obtain⟨Y,rfl,x4,u,h⟩:=G4 h;obtain⟨q5,v,hi,x6,J,h⟩:=G4 h;obtain⟨q7,rfl,x8,O,h⟩:=G4 h;refine⟨some Y,j,x4,u,?_⟩;rw[v];exact⟨hi,x6,J,x8,O,T _ _ h⟩
def Zl{P:Program}(g:FuncId)(args:Array Value)(w:World)(K a:Value->World->Prop)(j: ∀v w',K v w'->a v w')(h:ground P g args w K Fi):ground P g args w a Fi:=
 ⟨h.1,h.2.mono λe w' hE=>let⟨v,hv,h⟩:=hE.val; .inl ⟨v,hv,j v w' h⟩⟩
end Go.Sh

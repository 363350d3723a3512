/- Each shallow form is what the code of its function comes to, piece 3. No further condition. -/
import Derived.Test.YtgeilojialbgdaaGreatDoorU
import Derived.Test.YtgeilojialbgdaaGreatDoorProg
import Derived.KernelRfl
set_option linter.all false
set_option maxRecDepth 100000
set_option maxHeartbeats 4000000
namespace Go.Sh
open Go.Proofs Go.Proofs.Tryz
noncomputable section
def s245:=mk 245 g105 (F.CH env) [s278,xI] (T0.CH env) func245 call245 ⟨[(4,[(15,ti)])],[]⟩
def g106(c:Y91):Sem [tp,tp,.agg [.int .u64,.int .i64,.int .i64,.int .i64,.bool,.int .i64,.int .i64,.int .i64,.bool,.bool]]:=λx K Kp=>c x.1 x.2.1 x.2.2.1.1 x.2.2.1.2.1 x.2.2.1.2.2.1 x.2.2.1.2.2.2.1 x.2.2.1.2.2.2.2.1 x.2.2.1.2.2.2.2.2.1 x.2.2.1.2.2.2.2.2.2.1 x.2.2.1.2.2.2.2.2.2.2.1 x.2.2.1.2.2.2.2.2.2.2.2.1 x.2.2.1.2.2.2.2.2.2.2.2.2.1 (λw'=>K (.tuple ⟨[]⟩) w') Kp
noncomputable def C198:Entry:=JJ (g106 (F.A6 env))
def xJ:C5 198 (g106 (F.A6 env)):=P7 198 g106 (F.A6 env) [s242,s243,s27,s244,Rq,s164,s227,s245] (T0.A6 env) func198 call198 ⟨[(5,[(33,ti)])],[]⟩
def g107(c:Y92):Sem [tp]:=λx K Kp=>c x.1 (λr1 a=>K (.tuple ⟨[.slice r1.base r1.len r1.cap,.int .i64 a]⟩))
noncomputable def C199:Entry:=JJ (g107 (F.Ce env))
def xK:C5 199 (g107 (F.Ce env)):=P7 199 g107 (F.Ce env) [s242,s235] (T0.Ce env) func199 call199 ⟨[(7,[(4,tl),(22,ti)]),(13,[(4,tl),(6,tu)])],[(12,[(6,tu)])]⟩
def xL(c:OM):Sem [tp]:=λx K Kp=>c x.1 (λr1=>K (.int .i64 r1))
def s246:=IL 246 xL (F.KM env) func246 call246 ⟨[],[(2,[(16,tb)])]⟩
def dR(c:Qx):Sem [tp,tu,tu]:=λx K Kp=>c x.1 x.2.1 x.2.2.1 (λw'=>K (.tuple ⟨[]⟩) w')
def s264:=IL 264 dR (F.It env) func264 call264 ⟨[(2,[(6,tl),(16,ti)]),(14,[]),(19,[(10,tu)])],[(5,[(29,tb)]),(8,[(6,tl)]),(15,[(81,tb)]),(17,[(91,tb)])]⟩
def g110(c:Y93):Sem [tp,tu,tu,ti]:=λx K Kp=>c x.1 x.2.1 x.2.2.1 x.2.2.2.1 (λr1=>K (.int .i64 r1))
def s208:=mk 208 g110 (F.Dj env) [Zk,s264] (T0.Dj env) func208 call208 ⟨[],[(2,[(20,tb)]),(4,[(28,tb)]),(14,[])]⟩
def g111(c:Y94):Sem [tp,tu,tu,tb,ti]:=λx K Kp=>c x.1 x.2.1 x.2.2.1 x.2.2.2.1 x.2.2.2.2.1 (λr1=>K (.int .i64 r1))
def s285:=mk 285 g111 (F.C3 env) [Zk] (T0.C3 env) func285 call285 ⟨[],[(4,[(11,tu)]),(5,[(14,tb)])]⟩
def qO:=mk 262 dR (F.BW env) [Zk,xC] (T0.BW env) func262 call262 ⟨[(5,[(7,ti),(8,tl)])],[(10,[(8,tl)]),(12,[(7,ti),(8,tl)])]⟩
def dS:=mk 263 dR (F.A3 env) [qO,xC] (T0.A3 env) func263 call263 ⟨[],[(7,[(51,tb)]),(9,[(8,ti)]),(10,[(77,tb)]),(12,[(6,ti)])]⟩
def g112(c:Y95):Sem [tp,tu,tu,tp]:=λx K Kp=>c x.1 x.2.1 x.2.2.1 x.2.2.2.1 (λr1=>K (.int .i64 r1))
def s279:=mk 279 g112 (F.DU env) [s285,dS,wL] (T0.DU env) func279 call279
def s247:=mk 247 xE (F.Cf env) [s279] (T0.Cf env) func247 call247
def s280:=IL 280 g55 (F.NO env) func280 call280
def s248:=mk 248 g92 (F.GP env) [s280] (T0.GP env) func248 call248
noncomputable def C200:Entry:=JJ (g92 (F.Cg env))
def xM:C5 200 (g92 (F.Cg env)):=P7 200 g92 (F.Cg env) [s246,Nl,s208,s247,s248] (T0.Cg env) func200 call200
noncomputable def xN:MT:=λargs pv w K=>unArgs [tp,tp,tp] args.toList λx=>F.CI env x.1 x.2.1 x.2.2.1 (pv.getD .nilIface) (λw'=>K pv.isSome w') w
noncomputable def jG:Code:=(Tryz.f197.body).getD .skip
def qP:Ni:={loops:=[],L1:=[]}
noncomputable def jH:Code:=((recOf jG).map (·.2)).getD .skip
def tie197(x:Fq [tp,tp,tp])(v:Value)(K:World->Prop)(w:World):F.CI env x.1 x.2.1 x.2.2.1 v K w=
 ev Tryz.prog (tabC []) (ground Tryz.prog) qP jH (finQ Tryz.prog Tryz.f197 (λ_ w'=>K w') Fi) ((FA (mkArgs [tp,tp,tp] x)).put 6 v) w:=by kernel_rfl
def qQ:Hp Tryz.prog 197 xN:=
 Wf (T:=[]) (A:=qP) (fn:=Tryz.f197) (c:=jG) (y:=jH) (d:=6) (l:=[tp,tp,tp]) (F:=λ(x:Fq [tp,tp,tp]) v K w=>F.CI env x.1 x.2.1 x.2.2.1 v K w) Ho mixed Tryz.func197 Tryz.call197 (by kernel_rfl) (by kernel_rfl) (by kernel_rfl) (by kernel_rfl) (by kernel_rfl) tie197
noncomputable def C152:Entry:=λargs w K Kp=>unArgs [tp,ti,tb] args.toList λx=>F.CQ env x.1 x.2.1 x.2.2.1 (λr1 a e=>K (.tuple ⟨[.int .i64 r1,.bool a,.int .i64 e]⟩)) w
noncomputable def Xv:Code:=(Tryz.f152.body).getD .skip
def dT:Ni:={loops:=[],L1:=[(13,[(59,tb)]),(16,[])]}
def xO(j: ∀(a0:(Option Addr)) (a1:Int) (K:(Option Addr)->Int->Int->Int->Int->Bool->Int->Int->Int->Bool->Bool->Int->World->Prop) (w:World),Prop)(a: ∀(a0:(Option Addr)) (a1:(Option Addr)) (aI:Int) (aJ:Int) (aK:Int) (aL:Int) (aM:Bool) (aN:Int) (aO:Int) (aP:Int) (aQ:Bool) (aR:Bool) (K:World->Prop) (Kp:Value->World->Prop) (w:World),Prop)(v: ∀(a0:(Option Addr)) (K:AY->Int->World->Prop) (w:World),Prop)(J: ∀(a0:(Option Addr)) (K:Int->Int->Int->Int->Bool->Int->Int->Int->Bool->Bool->World->Prop) (w:World),Prop)(u: ∀(a0:(Option Addr)) (a1:Int) (K:Int->World->Prop) (w:World),Prop)(e: ∀(a0:(Option Addr)) (a1:Int) (a2:Bool) (K:Int->World->Prop) (w:World),Prop)(x:Fq [tp,ti,tb])(K:Value->World->Prop)(w:World):T0.CQ env j a v J u e x.1 x.2.1 x.2.2.1 (λr1 T Y=>K (.tuple ⟨[.int .i64 r1,.bool T,.int .i64 Y]⟩)) w=
 evD Tryz.prog (tabC [(196,λargs w K Kp=>unArgs [tp,ti] args.toList λx=>j x.1 x.2.1 (λr1 T Y r4 r5 r6 r7 r8 r9 O aA aB=>K (.tuple ⟨[.pointer r1,.agg ⟨[.int .u64 T,.int .i64 Y,.int .i64 r4,.int .i64 r5,.bool r6,.int .i64 r7,.int .i64 r8,.int .i64 r9,.bool O,.bool aA]⟩,.int .i64 aB]⟩)) w),(198,λargs w K Kp=>unArgs [tp,tp,.agg [.int .u64,.int .i64,.int .i64,.int .i64,.bool,.int .i64,.int .i64,.int .i64,.bool,.bool]] args.toList λx=>a x.1 x.2.1 x.2.2.1.1 x.2.2.1.2.1 x.2.2.1.2.2.1 x.2.2.1.2.2.2.1 x.2.2.1.2.2.2.2.1 x.2.2.1.2.2.2.2.2.1 x.2.2.1.2.2.2.2.2.2.1 x.2.2.1.2.2.2.2.2.2.2.1 x.2.2.1.2.2.2.2.2.2.2.2.1 x.2.2.1.2.2.2.2.2.2.2.2.2.1 (λw'=>K (.tuple ⟨[]⟩) w') Kp w),(199,λargs w K Kp=>unArgs [tp] args.toList λx=>v x.1 (λr1 T=>K (.tuple ⟨[.slice r1.base r1.len r1.cap,.int .i64 T]⟩)) w),(26,λargs w K Kp=>unArgs [tp] args.toList λx=>J x.1 (λr1 T Y r4 r5 r6 r7 r8 r9 O=>K (.agg ⟨[.int .u64 r1,.int .i64 T,.int .i64 Y,.int .i64 r4,.bool r5,.int .i64 r6,.int .i64 r7,.int .i64 r8,.bool r9,.bool O]⟩)) w),(200,λargs w K Kp=>unArgs [tp,ti] args.toList λx=>u x.1 x.2.1 (λr1=>K (.int .i64 r1)) w),(157,λargs w K Kp=>unArgs [tp,ti,tb] args.toList λx=>e x.1 x.2.1 x.2.2.1 (λr1=>K (.int .i64 r1)) w)]) (ground Tryz.prog) dT (finQ Tryz.prog Tryz.f152 K Fi) (finD Tryz.prog Tryz.f152 (tabD [(197,xN)]) K Fi) Xv (FA (mkArgs [tp,ti,tb] x)) w:=by kernel_rfl
def tie152(x:Fq [tp,ti,tb])(K:Value->World->Prop)(w:World):F.CQ env x.1 x.2.1 x.2.2.1 (λr1 a e=>K (.tuple ⟨[.int .i64 r1,.bool a,.int .i64 e]⟩)) w=
 evD Tryz.prog (tabC [(196,C196),(198,C198),(199,C199),(26,C26),(200,C200),(157,C157)]) (ground Tryz.prog) dT (finQ Tryz.prog Tryz.f152 K Fi) (finD Tryz.prog Tryz.f152 (tabD [(197,xN)]) K Fi) Xv (FA (mkArgs [tp,ti,tb] x)) w:=xO (F.BB env) (F.A6 env) (F.Ce env) (F.Av env) (F.Cg env) (F.BC env) x K w
def xP:Dn Tryz.prog 152 C152:=
 NB (T:=[(196,C196),(198,C198),(199,C199),(26,C26),(200,C200),(157,C157)]) (TD:=[(197,xN)]) (A:=dT) (fn:=Tryz.f152) (c:=Xv) (BU jE (BU xJ (BU xK (BU qL (BU xM (BU jF Ho)))))) (Pw qQ Rx) mixed Tryz.func152 Tryz.call152 (by kernel_rfl) (by kernel_rfl) (by kernel_rfl) tie152
def g113(c:Y97):Sem [tp,tp,tb]:=λx K Kp=>c x.1 x.2.1 x.2.2.1 (λw'=>K (.tuple ⟨[]⟩) w') Kp
def g114(c:Y96):Sem [tp,ti,tb]:=λx K Kp=>c x.1 x.2.1 x.2.2.1 (λr1 a e=>K (.tuple ⟨[.int .i64 r1,.bool a,.int .i64 e]⟩))
def s152:Slot:=⟨152,_,λc=>JJ (g114 c),F.CQ env,xP.any⟩
def s111:=mk 111 g113 (F.GX env) [s152] (T0.GX env) func111 call111
def g115(c:Y98):Sem [tp,ti,tb,tb,tb]:=λx K Kp=>c x.1 x.2.1 x.2.2.1 x.2.2.2.1 x.2.2.2.2.1 (λr1 a=>K (.tuple ⟨[.int .i64 r1,.bool a]⟩))
def wE:=mk 112 g115 (F.E0 env) [s151] (T0.E0 env) func112 call112
def qR:C5 66 (P8 (F.FU env)):=P7 66 P8 (F.FU env) [wE,s113,xH] (T0.FU env) func66 call66 ⟨[(6,[(55,ti)])],[]⟩
def dU:C5 68 (P8 (F.DV env)):=P7 68 P8 (F.DV env) [s86] (T0.DV env) func68 call68 ⟨[],[(3,[(30,tb)])]⟩
def lP:Slot:=⟨68,_,λc=>JJ (P8 c),F.DV env,dU.any⟩
def g116(c:Y99):Sem [tu,tu,ti,tb]:=λx K Kp=>c x.1 x.2.1 x.2.2.1 x.2.2.2.1 (λr1 a=>K (.tuple ⟨[.pointer r1,.int .i64 a]⟩))
def s154:=mk 154 g116 (F.KX env) [s137] (T0.KX env) func154 call154 ⟨[],[(3,[(56,tb)])]⟩
def s225:=IL 225 g71 (F.Q5 env) func225 call225
def g117(c:oD):Sem [tp,tu]:=λx K Kp=>c x.1 x.2.1 (λr1 a=>K (.tuple ⟨[.int .u64 r1,.bool a]⟩))
def s254:=mk 254 g117 (F.Ch env) [s90] (T0.Ch env) func254 call254 ⟨[(4,[(15,ti)])],[]⟩
def g118(c:cF):Sem [tp,tu,tu]:=λx K Kp=>c x.1 x.2.1 x.2.2.1 (λr1 a=>K (.tuple ⟨[.int .u64 r1,.int .i64 a]⟩))
def s255:=mk 255 g118 (F.Ci env) [s285,Zk,qO,wL] (T0.Ci env) func255 call255
def g119(c:dG):Sem [tp,tp]:=λx K Kp=>c x.1 x.2.1 (λr1=>K (.int .i64 r1))
def s249:=mk 249 g119 (F.Df env) [s254,s88,s255] (T0.Df env) func249 call249 ⟨[(8,[(28,tu)])],[]⟩
def g120(c:vX):Sem [tu,ti]:=λx K Kp=>c x.1 x.2.1 (λr1 a=>K (.tuple ⟨[.int .i64 r1,.bool a]⟩))
def s281:=mk 281 g120 (F.G3 env) [s235] (T0.G3 env) func281 call281 ⟨[(2,[(0,tu),(1,ti),(6,ti)])],[]⟩
def s282:=IL 282 g35 (F.F2 env) func282 call282
def g121(c:Xt):Sem [tp,ti]:=λx K Kp=>c x.1 x.2.1 (λr1 a e=>K (.tuple ⟨[.int .u64 r1,.int .i64 a,.int .i64 e]⟩))
def s250:=mk 250 g121 (F.Cb env) [s281,s282] (T0.Cb env) func250 call250 ⟨[],[(2,[(16,tb)])]⟩
def xQ(c:Xt):Sem [tp,tu]:=λx K Kp=>c x.1 x.2.1 (λr1 a e=>K (.tuple ⟨[.int .u64 r1,.int .u64 a,.int .i64 e]⟩))
noncomputable def C203:Entry:=JJ (xQ (F.Az env))
def jI:C5 203 (xQ (F.Az env)):=P7 203 xQ (F.Az env) [s254,s255] (T0.Az env) func203 call203
def s203:Slot:=⟨203,_,λc=>JJ (xQ c),F.Az env,jI.any⟩
def g123(c:Ze):Sem [tp,ti,tu]:=λx K Kp=>c x.1 x.2.1 x.2.2.1 (λr1 a=>K (.tuple ⟨[.int .u64 r1,.bool a]⟩))
noncomputable def C201:Entry:=JJ (g123 (F.DF env))
def xR:C5 201 (g123 (F.DF env)):=P7 201 g123 (F.DF env) [s225,s88,s249,s250,s203] (T0.DF env) func201 call201 ⟨[],[(2,[(20,tb)]),(5,[]),(8,[])]⟩
def g124(c:vY):Sem [tp]:=λx K Kp=>c x.1 (λr1 a=>K (.tuple ⟨[.bool r1,.bool a]⟩))
def s259:=IL 259 g124 (F.HT env) func259 call259
def g125(c:lL):Sem [tp]:=λx K Kp=>c x.1 (λr1 a=>K (.tuple ⟨[.int .u64 r1,.bool a]⟩))
def s261:=IL 261 g125 (F.EL env) func261 call261
def g126(c:Y88):Sem [tp,tu,tu]:=λx K Kp=>c x.1 x.2.1 x.2.2.1 (λr1=>K (.bool r1))
def s283:=mk 283 g126 (F.EF env) [Zk] (T0.EF env) func283 call283
def g127(c:Ze):Sem [tp,tu,tu]:=λx K Kp=>c x.1 x.2.1 x.2.2.1 (λr1 a=>K (.tuple ⟨[.int .u64 r1,.bool a]⟩))
def s284:=mk 284 g127 (F.Dk env) [s90,s283] (T0.Dk env) func284 call284 ⟨[(5,[(8,tu),(24,ti)])],[(9,[]),(11,[(8,tu)])]⟩
def s251:=mk 251 g118 (F.D0 env) [s259,s261,s283,s284,dS] (T0.D0 env) func251 call251 ⟨[(9,[(10,tu),(11,tb),(52,ti)])],[(2,[(24,tb)]),(8,[(11,tb)])]⟩
def s252:=mk 252 xE (F.DL env) [Zk,dS,wL] (T0.DL env) func252 call252 ⟨[],[(2,[(24,tb)])]⟩
def s253:=mk 253 dR (F.E3 env) [dS] (T0.E3 env) func253 call253
noncomputable def C202:Entry:=JJ (g78 (F.Cj env))
def xS:C5 202 (g78 (F.Cj env)):=P7 202 g78 (F.Cj env) [s251,s252,s253] (T0.Cj env) func202 call202
def s258:=IL 258 g84 (F.LZ env) func258 call258
def s260:=mk 260 g102 (F.BX env) [xC] (T0.BX env) func260 call260 ⟨[(3,[(7,tl),(8,ti)])],[]⟩
noncomputable def C206:Entry:=JJ (xE (F.CJ env))
def xT:C5 206 (xE (F.CJ env)):=P7 206 xE (F.CJ env) [s258,Zk,s259,s260,s261,qO,dS] (T0.CJ env) func206 call206 ⟨[(12,[(56,ti)]),(15,[(12,tu)])],[(22,[])]⟩
def s256:=mk 256 g102 (F.Fx env) [s260] (T0.Fx env) func256 call256
def s257:=mk 257 xE (F.DM env) [s279] (T0.DM env) func257 call257
noncomputable def C205:Entry:=JJ (dR (F.Ck env))
def xU:C5 205 (dR (F.Ck env)):=P7 205 dR (F.Ck env) [s256,s257,s247] (T0.Ck env) func205 call205 ⟨[(2,[(6,tu),(20,ti)])],[]⟩
noncomputable def Xw:Code:=(Tryz.f204.body).getD .skip
def dV:Ni:={loops:=[],L1:=[]}
def xV(a: ∀(a0:(Option Addr)) (a1:Int) (a2:Int) (K:World->Prop) (w:World),Prop)(x:Fq [tp,tp,tp,tp])(K Kp:Value->World->Prop)(w:World):T0.A7 env a x.1 x.2.1 x.2.2.1 x.2.2.2.1 (λw'=>K (.tuple ⟨[]⟩) w') w=
 ev Tryz.prog (tabC [(205,λargs w K Kp=>unArgs [tp,tu,tu] args.toList λx=>a x.1 x.2.1 x.2.2.1 (λw'=>K (.tuple ⟨[]⟩) w') w)]) (ground Tryz.prog) dV Xw (finQ Tryz.prog Tryz.f204 K Kp) (FA (mkArgs [tp,tp,tp,tp] x)) w:=by kernel_rfl
def tie204(x:Fq [tp,tp,tp,tp])(K Kp:Value->World->Prop)(w:World):F.A7 env x.1 x.2.1 x.2.2.1 x.2.2.2.1 (λw'=>K (.tuple ⟨[]⟩) w') w=
 ev Tryz.prog (tabC [(205,C205)]) (ground Tryz.prog) dV Xw (finQ Tryz.prog Tryz.f204 K Kp) (FA (mkArgs [tp,tp,tp,tp] x)) w:=xV (F.Ck env) x K Kp w
noncomputable def xW:MT:=λargs pv w K=>unArgs [tp,tp,tp,tp] args.toList λx=>F.A7 env x.1 x.2.1 x.2.2.1 x.2.2.2.1 (λw'=>K false w') w
def qS:Hp Tryz.prog 204 xW:=
 ZQ (T:=[(205,C205)]) (A:=dV) (fn:=Tryz.f204) (c:=Xw) (l:=[tp,tp,tp,tp]) (F:=λ(x:Fq [tp,tp,tp,tp]) K w=>F.A7 env x.1 x.2.1 x.2.2.1 x.2.2.2.1 K w) (BU xU Ho) mixed Tryz.func204 Tryz.call204 (by kernel_rfl) (by kernel_rfl) (by kernel_rfl) (λx K w=>tie204 x (λ_ w'=>K w') Fi w)
noncomputable def C155:Entry:=λargs w K Kp=>unArgs [tp,ti,tu] args.toList λx=>F.DN env x.1 x.2.1 x.2.2.1 (λr1 a=>K (.tuple ⟨[.int .u64 r1,.int .i64 a]⟩)) w
noncomputable def Xx:Code:=(Tryz.f155.body).getD .skip
def dW:Ni:={loops:=[],L1:=[(7,[(6,tu)])]}
def xX(u: ∀(a0:(Option Addr)) (a1:Int) (a2:Int) (K:Int->Bool->World->Prop) (w:World),Prop)(e: ∀(a0:(Option Addr)) (a1:Int) (K:Int->World->Prop) (w:World),Prop)(a: ∀(a0:(Option Addr)) (a1:Int) (K:Int->Int->Int->World->Prop) (w:World),Prop)(j: ∀(a0:(Option Addr)) (a1:Int) (a2:Int) (K:Int->World->Prop) (w:World),Prop)(x:Fq [tp,ti,tu])(K:Value->World->Prop)(w:World):T0.DN env u e a j x.1 x.2.1 x.2.2.1 (λr1 v=>K (.tuple ⟨[.int .u64 r1,.int .i64 v]⟩)) w=
 evD Tryz.prog (tabC [(201,λargs w K Kp=>unArgs [tp,ti,tu] args.toList λx=>u x.1 x.2.1 x.2.2.1 (λr1 v=>K (.tuple ⟨[.int .u64 r1,.bool v]⟩)) w),(202,λargs w K Kp=>unArgs [tp,tu] args.toList λx=>e x.1 x.2.1 (λr1=>K (.int .i64 r1)) w),(203,λargs w K Kp=>unArgs [tp,tu] args.toList λx=>a x.1 x.2.1 (λr1 v J=>K (.tuple ⟨[.int .u64 r1,.int .u64 v,.int .i64 J]⟩)) w),(206,λargs w K Kp=>unArgs [tp,tu,tu] args.toList λx=>j x.1 x.2.1 x.2.2.1 (λr1=>K (.int .i64 r1)) w)]) (ground Tryz.prog) dW (finQ Tryz.prog Tryz.f155 K Fi) (finD Tryz.prog Tryz.f155 (tabD [(204,xW)]) K Fi) Xx (FA (mkArgs [tp,ti,tu] x)) w:=by kernel_rfl
def tie155(x:Fq [tp,ti,tu])(K:Value->World->Prop)(w:World):F.DN env x.1 x.2.1 x.2.2.1 (λr1 a=>K (.tuple ⟨[.int .u64 r1,.int .i64 a]⟩)) w=
 evD Tryz.prog (tabC [(201,C201),(202,C202),(203,C203),(206,C206)]) (ground Tryz.prog) dW (finQ Tryz.prog Tryz.f155 K Fi) (finD Tryz.prog Tryz.f155 (tabD [(204,xW)]) K Fi) Xx (FA (mkArgs [tp,ti,tu] x)) w:=xX (F.DF env) (F.Cj env) (F.Az env) (F.CJ env) x K w
def xY:Dn Tryz.prog 155 C155:=
 NB (T:=[(201,C201),(202,C202),(203,C203),(206,C206)]) (TD:=[(204,xW)]) (A:=dW) (fn:=Tryz.f155) (c:=Xx) (BU xR (BU xS (BU jI (BU xT Ho)))) (Pw qS Rx) mixed Tryz.func155 Tryz.call155 (by kernel_rfl) (by kernel_rfl) (by kernel_rfl) tie155
def s207:=IL 207 xL (F.K2 env) func207 call207 ⟨[],[(6,[(3,tp)])]⟩
def s156:=mk 156 g119 (F.ET env) [s207,Nl,s208] (T0.ET env) func156 call156
def g128(c:vZ):Sem [tp,ti,tu,ti,tb]:=λx K Kp=>c x.1 x.2.1 x.2.2.1 x.2.2.2.1 x.2.2.2.2.1 (λr1 a=>K (.tuple ⟨[.int .i64 r1,.int .i64 a]⟩))
def g129(c:cF):Sem [tp,ti,tu]:=λx K Kp=>c x.1 x.2.1 x.2.2.1 (λr1 a=>K (.tuple ⟨[.int .u64 r1,.int .i64 a]⟩))
def s155:Slot:=⟨155,_,λc=>JJ (g129 c),F.DN env,xY.any⟩
def s115:=mk 115 g128 (F.D5 env) [s154,s155,s156] (T0.D5 env) func115 call115
def g130(c:Kj):Sem [tp,ti]:=λx K Kp=>c x.1 x.2.1 (λr1=>K (.int .u64 r1))
def s116:=mk 116 g130 (F.DG env) [Wp,s142,s157,Nl] (T0.DG env) func116 call116
def qT:C5 69 (P8 (F.FV env)):=P7 69 P8 (F.FV env) [s115,s41,s113,s86,s116,s104] (T0.FV env) func69 call69
def g131(c:Wn):Sem [tp,tu]:=λx K Kp=>c x.1 x.2.1 (λr1 a=>K (.tuple ⟨[.int .u64 r1,.int .u64 a]⟩))
def s210:=mk 210 g131 (F.Bb env) [s90,qO,dS] (T0.Bb env) func210 call210 ⟨[],[(3,[(20,tb)])]⟩
def s211:=mk 211 xE (F.DW env) [s258,Zk,qO,dS,s189,s190] (T0.DW env) func211 call211
def g132(c:Kj):Sem [tp,tu]:=λx K Kp=>c x.1 x.2.1 (λr1=>K (.int .u64 r1))
def s158:=mk 158 g132 (F.Cx env) [s210,s211] (T0.Cx env) func158 call158 ⟨[(2,[(5,tu)])],[]⟩
def s117:=mk 117 g132 (F.EU env) [s123,s158] (T0.EU env) func117 call117
def s166:=mk 166 xL (F.Dg env) [s105] (T0.Dg env) func166 call166 ⟨[(2,[(6,ti)]),(5,[(11,ti)])],[]⟩
def g133(c:pR):Sem [tp,tb]:=λx K Kp=>c x.1 x.2.1 (λr1=>K (.int .i64 r1))
def s173:=IL 173 g133 (F.GG env) func173 call173 ⟨[(3,[(5,ti)])],[(4,[(14,tb)])]⟩
def s228:=mk 228 xL (F.E4 env) [s173] (T0.E4 env) func228 call228 ⟨[(5,[]),(9,[(25,ti)])],[(6,[(18,tb)])]⟩
end
end Go.Sh

/- Each shallow form is what the code of its function comes to, piece 4. No further condition. -/
import Derived.Test.YtnhmgaodhjgdaaaGreatDoorV
import Derived.Test.YtnhmgaodhjgdaaaGreatDoorProg
import Derived.KernelRfl
import Derived.Test.YtnhmgaodhjgdaaaGreatDoorS
import Derived.Test.YtnhmgaodhjgdaaaGreatDoorA
import Derived.Calls
set_option linter.all false
set_option maxRecDepth 100000
set_option maxHeartbeats 4000000
namespace Go.Sh
open Go.Proofs Go.Proofs.Tryz
noncomputable section
noncomputable def C159:Entry:=λargs w K Kp=>unArgs [.one (.ptr),.one (.int .i64),.one (.int .u64)] args.toList λx=>F.DA env x.1 x.2.1 x.2.2.1 (λr1 a w'=>K (.tuple ⟨[.int .u64 r1,.int .i64 a]⟩) w') w
noncomputable def XE:Code:=(Tryz.f159.body).getD .skip
def bK:QI:={loops:=[],MQ:=[(7,[(6,.one (.int .u64))])]}
def u0(m: ∀(a0:(Option Addr)) (a1:Int) (a2:Int) (K:Int->Bool->World->Prop) (w:World),Prop)(d: ∀(a0:(Option Addr)) (a1:Int) (K:Int->World->Prop) (w:World),Prop)(a: ∀(a0:(Option Addr)) (a1:Int) (K:Int->Int->Int->World->Prop) (w:World),Prop)(e: ∀(a0:(Option Addr)) (a1:Int) (a2:Int) (K:Int->World->Prop) (w:World),Prop)(x:Fo [.one (.ptr),.one (.int .i64),.one (.int .u64)])(K:Value->World->Prop)(w:World):T0.DA env m d a e x.1 x.2.1 x.2.2.1 (λr1 u w'=>K (.tuple ⟨[.int .u64 r1,.int .i64 u]⟩) w') w=
 evD Tryz.prog (tabC [(209,λargs w K Kp=>unArgs [.one (.ptr),.one (.int .i64),.one (.int .u64)] args.toList λx=>m x.1 x.2.1 x.2.2.1 (λr1 u w'=>K (.tuple ⟨[.int .u64 r1,.bool u]⟩) w') w),(210,λargs w K Kp=>unArgs [.one (.ptr),.one (.int .u64)] args.toList λx=>d x.1 x.2.1 (λr1 w'=>K (.int .i64 r1) w') w),(211,λargs w K Kp=>unArgs [.one (.ptr),.one (.int .u64)] args.toList λx=>a x.1 x.2.1 (λr1 u v w'=>K (.tuple ⟨[.int .u64 r1,.int .u64 u,.int .i64 v]⟩) w') w),(214,λargs w K Kp=>unArgs [.one (.ptr),.one (.int .u64),.one (.int .u64)] args.toList λx=>e x.1 x.2.1 x.2.2.1 (λr1 w'=>K (.int .i64 r1) w') w)]) (ground Tryz.prog) bK (finQ Tryz.prog Tryz.f159 K EW) (finD Tryz.prog Tryz.f159 (tabD [(212,uZ)]) K EW) XE (FZ (mkArgs [.one (.ptr),.one (.int .i64),.one (.int .u64)] x)) w:=by kernel_rfl
def AAC(x:Fo [.one (.ptr),.one (.int .i64),.one (.int .u64)])(K:Value->World->Prop)(w:World):F.DA env x.1 x.2.1 x.2.2.1 (λr1 a w'=>K (.tuple ⟨[.int .u64 r1,.int .i64 a]⟩) w') w=
 evD Tryz.prog (tabC [(209,C209),(210,C210),(211,C211),(214,C214)]) (ground Tryz.prog) bK (finQ Tryz.prog Tryz.f159 K EW) (finD Tryz.prog Tryz.f159 (tabD [(212,uZ)]) K EW) XE (FZ (mkArgs [.one (.ptr),.one (.int .i64),.one (.int .u64)] x)) w:=u0 (F.Cz env) (F.CZ env) (F.Ay env) (F.CD env) x K w
def u5:HK Tryz.prog 159 C159:=
 JY (T:=[(209,C209),(210,C210),(211,C211),(214,C214)]) (TD:=[(212,uZ)]) (A:=bK) (fn:=Tryz.f159) (c:=XE) (BP uU (BP uV (BP fZ (BP uW IE)))) (LH oR MR) mixed Tryz.func159 Tryz.call159 (by kernel_rfl) (by kernel_rfl) (by kernel_rfl) AAC
def s215:=HY 215 oM (F.Ky env) func215 call215 ⟨[],[(6,[(3,.one (.ptr))])]⟩
def s160:=mk 160 g123 (F.EN env) [s215,O8,s216] (T0.EN env) func160 call160
def g131(c:nK):Sem [.one (.ptr),.one (.int .i64),.one (.int .u64),.one (.int .i64),.one (.bool)]:=λx K Kp w=>c x.1 x.2.1 x.2.2.1 x.2.2.2.1 x.2.2.2.2.1 (λr1 a w'=>K (.tuple ⟨[.int .i64 r1,.int .i64 a]⟩) w') w
def g132(c:aA):Sem [.one (.ptr),.one (.int .i64),.one (.int .u64)]:=λx K Kp w=>c x.1 x.2.1 x.2.2.1 (λr1 a w'=>K (.tuple ⟨[.int .u64 r1,.int .i64 a]⟩) w') w
def s159:Slot:=⟨159,_,λc=>JU (g132 c),F.DA env,u5.any⟩
def s116:=mk 116 g131 (F.DH env) [s158,s159,s160] (T0.DH env) func116 call116
def g133(c:Kh):Sem [.one (.ptr),.one (.int .i64)]:=λx K Kp w=>c x.1 x.2.1 (λr1 w'=>K (.int .u64 r1) w') w
def s117:=mk 117 g133 (F.C2 env) [Oz,s149,s161,O8] (T0.C2 env) func117 call117
def oS:CG 69 (QJ (F.FU env)):=NY 69 QJ (F.FU env) [s116,aB,jQ,s86,s117,s105] (T0.FU env) func69 call69
def s223:=mk 223 oM (F.FH env) [s109,uK,AA8] (T0.FH env) func223 call223 ⟨[(1,[])],[]⟩
def zL:=mk 170 oM (F.DP env) [AA1] (T0.DP env) func170 call170 ⟨[(2,[(6,.one (.int .i64))]),(5,[(11,.one (.int .i64))])],[]⟩
def g134(c:nL):Sem [.one (.ptr),.one (.bool)]:=λx K Kp w=>c x.1 x.2.1 (λr1 w'=>K (.int .i64 r1) w') w
def nQ:=HY 178 g134 (F.GG env) func178 call178 ⟨[(3,[(5,.one (.int .i64))])],[(4,[(14,.one (.bool))])]⟩
def s236:=mk 236 oM (F.Ew env) [nQ] (T0.Ew env) func236 call236 ⟨[(5,[]),(9,[(25,.one (.int .i64))])],[(6,[(18,.one (.bool))])]⟩
def g135(c:tM):Sem [.one (.ptr),.one (.sl)]:=λx K Kp w=>c x.1 x.2.1 (λr1 w'=>K (.int .i64 r1) w') w
def s173:=mk 173 g135 (F.C3 env) [nQ,s131,s204,s132,s235,s236] (T0.C3 env) func173 call173 ⟨[(4,[(20,.one (.int .i64))])],[]⟩
def g136(c:tJ):Sem [.one (.ptr)]:=λx K Kp w=>c x.1 (λr1 a w'=>K (.tuple ⟨[.int .u64 r1,.int .u64 a]⟩) w') w
def s174:=mk 174 g136 (F.C4 env) [xT,X4,O8] (T0.C4 env) func174 call174 ⟨[(2,[(2,.one (.int .u64)),(3,.one (.int .u64)),(15,.one (.int .i64))])],[]⟩
noncomputable def C297:Entry:=λargs w K Kp=>unArgs [.one (.xI)] args.toList λx=>F.Ia env x.1 (λr1 w'=>K (.int .u64 r1) w') w
def u6:E7 Tryz.prog 297 C297:=
 Tr Tryz.func297 (by kernel_rfl) (by kernel_rfl) (by kernel_rfl) (e:=Extern.MathFloatBits.float64bits) (by kernel_rfl) (aO rfl)
def g137(c:jP):Sem [.one (.xI)]:=λx K Kp w=>c x.1 (λr1 w'=>K (.int .u64 r1) w') w
def s297:Slot:=⟨297,_,λc=>JU (g137 c),F.Ia env,u6⟩
def s281:=mk 281 g137 (F.Gb env) [s297] (T0.Gb env) func281 call281
def s237:=mk 237 g23 (F.Ji env) [s281] (T0.Ji env) func237 call237
def g138(c:Rp):Sem [.one (.int .u64),.one (.int .i64)]:=λx K Kp w=>c x.1 x.2.1 (λr1 w'=>K (.int .u64 r1) w') w
def s177:=mk 177 g138 (F.IT env) [s237,nP,nO] (T0.IT env) func177 call177
def g139(c:tN):Sem [.one (.int .u64),.one (.int .u64),.one (.int .u64)]:=λx K Kp w=>c x.1 x.2.1 x.2.2.1 (λr1 w'=>K (.int .u64 r1) w') w
def s176:=mk 176 g139 (F.IU env) [s237] (T0.IU env) func176 call176 ⟨[],[(4,[(7,.one (.int .u64))])]⟩
def s175:=HY 175 g103 (F.HP env) func175 call175
def g140(c:tO):Sem [.one (.ptr),.one (.sl)]:=λx K Kp w=>c x.1 x.2.1 (λr1 a d w'=>K (.agg ⟨[.int .u64 r1,.int .u64 a,.int .i64 d]⟩) w') w
def s120:=mk 120 g140 (F.Ci env) [zL,s173,s174,s177,s176,s175,nQ] (T0.Ci env) func120 call120 ⟨[(2,[(14,.one (.int .i64))])],[]⟩
def bL:CG 72 (QJ (F.El env)):=NY 72 QJ (F.El env) [s83,s86,uK,uL,aB] (T0.El env) func72 call72 ⟨[],[(2,[(22,.one (.bool))]),(5,[])]⟩
def s72:Slot:=⟨72,_,λc=>JU (QJ c),F.El env,bL.any⟩
def AAD(c:zD):Sem [.one (.ptr),.one (.ptr)]:=λx K Kp w=>c x.1 x.2.1 (λw'=>K (.tuple ⟨[]⟩) w') Kp w
def bM:CG 73 (AAD (F.Ff env)):=NY 73 AAD (F.Ff env) [tR,s83] (T0.Ff env) func73 call73
def s73:Slot:=⟨73,_,λc=>JU (AAD c),F.Ff env,bM.any⟩
def bN:CG 74 (QJ (F.Ib env)):=OB 74 QJ (F.Ib env) func74 call74
def s74:Slot:=⟨74,_,λc=>JU (QJ c),F.Ib env,bN.any⟩
def bO:CG 75 (QJ (F.Ic env)):=OB 75 QJ (F.Ic env) func75 call75
def zP:Slot:=⟨75,_,λc=>JU (QJ c),F.Ic env,bO.any⟩
def bP:CG 76 (QJ (F.D7 env)):=NY 76 QJ (F.D7 env) [uK,uL] (T0.D7 env) func76 call76
def s76:Slot:=⟨76,_,λc=>JU (QJ c),F.D7 env,bP.any⟩
def oT:CG 78 (QJ (F.FV env)):=NY 78 QJ (F.FV env) [s86,s120,aB] (T0.FV env) func78 call78
def oU:CG 80 (XB (F.Hx env)):=OB 80 XB (F.Hx env) func80 call80
def bQ(c:tP):Sem [.one (.int .i64),.one (.ptr),.one (.ptr)]:=λx K Kp w=>c x.1 x.2.1 x.2.2.1 (λr1 w'=>K (.bool r1) w') w
def XF:CG 128 (bQ (F.Gc env)):=OB 128 bQ (F.Gc env) func128 call128
def s128:Slot:=⟨128,_,λc=>JU (bQ c),F.Gc env,XF.any⟩
def gA:CG 242 (bQ (F.Du env)):=OB 242 bQ (F.Du env) func242 call242
def gB:CG 246 (bQ (F.Hy env)):=OB 246 bQ (F.Hy env) func246 call246
def s272:=mk 272 g10 (F.Ey env) [s241,s270] (T0.Ey env) func272 call272 ⟨[(7,[(25,.one (.int .i64))])],[]⟩
def g143(c:zE):Sem [.one (.int .u64),.one (.int .u64),.one (.ptr),.one (.ptr)]:=λx K Kp w=>c x.1 x.2.1 x.2.2.1 x.2.2.2.1 (λw'=>K (.tuple ⟨[]⟩) w') w
def gC:CG 271 (g143 (F.Dj env)):=NY 271 g143 (F.Dj env) [s272] (T0.Dj env) func271 call271 ⟨[(1,[(6,.one (.int .u64))])],[]⟩
def s275:=mk 275 g65 (F.KW env) [zX] (T0.KW env) func275 call275
def g144(c:tQ):Sem [.one (.ptr),.one (.int .i64),.one (.int .i64),.one (.bool)]:=λx K Kp w=>c x.1 x.2.1 x.2.2.1 x.2.2.2.1 (λr1 a w'=>K (.tuple ⟨[.int .i64 r1,.int .i64 a]⟩) w') w
def s276:=mk 276 g144 (F.FI env) [zX] (T0.FI env) func276 call276 ⟨[(4,[(8,.one (.int .i64)),(9,.one (.int .i64)),(33,.one (.int .i64))])],[(2,[(22,.one (.bool))]),(8,[(51,.one (.bool))])]⟩
def g145(c:zF):Sem [.one (.ptr),.one (.ptr),.one (.ptr)]:=λx K Kp w=>c x.1 x.2.1 x.2.2.1 (λr1 w'=>K (.int .i64 r1) w') w
def gE:CG 274 (g145 (F.EG env)):=NY 274 g145 (F.EG env) [AA1,s146,s275,s107,s223,s276,jQ] (T0.EG env) func274 call274
def s298:=HY 298 g6 (F.JH env) func298 call298
def Yl(c:W6):Sem [.one (.ptr),.agg [.int .i64,.int .i64,.bool]]:=λx K Kp w=>c x.1 x.2.1.1 x.2.1.2.1 x.2.1.2.2.1 (λr1 a d w'=>K (.tuple ⟨[.int .i64 r1,.bool a,.int .i64 d]⟩) w') w
def gF:CG 292 (Yl (F.DT env)):=NY 292 Yl (F.DT env) [s298,AA9] (T0.DT env) func292 call292
def g147(c:nM):Sem [.one (.ptr),.agg [.int .i64,.int .i64,.bool],.one (.bool)]:=λx K Kp w=>c x.1 x.2.1.1 x.2.1.2.1 x.2.1.2.2.1 x.2.2.1 (λr1 a d w'=>K (.tuple ⟨[.int .i64 r1,.bool a,.int .i64 d]⟩) w') w
def s299:=mk 299 g147 (F.Co env) [s298,AA9,AA8,z9,Oz,s115] (T0.Co env) func299 call299 ⟨[(1,[])],[(9,[(61,.one (.bool))])]⟩
def gG:CG 293 (Yl (F.Cp env)):=NY 293 Yl (F.Cp env) [s299] (T0.Cp env) func293 call293
def gH:CG 294 (Yl (F.Dv env)):=NY 294 Yl (F.Dv env) [s299] (T0.Dv env) func294 call294
def gI:CG 295 (Yl (F.DU env)):=NY 295 Yl (F.DU env) [z9,zX,s116] (T0.DU env) func295 call295
end
end Go.Sh
namespace Go.Sh
def oV{E:Env}{i:Int}{p1 d:Option Addr}{w:World}{K a:Bool->World->Prop}(O: ∀b w',K b w'->a b w')(h:F.Du E i p1 d K w):F.Du E i p1 d a w:=by
 unfold F.Du at h⊢;obtain⟨q1,rfl,x2,e,h⟩:=HF h;obtain⟨T,rfl,Y,m,h⟩:=HF h;obtain⟨q5,u,hi,x6,v,h⟩:=HF h;obtain⟨q7,rfl,x8,J,h⟩:=HF h;refine⟨some T,e,Y,m,?_⟩;rw[u];exact⟨hi,x6,v,x8,J,O _ _ h⟩
def Ym{P:Program}(g:FuncId)(args:Array Value)(w:World)(K a:Value->World->Prop)(d: ∀v w',K v w'->a v w')(h:ground P g args w K EW):ground P g args w a EW:=
 ⟨h.1,h.2.mono λe w' hE=>let⟨v,hv,h⟩:=hE.val; .inl ⟨v,hv,d v w' h⟩⟩
end Go.Sh

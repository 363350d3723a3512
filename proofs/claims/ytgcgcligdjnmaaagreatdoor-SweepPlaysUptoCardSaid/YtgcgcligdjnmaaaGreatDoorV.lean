/- Each shallow form is what the code of its function comes to, piece 3. No further condition. -/
import Derived.Test.YtgcgcligdjnmaaaGreatDoorU
import Derived.Test.YtgcgcligdjnmaaaGreatDoorProg
import Derived.KernelRfl
set_option linter.all false
set_option maxRecDepth 100000
set_option maxHeartbeats 4000000
namespace Go.Sh
open Go.Proofs Go.Proofs.Tryz
noncomputable section
def g77(c:Y60):Sem [.one (.ptr),.one (.ptr),.agg [.int .u64,.int .i64,.int .i64,.int .i64,.bool,.int .i64,.int .i64,.int .i64,.bool,.bool]]:=λx K Kp w=>c x.1 x.2.1 x.2.2.1.1 x.2.2.1.2.1 x.2.2.1.2.2.1 x.2.2.1.2.2.2.1 x.2.2.1.2.2.2.2.1 x.2.2.1.2.2.2.2.2.1 x.2.2.1.2.2.2.2.2.2.1 x.2.2.1.2.2.2.2.2.2.2.1 x.2.2.1.2.2.2.2.2.2.2.2.1 x.2.2.1.2.2.2.2.2.2.2.2.2.1 (λw'=>K (.tuple ⟨[]⟩) w') Kp w
noncomputable def C105:Entry:=Oi (g77 (F.BD env))
def sU:Gs 105 (g77 (F.BD env)):=Xn 105 g77 (F.BD env) [sA,s151,wX,s153,bJ,s155,s82,s156] (T0.BD env) func105 call105 ⟨[(5,[(33,.one (.int .i64))])],[]⟩
def g78(c:wO):Sem [.one (.ptr)]:=λx K Kp w=>c x.1 (λr1 r2 w'=>K (.tuple ⟨[.slice r1.base r1.len r1.cap,.int .i64 r2]⟩) w') w
noncomputable def C106:Entry:=Oi (g78 (F.Cr env))
def fQ:Gs 106 (g78 (F.Cr env)):=Xn 106 g78 (F.Cr env) [sA,nI] (T0.Cr env) func106 call106 ⟨[(7,[(4,.one (.sl)),(22,.one (.int .i64))]),(13,[(4,.one (.sl)),(6,.one (.int .u64))])],[(12,[(6,.one (.int .u64))])]⟩
def zZ:Slot:=⟨106,_,λc=>Oi (g78 c),F.Cr env,fQ.any⟩
def s157:=Gz 157 nS (F.KO env) func157 call157 ⟨[],[(2,[(16,.one (.bool))])]⟩
def s217:=Gz 217 xL (F.Ma env) func217 call217
def s159:=mk 159 g9 (F.GX env) [s217] (T0.GX env) func159 call159
noncomputable def C107:Entry:=Oi (g9 (F.DF env))
def sV:Gs 107 (g9 (F.DF env)):=Xn 107 g9 (F.DF env) [s157,Sb,iZ,s158,s159] (T0.DF env) func107 call107
noncomputable def sW:MQ:=λargs d w K=>unArgs [.one (.ptr),.one (.ptr),.one (.ptr)] args.toList λx=>F.Cm env x.1 x.2.1 x.2.2.1 (d.getD .nilIface) (λw'=>K d.isSome w') w
noncomputable def fR:Code:=(Tryz.f104.body).getD .skip
def nW:SY:={loops:=[],Ra:=[]}
noncomputable def fS:Code:=((recOf fR).map (·.2)).getD .skip
def xM(x:JN [.one (.ptr),.one (.ptr),.one (.ptr)])(v:Value)(K:World->Prop)(w:World):F.Cm env x.1 x.2.1 x.2.2.1 v K w=
 ev Tryz.prog (tabC []) (ground Tryz.prog) nW fS (finQ Tryz.prog Tryz.f104 (λ_ w'=>K w') NI) ((IE (mkArgs [.one (.ptr),.one (.ptr),.one (.ptr)] x)).put 6 v) w:=by kernel_rfl
def nX:Iq Tryz.prog 104 sW:=
 iL (T:=[]) (A:=nW) (fn:=Tryz.f104) (c:=fR) (y:=fS) (d:=6) (l:=[.one (.ptr),.one (.ptr),.one (.ptr)]) (F:=λ(x:JN [.one (.ptr),.one (.ptr),.one (.ptr)]) v K w=>F.Cm env x.1 x.2.1 x.2.2.1 v K w) Lz mixed Tryz.func104 Tryz.call104 (by kernel_rfl) (by kernel_rfl) (by kernel_rfl) (by kernel_rfl) (by kernel_rfl) xM
noncomputable def C55:Entry:=λargs w K Kp=>unArgs [.one (.ptr),.one (.int .i64),.one (.bool)] args.toList λx=>F.B5 env x.1 x.2.1 x.2.2.1 (λr1 r2 d w'=>K (.tuple ⟨[.int .i64 r1,.bool r2,.int .i64 d]⟩) w') w
noncomputable def bQ:Code:=(Tryz.f55.body).getD .skip
def nY:SY:={loops:=[],Ra:=[(13,[(59,.one (.bool))]),(16,[])]}
def xN(v: ∀(a0:(Option Addr)) (a1:Int) (K:(Option Addr)->Int->Int->Int->Int->Bool->Int->Int->Int->Bool->Bool->Int->World->Prop) (w:World),Prop)(d: ∀(a0:(Option Addr)) (a1:(Option Addr)) (aI:Int) (aJ:Int) (aK:Int) (aL:Int) (aM:Bool) (aN:Int) (aO:Int) (aP:Int) (aQ:Bool) (aR:Bool) (K:World->Prop) (Kp:Value->World->Prop) (w:World),Prop)(J: ∀(a0:(Option Addr)) (K:Aa->Int->World->Prop) (w:World),Prop)(O: ∀(a0:(Option Addr)) (K:Int->Int->Int->Int->Bool->Int->Int->Int->Bool->Bool->World->Prop) (w:World),Prop)(y: ∀(a0:(Option Addr)) (a1:Int) (K:Int->World->Prop) (w:World),Prop)(j: ∀(a0:(Option Addr)) (a1:Int) (a2:Bool) (K:Int->World->Prop) (w:World),Prop)(x:JN [.one (.ptr),.one (.int .i64),.one (.bool)])(K:Value->World->Prop)(w:World):T0.B5 env v d J O y j x.1 x.2.1 x.2.2.1 (λr1 r2 Y w'=>K (.tuple ⟨[.int .i64 r1,.bool r2,.int .i64 Y]⟩) w') w=
 evD Tryz.prog (tabC [(76,λargs w K Kp=>unArgs [.one (.ptr),.one (.int .i64)] args.toList λx=>v x.1 x.2.1 (λr1 r2 Y r4 r5 r6 r7 r8 r9 T aA aB w'=>K (.tuple ⟨[.pointer r1,.agg ⟨[.int .u64 r2,.int .i64 Y,.int .i64 r4,.int .i64 r5,.bool r6,.int .i64 r7,.int .i64 r8,.int .i64 r9,.bool T,.bool aA]⟩,.int .i64 aB]⟩) w') w),(105,λargs w K Kp=>unArgs [.one (.ptr),.one (.ptr),.agg [.int .u64,.int .i64,.int .i64,.int .i64,.bool,.int .i64,.int .i64,.int .i64,.bool,.bool]] args.toList λx=>d x.1 x.2.1 x.2.2.1.1 x.2.2.1.2.1 x.2.2.1.2.2.1 x.2.2.1.2.2.2.1 x.2.2.1.2.2.2.2.1 x.2.2.1.2.2.2.2.2.1 x.2.2.1.2.2.2.2.2.2.1 x.2.2.1.2.2.2.2.2.2.2.1 x.2.2.1.2.2.2.2.2.2.2.2.1 x.2.2.1.2.2.2.2.2.2.2.2.2.1 (λw'=>K (.tuple ⟨[]⟩) w') Kp w),(106,λargs w K Kp=>unArgs [.one (.ptr)] args.toList λx=>J x.1 (λr1 r2 w'=>K (.tuple ⟨[.slice r1.base r1.len r1.cap,.int .i64 r2]⟩) w') w),(52,λargs w K Kp=>unArgs [.one (.ptr)] args.toList λx=>O x.1 (λr1 r2 Y r4 r5 r6 r7 r8 r9 T w'=>K (.agg ⟨[.int .u64 r1,.int .i64 r2,.int .i64 Y,.int .i64 r4,.bool r5,.int .i64 r6,.int .i64 r7,.int .i64 r8,.bool r9,.bool T]⟩) w') w),(107,λargs w K Kp=>unArgs [.one (.ptr),.one (.int .i64)] args.toList λx=>y x.1 x.2.1 (λr1 w'=>K (.int .i64 r1) w') w),(30,λargs w K Kp=>unArgs [.one (.ptr),.one (.int .i64),.one (.bool)] args.toList λx=>j x.1 x.2.1 x.2.2.1 (λr1 w'=>K (.int .i64 r1) w') w)]) (ground Tryz.prog) nY (finQ Tryz.prog Tryz.f55 K NI) (finD Tryz.prog Tryz.f55 (tabD [(104,sW)]) K NI) bQ (IE (mkArgs [.one (.ptr),.one (.int .i64),.one (.bool)] x)) w:=by kernel_rfl
def tie55(x:JN [.one (.ptr),.one (.int .i64),.one (.bool)])(K:Value->World->Prop)(w:World):F.B5 env x.1 x.2.1 x.2.2.1 (λr1 r2 d w'=>K (.tuple ⟨[.int .i64 r1,.bool r2,.int .i64 d]⟩) w') w=
 evD Tryz.prog (tabC [(76,C76),(105,C105),(106,C106),(52,C52),(107,C107),(30,C30)]) (ground Tryz.prog) nY (finQ Tryz.prog Tryz.f55 K NI) (finD Tryz.prog Tryz.f55 (tabD [(104,sW)]) K NI) bQ (IE (mkArgs [.one (.ptr),.one (.int .i64),.one (.bool)] x)) w:=xN (F.BP env) (F.BD env) (F.Cr env) (F.Be env) (F.DF env) (F.BC env) x K w
def xO:Iz Tryz.prog 55 C55:=
 Pf (T:=[(76,C76),(105,C105),(106,C106),(52,C52),(107,C107),(30,C30)]) (TD:=[(104,sW)]) (A:=nY) (fn:=Tryz.f55) (c:=bQ) (DT nU (DT sU (DT fQ (DT nT (DT sV (DT nV Lz)))))) (TY nX Vf) mixed Tryz.func55 Tryz.call55 (by kernel_rfl) (by kernel_rfl) (by kernel_rfl) tie55
def s136:=mk 136 xL (F.BI env) [s71] (T0.BI env) func136 call136
def s137:=mk 137 xL (F.BJ env) [s71] (T0.BJ env) func137 call137
def rY:=mk 138 g75 (F.Av env) [sB] (T0.Av env) func138 call138
def s200:=Gz 200 g76 (F.FU env) func200 call200 ⟨[(3,[(5,.one (.sl)),(6,.one (.int .i64))])],[]⟩
def s139:=mk 139 g76 (F.BK env) [s200,rY] (T0.BK env) func139 call139 ⟨[(3,[(6,.one (.int .i64))])],[]⟩
def s140:=mk 140 g78 (F.CW env) [s71] (T0.CW env) func140 call140 ⟨[(4,[(4,.one (.int .i64))]),(10,[(5,.one (.sl)),(6,.one (.int .i64))])],[(7,[(36,.one (.bool))]),(13,[(61,.one (.bool))])]⟩
def s201:=mk 201 nS (F.C0 env) [sD] (T0.C0 env) func201 call201 ⟨[],[(2,[(12,.one (.bool))])]⟩
def s230:=Gz 230 xL (F.II env) func230 call230
def s202:=mk 202 g9 (F.C1 env) [s230] (T0.C1 env) func202 call202
def xD:=mk 141 g9 (F.CD env) [fM,s201,Sc,s202] (T0.CD env) func141 call141
def g79(c:rA):Sem [.one (.ptr),.one (.int .i64),.one (.bool)]:=λx K Kp w=>c x.1 x.2.1 x.2.2.1 (λr1 r2 d w'=>K (.tuple ⟨[.int .i64 r1,.bool r2,.int .i64 d]⟩) w') w
def s92:=mk 92 g79 (F.Bj env) [MK,s136,s137,vI,rY,s86,s139,s140,sD,xD,s31] (T0.Bj env) func92 call92 ⟨[(7,[(10,.one (.int .i64))]),(12,[(11,.one (.int .i64))])],[(10,[(47,.one (.bool))]),(25,[(148,.one (.bool))])]⟩
def g80(c:Y64):Sem [.one (.ptr),.one (.int .i64),.one (.bool)]:=λx K Kp w=>c x.1 x.2.1 x.2.2.1 (λr1 w'=>K (.bool r1) w') w
def aG:Slot:=⟨55,_,λc=>Oi (g79 c),F.B5 env,xO.any⟩
def sF:=mk 37 g80 (F.CX env) [aG,s92,MK,sD] (T0.CX env) func37 call37 ⟨[],[(4,[(48,.one (.bool))]),(7,[]),(9,[(91,.one (.bool))])]⟩
def g81(c:Xl):Sem [.one (.ptr),.one (.int .u64)]:=λx K Kp w=>c x.1 x.2.1 (λw'=>K (.tuple ⟨[]⟩) w') w
def z6:=Gz 38 g81 (F.F9 env) func38 call38
def s39:=Gz 39 g81 (F.D9 env) func39 call39
noncomputable def C93:Entry:=λargs w K Kp=>unArgs [.one (.int .u64),.one (.int .u64),.one (.int .u64)] args.toList λx=>F.I7 env x.1 x.2.1 x.2.2.1 (λr1 r2 w'=>K (.tuple ⟨[.int .u64 r1,.int .u64 r2]⟩) w') w
def xP:Fi Tryz.prog 93 C93:=
 X9 Tryz.func93 (by kernel_rfl) (by kernel_rfl) (by kernel_rfl) (e:=add64Entry) (by kernel_rfl) (iO rfl)
def g82(c:Y65):Sem [.one (.int .u64),.one (.int .u64),.one (.int .u64)]:=λx K Kp w=>c x.1 x.2.1 x.2.2.1 (λr1 r2 w'=>K (.tuple ⟨[.int .u64 r1,.int .u64 r2]⟩) w') w
def s93:Slot:=⟨93,_,λc=>Oi (g82 c),F.I7 env,xP⟩
def aE:=mk 40 g81 (F.CY env) [s93] (T0.CY env) func40 call40 ⟨[],[(3,[(4,.one (.int .u64))])]⟩
def z5:=Gz 41 g81 (F.Dh env) func41 call41
noncomputable def C145:Entry:=λargs w K Kp=>unArgs [.one (.int .u64)] args.toList λx=>F.EL env x.1 (λr1 w'=>K (.float .f64 r1) w') w
def sX:Fi Tryz.prog 145 C145:=
 X9 Tryz.func145 (by kernel_rfl) (by kernel_rfl) (by kernel_rfl) (e:=Extern.MathFloatBits.float64frombits) (by kernel_rfl) (WW rfl)
def g83(c:Vk):Sem [.one (.int .u64),.one (.int .u64)]:=λx K Kp w=>c x.1 x.2.1 (λr1 w'=>K (.int .u64 r1) w') w
def g84(c:wP):Sem [.one (.int .u64)]:=λx K Kp w=>c x.1 (λr1 w'=>K (.float .f64 r1) w') w
def s145:Slot:=⟨145,_,λc=>Oi (g84 c),F.EL env,sX⟩
def s98:=mk 98 g83 (F.G6 env) [s145] (T0.G6 env) func98 call98
def xQ(c:Jy):Sem [.one (.ptr)]:=λx K Kp w=>c x.1 (λr1 w'=>K (.int .u64 r1) w') w
def Sz:=mk 46 xQ (F.C7 env) [s98] (T0.C7 env) func46 call46
def bI:=mk 42 nS (F.Cn env) [Sz,s35,aG] (T0.Cn env) func42 call42 ⟨[(1,[])],[]⟩
def s146:=mk 146 g84 (F.Eb env) [s145] (T0.Eb env) func146 call146
def s99:=mk 99 g83 (F.EM env) [s146] (T0.EM env) func99 call99
def s47:=mk 47 xQ (F.BY env) [s99] (T0.BY env) func47 call47
def s43:=mk 43 nS (F.BL env) [s47,Pz,s92] (T0.BL env) func43 call43 ⟨[(1,[])],[]⟩
def g86(c:Y67):Sem [.one (.ptr),.agg [.int .i64,.int .i64,.bool,.int .u64,.int .i64,.int .i64,.int .i64,.int .u64,.sl,.bool]]:=λx K Kp w=>c x.1 x.2.1.1 x.2.1.2.1 x.2.1.2.2.1 x.2.1.2.2.2.1 x.2.1.2.2.2.2.1 x.2.1.2.2.2.2.2.1 x.2.1.2.2.2.2.2.2.1 x.2.1.2.2.2.2.2.2.2.1 x.2.1.2.2.2.2.2.2.2.2.1 x.2.1.2.2.2.2.2.2.2.2.2.1 (λr1 w'=>K (.bool r1) w') w
def s9:=mk 9 g86 (F.C2 env) [VB,sE,s21,bH,Q4,MK,Q5,bK,vI,NK,JR,rD,s31,YL,PW,Nl,s35,Pz,sF,z6,s39,aE,z5,bI,s43] (T0.C2 env) func9 call9 ⟨[(16,[(13,.one (.int .i64))])],[(7,[(74,.one (.bool))]),(14,[(113,.one (.bool))]),(21,[(140,.one (.bool))]),(36,[(22,.one (.sl))]),(39,[(253,.one (.bool))]),(42,[(279,.one (.bool))])]⟩
def rZ:=Gz 142 xQ (F.Hb env) func142 call142
def s94:=mk 94 xQ (F.CJ env) [rZ] (T0.CJ env) func94 call94
def g87(c:rC):Sem [.one (.ptr)]:=λx K Kp w=>c x.1 (λr1 r2 d w'=>K (.tuple ⟨[.int .u64 r1,.int .u64 r2,.int .u64 d]⟩) w') w
def s95:=mk 95 g87 (F.DP env) [xG] (T0.DP env) func95 call95
def s96:=mk 96 xQ (F.Em env) [rZ] (T0.Em env) func96 call96
def rE:=mk 44 g87 (F.EN env) [s94,s95,s96] (T0.EN env) func44 call44 ⟨[(3,[(5,.one (.int .u64)),(20,.one (.int .i64))]),(6,[(5,.one (.int .u64)),(10,.one (.int .u64))])],[]⟩
def g88(c:OH):Sem [.one (.ptr),.one (.int .i64),.one (.int .i64)]:=λx K Kp w=>c x.1 x.2.1 x.2.2.1 (λr1 w'=>K (.int .i64 r1) w') w
def s203:=mk 203 g88 (F.C3 env) [s231] (T0.C3 env) func203 call203 ⟨[(5,[(7,.one (.int .i64)),(8,.one (.int .i64))])],[]⟩
def wW:=mk 144 nS (F.Bp env) [s203] (T0.Bp env) func144 call144
def s97:=mk 97 xQ (F.BZ env) [wW] (T0.BZ env) func97 call97 ⟨[(3,[(3,.one (.int .i64)),(4,.one (.int .i64))])],[]⟩
def s45:=mk 45 g87 (F.CZ env) [s97] (T0.CZ env) func45 call45 ⟨[(3,[(5,.one (.int .u64)),(7,.one (.int .i64))]),(7,[(6,.one (.int .u64)),(8,.one (.int .i64))]),(10,[(6,.one (.int .u64)),(9,.one (.int .i64))])],[(13,[(64,.one (.bool))])]⟩
def z3:=Gz 50 nS (F.Fm env) func50 call50
def wR:=Gz 100 g1 (F.DS env) func100 call100
def P5:=mk 51 g18 (F.CE env) [wR] (T0.CE env) func51 call51
def zH:=mk 53 g41 (F.Ch env) [sD] (T0.Ch env) func53 call53
def g89(c:Sv):Sem [.one (.int .u32)]:=λx K Kp w=>c x.1 (λr1 w'=>K (.int .i64 r1) w') w
def s212:=Gz 212 g89 (F.Sd env) func212 call212 ⟨[],[(4,[(0,.one (.int .u32)),(2,.one (.int .i64))]),(7,[(0,.one (.int .u32)),(2,.one (.int .i64))])]⟩
def s213:=Gz 213 g27 (F.I8 env) func213 call213 ⟨[],[(4,[(0,.one (.int .u64)),(2,.one (.int .i64))]),(7,[(0,.one (.int .u64)),(2,.one (.int .i64))]),(10,[(0,.one (.int .u64)),(2,.one (.int .i64))])]⟩
def s148:=mk 148 g27 (F.E7 env) [s213,s212] (λc0 _=>T0.E7 env c0) func148 call148
def lQ(c:wQ):Sem [.one (.sl),.one (.int .i64),.one (.int .i64),.one (.any)]:=λx K Kp w=>c x.1 x.2.1 x.2.2.1 x.2.2.2.1 (λw'=>K (.tuple ⟨[]⟩) w') w
noncomputable def C204:Entry:=Oi (lQ (F.Bk env))
def sY:Gs 204 (lQ (F.Bk env)):=YQ 204 lQ (F.Bk env) func204 call204 ⟨[(1,[(8,.one (.int .i64))]),(4,[(9,.one (.int .i64))])],[]⟩
def g91(c:Y70):Sem [.one (.sl),.one (.int .i64),.one (.int .i64),.one (.int .i64),.one (.any)]:=λx K Kp w=>c x.1 x.2.1 x.2.2.1 x.2.2.2.1 x.2.2.2.2.1 (λw'=>K (.tuple ⟨[]⟩) w') w
def s232:=Gz 232 g91 (F.ET env) func232 call232 ⟨[(1,[(10,.one (.int .i64))])],[(4,[(40,.one (.bool))]),(5,[(11,.one (.int .i64))])]⟩
noncomputable def C205:Entry:=Oi (lQ (F.Aw env))
def sZ:Gs 205 (lQ (F.Aw env)):=Xn 205 lQ (F.Aw env) [s232] (T0.Aw env) func205 call205 ⟨[(4,[(11,.one (.int .i64))]),(8,[(12,.one (.int .i64))])],[]⟩
def g92(c:Sv):Sem [.one (.int .i64)]:=λx K Kp w=>c x.1 (λr1 w'=>K (.int .u64 r1) w') w
def s233:=mk 233 g92 (F.Ci env) [s148] (T0.Ci env) func233 call233
def s234:=Gz 234 xQ (F.GY env) func234 call234
noncomputable def C206:Entry:=Oi (lQ (F.Aj env))
def tA:Gs 206 (lQ (F.Aj env)):=Xn 206 lQ (F.Aj env) [s233,s234] (T0.Aj env) func206 call206 ⟨[(5,[(11,.one (.int .i64))])],[(10,[(12,.one (.int .i64))])]⟩
def g93(c:Y71):Sem [.one (.sl),.one (.int .i64),.one (.int .i64),.one (.ptr),.one (.any)]:=λx K Kp w=>c x.1 x.2.1 x.2.2.1 x.2.2.2.1 x.2.2.2.2.1 (λr1 r2 w'=>K (.tuple ⟨[.int .i64 r1,.int .i64 r2]⟩) w') w
def s238:=Gz 238 g93 (F.Es env) func238 call238
def g94(c:zY):Sem [.one (.sl),.one (.int .i64),.one (.int .i64),.one (.int .i64),.one (.ptr),.one (.any)]:=λx K Kp w=>c x.1 x.2.1 x.2.2.1 x.2.2.2.1 x.2.2.2.2.1 x.2.2.2.2.2.1 (λr1 w'=>K (.int .i64 r1) w') w
def s236:=mk 236 g94 (F.BM env) [s238] (T0.BM env) func236 call236
def g95(c:Y73):Sem [.one (.sl),.one (.int .i64),.one (.ptr),.one (.any)]:=λx K Kp w=>c x.1 x.2.1 x.2.2.1 x.2.2.2.1 (λr1 w'=>K (.int .i64 r1) w') w
def s235:=mk 235 g95 (F.A5 env) [s236] (T0.A5 env) func235 call235
def g96(c:Y74):Sem [.one (.sl),.one (.int .i64),.one (.int .i64),.one (.any)]:=λx K Kp w=>c x.1 x.2.1 x.2.2.1 x.2.2.2.1 (λr1 r2 w'=>K (.tuple ⟨[.int .i64 r1,.int .i64 r2]⟩) w') w
noncomputable def C207:Entry:=Oi (g96 (F.Am env))
def tB:Gs 207 (g96 (F.Am env)):=Xn 207 g96 (F.Am env) [s235,s236] (T0.Am env) func207 call207 ⟨[],[(11,[(12,.one (.int .i64)),(13,.one (.int .i64)),(14,.one (.int .i64))]),(12,[(13,.one (.int .i64))])]⟩
noncomputable def C208:Entry:=Oi (lQ (F.Br env))
def tC:Gs 208 (lQ (F.Br env)):=YQ 208 lQ (F.Br env) func208 call208 ⟨[(2,[(8,.one (.int .i64)),(9,.one (.int .i64))])],[]⟩
def g97(c:Y75):Sem [.one (.sl),.one (.int .i64),.one (.int .i64),.one (.any)]:=λx K Kp w=>c x.1 x.2.1 x.2.2.1 x.2.2.2.1 (λr1 w'=>K (.bool r1) w') w
noncomputable def C209:Entry:=Oi (g97 (F.A0 env))
def tD:Gs 209 (g97 (F.A0 env)):=YQ 209 g97 (F.A0 env) func209 call209 ⟨[(3,[(9,.one (.int .i64)),(10,.one (.int .i64))]),(5,[(9,.one (.int .i64))]),(14,[(11,.one (.int .i64))]),(20,[(12,.one (.int .i64))])],[(7,[(9,.one (.int .i64))]),(18,[])]⟩
def g98(c:Y76):Sem [.one (.sl),.one (.int .i64),.one (.int .i64),.one (.int .i64),.one (.any)]:=λx K Kp w=>c x.1 x.2.1 x.2.2.1 x.2.2.2.1 x.2.2.2.2.1 (λr1 w'=>K (.int .i64 r1) w') w
noncomputable def C210:Entry:=Oi (g98 (F.Bc env))
def tE:Gs 210 (g98 (F.Bc env)):=YQ 210 g98 (F.Bc env) func210 call210 ⟨[(3,[(11,.one (.int .i64)),(12,.one (.int .i64))]),(5,[(12,.one (.int .i64))])],[(5,[(11,.one (.int .i64))]),(7,[(12,.one (.int .i64))])]⟩
def g99(c:Y77):Sem [.one (.sl),.one (.int .i64),.one (.int .i64),.one (.int .i64),.one (.any)]:=λx K Kp w=>c x.1 x.2.1 x.2.2.1 x.2.2.2.1 x.2.2.2.2.1 (λr1 r2 w'=>K (.tuple ⟨[.int .i64 r1,.bool r2]⟩) w') w
noncomputable def C211:Entry:=Oi (g99 (F.CN env))
def tF:Gs 211 (g99 (F.CN env)):=YQ 211 g99 (F.CN env) func211 call211 ⟨[(3,[(12,.one (.int .i64))]),(5,[(13,.one (.int .i64))]),(13,[(12,.one (.int .i64)),(13,.one (.int .i64))]),(15,[(13,.one (.int .i64))])],[(5,[(12,.one (.int .i64))]),(7,[(13,.one (.int .i64))]),(15,[(12,.one (.int .i64))]),(17,[(13,.one (.int .i64))])]⟩
noncomputable def fT(n:Nat):Entry:=λargs w K Kp=>unArgs [.one (.sl),.one (.int .i64),.one (.int .i64),.one (.int .i64),.one (.any)] args.toList λx=>F.slices_pdqsortCmpFunc_int_ env n x.1 x.2.1 x.2.2.1 x.2.2.2.1 x.2.2.2.2.1 (λw'=>K (.tuple ⟨[]⟩) w') w
noncomputable def C147:Entry:=λargs w K Kp=> ∃n,fT n args w K Kp
noncomputable def fU:Code:=(Tryz.f147.body).getD .skip
def nZ:SY:={loops:=[(2,[(1,.one (.int .i64)),(2,.one (.int .i64)),(3,.one (.int .i64)),(10,.one (.bool)),(11,.one (.bool))])],Ra:=[(10,[(3,.one (.int .i64))]),(15,[(13,.one (.int .i64)),(14,.one (.int .i64))]),(16,[(75,.one (.bool))]),(17,[]),(18,[(97,.one (.bool))])]}
def xR(n:Nat)(x:JN [.one (.sl),.one (.int .i64),.one (.int .i64),.one (.int .i64),.one (.any)])(K Kp:Value->World->Prop)(w:World):F.slices_pdqsortCmpFunc_int_ env (n+1) x.1 x.2.1 x.2.2.1 x.2.2.2.1 x.2.2.2.2.1 (λw'=>K (.tuple ⟨[]⟩) w') w=
 ev Tryz.prog (tabC [(204,C204),(205,C205),(206,C206),(207,C207),(208,C208),(209,C209),(210,C210),(211,C211),(147,fT n)]) (ground Tryz.prog) nZ fU (finQ Tryz.prog Tryz.f147 K Kp) (IE (mkArgs [.one (.sl),.one (.int .i64),.one (.int .i64),.one (.int .i64),.one (.any)] x)) w:=by kernel_rfl
def n8(n:Nat):Iz Tryz.prog 147 (fT n):=by
 induction n with
 | zero=>intro args w K Kp h;obtain⟨x,_,h⟩:=G3 h;exact h.elim
 | succ n ih=>exact Rb (T:=[(204,C204),(205,C205),(206,C206),(207,C207),(208,C208),(209,C209),(210,C210),(211,C211),(147,fT n)]) (A:=nZ) (fn:=Tryz.f147) (c:=fU) (DT sY (DT sZ (DT tA (DT tB (DT tC (DT tD (DT tE (DT tF (DT ih Lz))))))))) mixed Tryz.func147 Tryz.call147 (by kernel_rfl) (by kernel_rfl) (by kernel_rfl) (xR n)
def tG:Iz Tryz.prog 147 C147:=iN n8
def g100(c:Y78):Sem [.one (.sl),.one (.any)]:=λx K Kp w=>c x.1 x.2.1 (λw'=>K (.tuple ⟨[]⟩) w') w
def s147:Slot:=⟨147,Unit,λ_=>C147,(),tG.any⟩
def s101:=mk 101 g100 (F.Bg env) [s148,s147] (λc0 _=>T0.Bg env c0) func101 call101
def aF:=mk 54 g18 (F.EO env) [s101] (T0.EO env) func54 call54 ⟨[(3,[(3,.one (.sl))])],[(4,[(11,.one (.bool))])]⟩
end
end Go.Sh

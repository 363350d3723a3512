/- Each shallow form is what the code of its function comes to, piece 3. No further condition. -/
import Derived.Test.YtnhmgaodhjgdaaaGreatDoorU
import Derived.Test.YtnhmgaodhjgdaaaGreatDoorProg
import Derived.KernelRfl
set_option linter.all false
set_option maxRecDepth 100000
set_option maxHeartbeats 4000000
namespace Go.Sh
open Go.Proofs Go.Proofs.Tryz
noncomputable section
def g102(c:Y87):Sem [.agg [.int .i64,.bool,.bool,.int .u64]]:=λx K Kp w=>c x.1.1 x.1.2.1 x.1.2.2.1 x.1.2.2.2.1 (λr1 w'=>K (.int .u64 r1) w') w
def s108:=HY 108 g102 (F.JG env) func108 call108
def g103(c:nI):Sem [.one (.ptr),.one (.int .u64)]:=λx K Kp w=>c x.1 x.2.1 (λw'=>K (.tuple ⟨[]⟩) w') w
def s107:=mk 107 g103 (F.Bp env) [nO] (T0.Bp env) func107 call107 ⟨[],[(3,[(4,.one (.int .u64))])]⟩
def bE:CG 63 (QJ (F.Ej env)):=NY 63 QJ (F.Ej env) [s86,s101,aB,zH,s103,s104,s105,AA1,s108,s107] (T0.Ej env) func63 call63 ⟨[],[(10,[]),(15,[]),(17,[])]⟩
def s63:Slot:=⟨63,_,λc=>JU (QJ c),F.Ej env,bE.any⟩
def s109:=mk 109 g21 (F.CP env) [nP] (T0.CP env) func109 call109
def s155:=mk 155 xZ (F.DF env) [s203] (T0.DF env) func155 call155
def uK:=mk 110 g20 (F.Bc env) [s123,s155] (T0.Bc env) func110 call110
def g104(c:Y88):Sem [.one (.ptr),.one (.ptr),.one (.int .i64),.one (.int .i64)]:=λx K Kp w=>c x.1 x.2.1 x.2.2.1 x.2.2.2.1 (λw'=>K (.tuple ⟨[]⟩) w') w
def uL:=HY 111 g104 (F.IS env) func111 call111
def bF:CG 64 (QJ (F.D5 env)):=NY 64 QJ (F.D5 env) [s109,uK,uL] (T0.D5 env) func64 call64 ⟨[],[(4,[])]⟩
def s64:Slot:=⟨64,_,λc=>JU (QJ c),F.D5 env,bF.any⟩
def s247:=HY 247 XB (F.Gx env) func247 call247 ⟨[(2,[(10,.one (.int .i64))])],[(6,[(4,.one (.int .u64))])]⟩
def g105(c:Y89):Sem [.one (.ptr),.one (.int .u64),.one (.int .i64)]:=λx K Kp w=>c x.1 x.2.1 x.2.2.1 (λr1 w'=>K (.pointer r1) w') w
def uM:=HY 231 g105 (F.DK env) func231 call231 ⟨[(2,[(7,.one (.ptr))])],[(3,[])]⟩
def AA2(c:nJ):Sem [.one (.ptr),.one (.int .u64),.one (.int .u64)]:=λx K Kp w=>c x.1 x.2.1 x.2.2.1 (λr1 w'=>K (.slice r1.base r1.len r1.cap) w') w
def s248:=mk 248 AA2 (F.BV env) [uM] (T0.BV env) func248 call248 ⟨[(3,[(7,.one (.sl)),(8,.one (.ptr))])],[]⟩
def s249:=mk 249 g52 (F.Ds env) [tC,s53] (T0.Ds env) func249 call249
def g107(c:nH):Sem [.one (.ptr),.one (.int .u64),.one (.int .i64)]:=λx K Kp w=>c x.1 x.2.1 x.2.2.1 (λr1 w'=>K (.bool r1) w') w
def s232:=HY 232 g107 (F.Mw env) func232 call232
def g108(c:aA):Sem [.one (.ptr),.one (.int .u64),.one (.int .i64)]:=λx K Kp w=>c x.1 x.2.1 x.2.2.1 (λr1 a w'=>K (.tuple ⟨[.int .u64 r1,.int .i64 a]⟩) w') w
def zK:=mk 168 g108 (F.Bf env) [uM,s232] (T0.Bf env) func168 call168
def s235:=mk 235 xZ (F.EA env) [tC,tT] (T0.EA env) func235 call235
def g109(c:zC):Sem [.one (.ptr),.one (.int .u64)]:=λx K Kp w=>c x.1 x.2.1 (λr1 w'=>K (.slice r1.base r1.len r1.cap) w') w
def s284:=mk 284 g109 (F.Ch env) [uM] (T0.Ch env) func284 call284 ⟨[(3,[(5,.one (.sl)),(6,.one (.ptr))])],[]⟩
def s250:=mk 250 g109 (F.B6 env) [s284,uM] (T0.B6 env) func250 call250 ⟨[(4,[(15,.one (.int .i64))])],[]⟩
def AA3(c:Y93):Sem [.one (.ptr),.one (.ptr),.agg [.int .u64,.int .i64,.int .i64,.int .i64,.bool,.int .i64,.int .i64,.int .i64,.bool,.bool]]:=λx K Kp w=>c x.1 x.2.1 x.2.2.1.1 x.2.2.1.2.1 x.2.2.1.2.2.1 x.2.2.1.2.2.2.1 x.2.2.1.2.2.2.2.1 x.2.2.1.2.2.2.2.2.1 x.2.2.1.2.2.2.2.2.2.1 x.2.2.1.2.2.2.2.2.2.2.1 x.2.2.1.2.2.2.2.2.2.2.2.1 x.2.2.1.2.2.2.2.2.2.2.2.2.1 (λw'=>K (.tuple ⟨[]⟩) w') Kp w
noncomputable def C206:Entry:=JU (AA3 (F.A2 env))
def uN:CG 206 (AA3 (F.A2 env)):=NY 206 AA3 (F.A2 env) [s247,s248,xS,s249,Rb,zK,s235,s250] (T0.A2 env) func206 call206 ⟨[(5,[(33,.one (.int .i64))])],[]⟩
def AA4(c:Y94):Sem [.one (.ptr)]:=λx K Kp w=>c x.1 (λr1 a w'=>K (.tuple ⟨[.slice r1.base r1.len r1.cap,.int .i64 a]⟩) w') w
noncomputable def C207:Entry:=JU (AA4 (F.CU env))
def uO:CG 207 (AA4 (F.CU env)):=NY 207 AA4 (F.CU env) [s247,AA0] (T0.CU env) func207 call207 ⟨[(7,[(4,.one (.sl)),(22,.one (.int .i64))]),(13,[(4,.one (.sl)),(6,.one (.int .u64))])],[(12,[(6,.one (.int .u64))])]⟩
def oM(c:O7):Sem [.one (.ptr)]:=λx K Kp w=>c x.1 (λr1 w'=>K (.int .i64 r1) w') w
def s251:=HY 251 oM (F.KM env) func251 call251 ⟨[],[(2,[(16,.one (.bool))])]⟩
def bG(c:S7):Sem [.one (.ptr),.one (.int .u64),.one (.int .u64)]:=λx K Kp w=>c x.1 x.2.1 x.2.2.1 (λw'=>K (.tuple ⟨[]⟩) w') w
def s270:=HY 270 bG (F.I2 env) func270 call270 ⟨[(2,[(6,.one (.sl)),(16,.one (.int .i64))]),(14,[]),(19,[(10,.one (.int .u64))])],[(5,[(29,.one (.bool))]),(8,[(6,.one (.sl))]),(15,[(81,.one (.bool))]),(17,[(91,.one (.bool))])]⟩
def g114(c:Y95):Sem [.one (.ptr),.one (.int .u64),.one (.int .u64),.one (.int .i64)]:=λx K Kp w=>c x.1 x.2.1 x.2.2.1 x.2.2.2.1 (λr1 w'=>K (.int .i64 r1) w') w
def s216:=mk 216 g114 (F.DZ env) [Yk,s270] (T0.DZ env) func216 call216 ⟨[],[(2,[(20,.one (.bool))]),(4,[(28,.one (.bool))]),(14,[])]⟩
def g115(c:Y96):Sem [.one (.ptr),.one (.int .u64),.one (.int .u64),.one (.bool),.one (.int .i64)]:=λx K Kp w=>c x.1 x.2.1 x.2.2.1 x.2.2.2.1 x.2.2.2.2.1 (λr1 w'=>K (.int .i64 r1) w') w
def s291:=mk 291 g115 (F.Ck env) [Yk] (T0.Ck env) func291 call291 ⟨[],[(4,[(11,.one (.int .u64))]),(5,[(14,.one (.bool))])]⟩
def AA5:=mk 268 bG (F.CB env) [Yk,oE] (T0.CB env) func268 call268 ⟨[(5,[(7,.one (.int .i64)),(8,.one (.sl))])],[(10,[(8,.one (.sl))]),(12,[(7,.one (.int .i64)),(8,.one (.sl))])]⟩
def oN:=mk 269 bG (F.BJ env) [AA5,oE] (T0.BJ env) func269 call269 ⟨[],[(7,[(51,.one (.bool))]),(9,[(8,.one (.int .i64))]),(10,[(77,.one (.bool))]),(12,[(6,.one (.int .i64))])]⟩
def g116(c:Y97):Sem [.one (.ptr),.one (.int .u64),.one (.int .u64),.one (.ptr)]:=λx K Kp w=>c x.1 x.2.1 x.2.2.1 x.2.2.2.1 (λr1 w'=>K (.int .i64 r1) w') w
def s285:=mk 285 g116 (F.DG env) [s291,oN,tX] (T0.DG env) func285 call285
def s252:=mk 252 sT (F.CV env) [s285] (T0.CV env) func252 call252
def s286:=HY 286 g52 (F.Mx env) func286 call286
def s253:=mk 253 xZ (F.GV env) [s286] (T0.GV env) func253 call253
noncomputable def C208:Entry:=JU (xZ (F.CW env))
def uP:CG 208 (xZ (F.CW env)):=NY 208 xZ (F.CW env) [s251,O8,s216,s252,s253] (T0.CW env) func208 call208
noncomputable def uQ:LG:=λargs pv w K=>unArgs [.one (.ptr),.one (.ptr),.one (.ptr)] args.toList λx=>F.B9 env x.1 x.2.1 x.2.2.1 (pv.getD .nilIface) (λw'=>K pv.isSome w') w
noncomputable def fX:Code:=(Tryz.f205.body).getD .skip
def oO:QI:={loops:=[],MQ:=[]}
noncomputable def fY:Code:=((recOf fX).map (·.2)).getD .skip
def AA6(x:Fo [.one (.ptr),.one (.ptr),.one (.ptr)])(v:Value)(K:World->Prop)(w:World):F.B9 env x.1 x.2.1 x.2.2.1 v K w=
 ev Tryz.prog (tabC []) (ground Tryz.prog) oO fY (finQ Tryz.prog Tryz.f205 (λ_ w'=>K w') EW) ((FZ (mkArgs [.one (.ptr),.one (.ptr),.one (.ptr)] x)).put 6 v) w:=by kernel_rfl
def oP:HZ Tryz.prog 205 uQ:=
 Rk (T:=[]) (A:=oO) (fn:=Tryz.f205) (c:=fX) (y:=fY) (d:=6) (l:=[.one (.ptr),.one (.ptr),.one (.ptr)]) (F:=λ(x:Fo [.one (.ptr),.one (.ptr),.one (.ptr)]) v K w=>F.B9 env x.1 x.2.1 x.2.2.1 v K w) IE mixed Tryz.func205 Tryz.call205 (by kernel_rfl) (by kernel_rfl) (by kernel_rfl) (by kernel_rfl) (by kernel_rfl) AA6
noncomputable def C156:Entry:=λargs w K Kp=>unArgs [.one (.ptr),.one (.int .i64),.one (.bool)] args.toList λx=>F.BZ env x.1 x.2.1 x.2.2.1 (λr1 a d w'=>K (.tuple ⟨[.int .i64 r1,.bool a,.int .i64 d]⟩) w') w
noncomputable def XC:Code:=(Tryz.f156.body).getD .skip
def bH:QI:={loops:=[],MQ:=[(13,[(59,.one (.bool))]),(16,[])]}
def uR(e: ∀(a0:(Option Addr)) (a1:Int) (K:(Option Addr)->Int->Int->Int->Int->Bool->Int->Int->Int->Bool->Bool->Int->World->Prop) (w:World),Prop)(a: ∀(a0:(Option Addr)) (a1:(Option Addr)) (aH:Int) (aI:Int) (aJ:Int) (aK:Int) (aL:Bool) (aM:Int) (aN:Int) (aO:Int) (aP:Bool) (aQ:Bool) (K:World->Prop) (Kp:Value->World->Prop) (w:World),Prop)(u: ∀(a0:(Option Addr)) (K:AW->Int->World->Prop) (w:World),Prop)(v: ∀(a0:(Option Addr)) (K:Int->Int->Int->Int->Bool->Int->Int->Int->Bool->Bool->World->Prop) (w:World),Prop)(m: ∀(a0:(Option Addr)) (a1:Int) (K:Int->World->Prop) (w:World),Prop)(d: ∀(a0:(Option Addr)) (a1:Int) (a2:Bool) (K:Int->World->Prop) (w:World),Prop)(x:Fo [.one (.ptr),.one (.int .i64),.one (.bool)])(K:Value->World->Prop)(w:World):T0.BZ env e a u v m d x.1 x.2.1 x.2.2.1 (λr1 O T w'=>K (.tuple ⟨[.int .i64 r1,.bool O,.int .i64 T]⟩) w') w=
 evD Tryz.prog (tabC [(204,λargs w K Kp=>unArgs [.one (.ptr),.one (.int .i64)] args.toList λx=>e x.1 x.2.1 (λr1 O T r4 r5 r6 r7 r8 r9 J Y aA w'=>K (.tuple ⟨[.pointer r1,.agg ⟨[.int .u64 O,.int .i64 T,.int .i64 r4,.int .i64 r5,.bool r6,.int .i64 r7,.int .i64 r8,.int .i64 r9,.bool J,.bool Y]⟩,.int .i64 aA]⟩) w') w),(206,λargs w K Kp=>unArgs [.one (.ptr),.one (.ptr),.agg [.int .u64,.int .i64,.int .i64,.int .i64,.bool,.int .i64,.int .i64,.int .i64,.bool,.bool]] args.toList λx=>a x.1 x.2.1 x.2.2.1.1 x.2.2.1.2.1 x.2.2.1.2.2.1 x.2.2.1.2.2.2.1 x.2.2.1.2.2.2.2.1 x.2.2.1.2.2.2.2.2.1 x.2.2.1.2.2.2.2.2.2.1 x.2.2.1.2.2.2.2.2.2.2.1 x.2.2.1.2.2.2.2.2.2.2.2.1 x.2.2.1.2.2.2.2.2.2.2.2.2.1 (λw'=>K (.tuple ⟨[]⟩) w') Kp w),(207,λargs w K Kp=>unArgs [.one (.ptr)] args.toList λx=>u x.1 (λr1 O w'=>K (.tuple ⟨[.slice r1.base r1.len r1.cap,.int .i64 O]⟩) w') w),(26,λargs w K Kp=>unArgs [.one (.ptr)] args.toList λx=>v x.1 (λr1 O T r4 r5 r6 r7 r8 r9 J w'=>K (.agg ⟨[.int .u64 r1,.int .i64 O,.int .i64 T,.int .i64 r4,.bool r5,.int .i64 r6,.int .i64 r7,.int .i64 r8,.bool r9,.bool J]⟩) w') w),(208,λargs w K Kp=>unArgs [.one (.ptr),.one (.int .i64)] args.toList λx=>m x.1 x.2.1 (λr1 w'=>K (.int .i64 r1) w') w),(161,λargs w K Kp=>unArgs [.one (.ptr),.one (.int .i64),.one (.bool)] args.toList λx=>d x.1 x.2.1 x.2.2.1 (λr1 w'=>K (.int .i64 r1) w') w)]) (ground Tryz.prog) bH (finQ Tryz.prog Tryz.f156 K EW) (finD Tryz.prog Tryz.f156 (tabD [(205,uQ)]) K EW) XC (FZ (mkArgs [.one (.ptr),.one (.int .i64),.one (.bool)] x)) w:=by kernel_rfl
def AA7(x:Fo [.one (.ptr),.one (.int .i64),.one (.bool)])(K:Value->World->Prop)(w:World):F.BZ env x.1 x.2.1 x.2.2.1 (λr1 a d w'=>K (.tuple ⟨[.int .i64 r1,.bool a,.int .i64 d]⟩) w') w=
 evD Tryz.prog (tabC [(204,C204),(206,C206),(207,C207),(26,C26),(208,C208),(161,C161)]) (ground Tryz.prog) bH (finQ Tryz.prog Tryz.f156 K EW) (finD Tryz.prog Tryz.f156 (tabD [(205,uQ)]) K EW) XC (FZ (mkArgs [.one (.ptr),.one (.int .i64),.one (.bool)] x)) w:=uR (F.BC env) (F.A2 env) (F.CU env) (F.Ax env) (F.CW env) (F.BD env) x K w
def uS:HK Tryz.prog 156 C156:=
 JY (T:=[(204,C204),(206,C206),(207,C207),(26,C26),(208,C208),(161,C161)]) (TD:=[(205,uQ)]) (A:=bH) (fn:=Tryz.f156) (c:=XC) (BP fV (BP uN (BP uO (BP oD (BP uP (BP fW IE)))))) (LH oP MR) mixed Tryz.func156 Tryz.call156 (by kernel_rfl) (by kernel_rfl) (by kernel_rfl) AA7
def g117(c:Y99):Sem [.one (.ptr),.one (.ptr),.one (.bool)]:=λx K Kp w=>c x.1 x.2.1 x.2.2.1 (λw'=>K (.tuple ⟨[]⟩) w') Kp w
def g118(c:Y98):Sem [.one (.ptr),.one (.int .i64),.one (.bool)]:=λx K Kp w=>c x.1 x.2.1 x.2.2.1 (λr1 a d w'=>K (.tuple ⟨[.int .i64 r1,.bool a,.int .i64 d]⟩) w') w
def AA8:Slot:=⟨156,_,λc=>JU (g118 c),F.BZ env,uS.any⟩
def tR:=mk 112 g117 (F.Ga env) [AA8] (T0.Ga env) func112 call112
def g119(c:jO):Sem [.one (.ptr),.one (.int .i64),.one (.bool),.one (.bool),.one (.bool)]:=λx K Kp w=>c x.1 x.2.1 x.2.2.1 x.2.2.2.1 x.2.2.2.2.1 (λr1 a w'=>K (.tuple ⟨[.int .i64 r1,.bool a]⟩) w') w
def AA9:=mk 113 g119 (F.Da env) [s155] (T0.Da env) func113 call113
def oQ:CG 66 (QJ (F.FT env)):=NY 66 QJ (F.FT env) [AA9,jQ,uL] (T0.FT env) func66 call66 ⟨[(6,[(55,.one (.int .i64))])],[]⟩
def s115:=HY 115 XB (F.N4 env) func115 call115
def bI:CG 68 (QJ (F.Ek env)):=NY 68 QJ (F.Ek env) [s86] (T0.Ek env) func68 call68 ⟨[],[(3,[(30,.one (.bool))])]⟩
def jR:Slot:=⟨68,_,λc=>JU (QJ c),F.Ek env,bI.any⟩
def g120(c:tK):Sem [.one (.int .u64),.one (.int .u64),.one (.int .i64),.one (.bool)]:=λx K Kp w=>c x.1 x.2.1 x.2.2.1 x.2.2.2.1 (λr1 a w'=>K (.tuple ⟨[.pointer r1,.int .i64 a]⟩) w') w
def s158:=mk 158 g120 (F.KV env) [zX] (T0.KV env) func158 call158 ⟨[],[(3,[(56,.one (.bool))])]⟩
def s233:=HY 233 g81 (F.Qn env) func233 call233
def s273:=HY 273 xV (F.Hi env) func273 call273
def g121(c:jN):Sem [.one (.ptr),.one (.int .u64)]:=λx K Kp w=>c x.1 x.2.1 (λr1 a w'=>K (.tuple ⟨[.int .u64 r1,.bool a]⟩) w') w
def s260:=mk 260 g121 (F.CX env) [s273] (T0.CX env) func260 call260 ⟨[(4,[(15,.one (.int .i64))])],[]⟩
def g122(c:aA):Sem [.one (.ptr),.one (.int .u64),.one (.int .u64)]:=λx K Kp w=>c x.1 x.2.1 x.2.2.1 (λr1 a w'=>K (.tuple ⟨[.int .u64 r1,.int .i64 a]⟩) w') w
def s261:=mk 261 g122 (F.CY env) [s291,Yk,AA5,tX] (T0.CY env) func261 call261
def g123(c:aW):Sem [.one (.ptr),.one (.ptr)]:=λx K Kp w=>c x.1 x.2.1 (λr1 w'=>K (.int .i64 r1) w') w
def s255:=mk 255 g123 (F.DO env) [s260,zS,s261] (T0.DO env) func255 call255 ⟨[(8,[(28,.one (.int .u64))])],[]⟩
def g124(c:sN):Sem [.one (.int .u64),.one (.int .i64)]:=λx K Kp w=>c x.1 x.2.1 (λr1 a w'=>K (.tuple ⟨[.int .i64 r1,.bool a]⟩) w') w
def s287:=mk 287 g124 (F.HC env) [AA0] (T0.HC env) func287 call287 ⟨[(2,[(0,.one (.int .u64)),(1,.one (.int .i64)),(6,.one (.int .i64))])],[]⟩
def s288:=HY 288 g62 (F.F2 env) func288 call288
def g125(c:W5):Sem [.one (.ptr),.one (.int .i64)]:=λx K Kp w=>c x.1 x.2.1 (λr1 a d w'=>K (.tuple ⟨[.int .u64 r1,.int .i64 a,.int .i64 d]⟩) w') w
def s256:=mk 256 g125 (F.CQ env) [s287,s288] (T0.CQ env) func256 call256 ⟨[],[(2,[(16,.one (.bool))])]⟩
def uT(c:W5):Sem [.one (.ptr),.one (.int .u64)]:=λx K Kp w=>c x.1 x.2.1 (λr1 a d w'=>K (.tuple ⟨[.int .u64 r1,.int .u64 a,.int .i64 d]⟩) w') w
noncomputable def C211:Entry:=JU (uT (F.Ay env))
def fZ:CG 211 (uT (F.Ay env)):=NY 211 uT (F.Ay env) [s260,s261] (T0.Ay env) func211 call211
def s211:Slot:=⟨211,_,λc=>JU (uT c),F.Ay env,fZ.any⟩
def AAA(c:Ye):Sem [.one (.ptr),.one (.int .i64),.one (.int .u64)]:=λx K Kp w=>c x.1 x.2.1 x.2.2.1 (λr1 a w'=>K (.tuple ⟨[.int .u64 r1,.bool a]⟩) w') w
noncomputable def C209:Entry:=JU (AAA (F.Cz env))
def uU:CG 209 (AAA (F.Cz env)):=NY 209 AAA (F.Cz env) [s233,zS,s255,s256,s211] (T0.Cz env) func209 call209 ⟨[],[(2,[(20,.one (.bool))]),(5,[]),(8,[])]⟩
def g128(c:tL):Sem [.one (.ptr)]:=λx K Kp w=>c x.1 (λr1 a w'=>K (.tuple ⟨[.bool r1,.bool a]⟩) w') w
def s265:=HY 265 g128 (F.Hj env) func265 call265
def g129(c:fL):Sem [.one (.ptr)]:=λx K Kp w=>c x.1 (λr1 a w'=>K (.tuple ⟨[.int .u64 r1,.bool a]⟩) w') w
def s267:=HY 267 g129 (F.EB env) func267 call267
def s289:=mk 289 g45 (F.D6 env) [Yk] (T0.D6 env) func289 call289
def g130(c:Ye):Sem [.one (.ptr),.one (.int .u64),.one (.int .u64)]:=λx K Kp w=>c x.1 x.2.1 x.2.2.1 (λr1 a w'=>K (.tuple ⟨[.int .u64 r1,.bool a]⟩) w') w
def s290:=mk 290 g130 (F.Db env) [s273,s289] (T0.Db env) func290 call290 ⟨[(5,[(8,.one (.int .u64)),(24,.one (.int .i64))])],[(9,[]),(11,[(8,.one (.int .u64))])]⟩
def s257:=mk 257 g122 (F.Dt env) [s265,s267,s289,s290,oN] (T0.Dt env) func257 call257 ⟨[(9,[(10,.one (.int .u64)),(11,.one (.bool)),(52,.one (.int .i64))])],[(2,[(24,.one (.bool))]),(8,[(11,.one (.bool))])]⟩
def s258:=mk 258 sT (F.C8 env) [Yk,oN,tX] (T0.C8 env) func258 call258 ⟨[],[(2,[(24,.one (.bool))])]⟩
def s259:=mk 259 bG (F.Ev env) [oN] (T0.Ev env) func259 call259
noncomputable def C210:Entry:=JU (uC (F.CZ env))
def uV:CG 210 (uC (F.CZ env)):=NY 210 uC (F.CZ env) [s257,s258,s259] (T0.CZ env) func210 call210
def s264:=HY 264 g92 (F.My env) func264 call264
def s266:=mk 266 AA2 (F.Bd env) [oE] (T0.Bd env) func266 call266 ⟨[(3,[(7,.one (.sl)),(8,.one (.int .i64))])],[]⟩
noncomputable def C214:Entry:=JU (sT (F.CD env))
def uW:CG 214 (sT (F.CD env)):=NY 214 sT (F.CD env) [s264,Yk,s265,s266,s267,AA5,oN] (T0.CD env) func214 call214 ⟨[(12,[(56,.one (.int .i64))]),(15,[(12,.one (.int .u64))])],[(22,[])]⟩
def s262:=mk 262 AA2 (F.Fu env) [s266] (T0.Fu env) func262 call262
def s263:=mk 263 sT (F.C9 env) [s285] (T0.C9 env) func263 call263
noncomputable def C213:Entry:=JU (bG (F.Ca env))
def uX:CG 213 (bG (F.Ca env)):=NY 213 bG (F.Ca env) [s262,s263,s252] (T0.Ca env) func213 call213 ⟨[(2,[(6,.one (.int .u64)),(20,.one (.int .i64))])],[]⟩
noncomputable def XD:Code:=(Tryz.f212.body).getD .skip
def bJ:QI:={loops:=[],MQ:=[]}
def uY(a: ∀(a0:(Option Addr)) (a1:Int) (a2:Int) (K:World->Prop) (w:World),Prop)(x:Fo [.one (.ptr),.one (.ptr),.one (.ptr),.one (.ptr)])(K Kp:Value->World->Prop)(w:World):T0.A3 env a x.1 x.2.1 x.2.2.1 x.2.2.2.1 (λw'=>K (.tuple ⟨[]⟩) w') w=
 ev Tryz.prog (tabC [(213,λargs w K Kp=>unArgs [.one (.ptr),.one (.int .u64),.one (.int .u64)] args.toList λx=>a x.1 x.2.1 x.2.2.1 (λw'=>K (.tuple ⟨[]⟩) w') w)]) (ground Tryz.prog) bJ XD (finQ Tryz.prog Tryz.f212 K Kp) (FZ (mkArgs [.one (.ptr),.one (.ptr),.one (.ptr),.one (.ptr)] x)) w:=by kernel_rfl
def AAB(x:Fo [.one (.ptr),.one (.ptr),.one (.ptr),.one (.ptr)])(K Kp:Value->World->Prop)(w:World):F.A3 env x.1 x.2.1 x.2.2.1 x.2.2.2.1 (λw'=>K (.tuple ⟨[]⟩) w') w=
 ev Tryz.prog (tabC [(213,C213)]) (ground Tryz.prog) bJ XD (finQ Tryz.prog Tryz.f212 K Kp) (FZ (mkArgs [.one (.ptr),.one (.ptr),.one (.ptr),.one (.ptr)] x)) w:=uY (F.Ca env) x K Kp w
noncomputable def uZ:LG:=λargs pv w K=>unArgs [.one (.ptr),.one (.ptr),.one (.ptr),.one (.ptr)] args.toList λx=>F.A3 env x.1 x.2.1 x.2.2.1 x.2.2.2.1 (λw'=>K false w') w
def oR:HZ Tryz.prog 212 uZ:=
 YQ (T:=[(213,C213)]) (A:=bJ) (fn:=Tryz.f212) (c:=XD) (l:=[.one (.ptr),.one (.ptr),.one (.ptr),.one (.ptr)]) (F:=λ(x:Fo [.one (.ptr),.one (.ptr),.one (.ptr),.one (.ptr)]) K w=>F.A3 env x.1 x.2.1 x.2.2.1 x.2.2.2.1 K w) (BP uX IE) mixed Tryz.func212 Tryz.call212 (by kernel_rfl) (by kernel_rfl) (by kernel_rfl) (λx K w=>AAB x (λ_ w'=>K w') EW w)
end
end Go.Sh

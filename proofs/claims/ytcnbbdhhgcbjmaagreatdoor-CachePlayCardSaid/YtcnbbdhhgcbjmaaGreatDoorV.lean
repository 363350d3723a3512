/- Each shallow form is what the code of its function comes to, piece 3. No further condition. -/
import Derived.Test.YtcnbbdhhgcbjmaaGreatDoorU
import Derived.Test.YtcnbbdhhgcbjmaaGreatDoorProg
import Derived.KernelRfl
set_option linter.all false
set_option maxRecDepth 100000
set_option maxHeartbeats 4000000
namespace Go.Sh
open Go.Proofs Go.Proofs.Tryz
noncomputable section
def s173:=HT 173 z4 (F.NZ env) func173 call173
def uK:=mk 131 iY (F.Gw env) [s173] (T0.Gw env) func131 call131
noncomputable def C69:Entry:=Sn (iY (F.DI env))
def z9:Ir 69 (iY (F.DI env)):=Xy 69 iY (F.DI env) [zT,s68,uJ,uP,uK] (T0.DI env) func69 call69
noncomputable def D65:NO:=λargs j w K=>unArgs [.one (.ptr),.one (.ptr),.one (.ptr)] args.toList λx=>F.Cq env x.1 x.2.1 x.2.2.1 (j.getD .nilIface) (λw'=>K j.isSome w') w
noncomputable def pQ:Code:=(Tryz.f65.body).getD .skip
def xZ:Tj:={loops:=[],UK:=[]}
noncomputable def pR:Code:=((recOf pQ).map (·.2)).getD .skip
def tie65(x:KJ [.one (.ptr),.one (.ptr),.one (.ptr)])(v:Value)(K:World->Prop)(w:World):F.Cq env x.1 x.2.1 x.2.2.1 v K w=
 ev Tryz.prog (tabC []) (ground Tryz.prog) xZ pR (finQ Tryz.prog Tryz.f65 (λ_ w'=>K w') Lp) ((JC (mkArgs [.one (.ptr),.one (.ptr),.one (.ptr)] x)).put 6 v) w:=by kernel_rfl
def vB:JL Tryz.prog 65 D65:=
 kX (T:=[]) (A:=xZ) (fn:=Tryz.f65) (c:=pQ) (y:=pR) (d:=6) (l:=[.one (.ptr),.one (.ptr),.one (.ptr)]) (F:=λ(x:KJ [.one (.ptr),.one (.ptr),.one (.ptr)]) v K w=>F.Cq env x.1 x.2.1 x.2.2.1 v K w) OV mixed Tryz.func65 Tryz.call65 (by kernel_rfl) (by kernel_rfl) (by kernel_rfl) (by kernel_rfl) (by kernel_rfl) tie65
noncomputable def C19:Entry:=λargs w K Kp=>unArgs [.one (.ptr),.one (.int .i64),.one (.bool)] args.toList λx=>F.BR env x.1 x.2.1 x.2.2.1 (λj r2 v w'=>K (.tuple ⟨[.int .i64 j,.bool r2,.int .i64 v]⟩) w') w
noncomputable def eK:Code:=(Tryz.f19.body).getD .skip
def pS:Tj:={loops:=[],UK:=[(13,[(59,.one (.bool))]),(16,[])]}
def AA0(y: ∀(a0:(Option Addr)) (a1:Int) (K:(Option Addr)->Int->Int->Int->Int->Bool->Int->Int->Int->Bool->Bool->Int->World->Prop) (w:World),Prop)(j: ∀(a0:(Option Addr)) (a1:(Option Addr)) (aK:Int) (aL:Int) (aM:Int) (aN:Int) (aO:Bool) (aP:Int) (aQ:Int) (aR:Int) (aS:Bool) (aT:Bool) (K:World->Prop) (Kp:Value->World->Prop) (w:World),Prop)(O: ∀(a0:(Option Addr)) (K:Ac->Int->World->Prop) (w:World),Prop)(T: ∀(a0:(Option Addr)) (K:Int->Int->Int->Int->Bool->Int->Int->Int->Bool->Bool->World->Prop) (w:World),Prop)(J: ∀(a0:(Option Addr)) (a1:Int) (K:Int->World->Prop) (w:World),Prop)(v: ∀(a0:(Option Addr)) (a1:Int) (a2:Bool) (K:Int->World->Prop) (w:World),Prop)(x:KJ [.one (.ptr),.one (.int .i64),.one (.bool)])(K:Value->World->Prop)(w:World):T0.BR env y j O T J v x.1 x.2.1 x.2.2.1 (λY r2 r3 w'=>K (.tuple ⟨[.int .i64 Y,.bool r2,.int .i64 r3]⟩) w') w=
 evD Tryz.prog (tabC [(64,λargs w K Kp=>unArgs [.one (.ptr),.one (.int .i64)] args.toList λx=>y x.1 x.2.1 (λY r2 r3 r4 r5 r6 r7 r8 r9 aA aC aD w'=>K (.tuple ⟨[.pointer Y,.agg ⟨[.int .u64 r2,.int .i64 r3,.int .i64 r4,.int .i64 r5,.bool r6,.int .i64 r7,.int .i64 r8,.int .i64 r9,.bool aA,.bool aC]⟩,.int .i64 aD]⟩) w') w),(66,λargs w K Kp=>unArgs [.one (.ptr),.one (.ptr),.agg [.int .u64,.int .i64,.int .i64,.int .i64,.bool,.int .i64,.int .i64,.int .i64,.bool,.bool]] args.toList λx=>j x.1 x.2.1 x.2.2.1.1 x.2.2.1.2.1 x.2.2.1.2.2.1 x.2.2.1.2.2.2.1 x.2.2.1.2.2.2.2.1 x.2.2.1.2.2.2.2.2.1 x.2.2.1.2.2.2.2.2.2.1 x.2.2.1.2.2.2.2.2.2.2.1 x.2.2.1.2.2.2.2.2.2.2.2.1 x.2.2.1.2.2.2.2.2.2.2.2.2.1 (λw'=>K (.tuple ⟨[]⟩) w') Kp w),(67,λargs w K Kp=>unArgs [.one (.ptr)] args.toList λx=>O x.1 (λY r2 w'=>K (.tuple ⟨[.slice Y.base Y.len Y.cap,.int .i64 r2]⟩) w') w),(68,λargs w K Kp=>unArgs [.one (.ptr)] args.toList λx=>T x.1 (λY r2 r3 r4 r5 r6 r7 r8 r9 aA w'=>K (.agg ⟨[.int .u64 Y,.int .i64 r2,.int .i64 r3,.int .i64 r4,.bool r5,.int .i64 r6,.int .i64 r7,.int .i64 r8,.bool r9,.bool aA]⟩) w') w),(69,λargs w K Kp=>unArgs [.one (.ptr),.one (.int .i64)] args.toList λx=>J x.1 x.2.1 (λY w'=>K (.int .i64 Y) w') w),(70,λargs w K Kp=>unArgs [.one (.ptr),.one (.int .i64),.one (.bool)] args.toList λx=>v x.1 x.2.1 x.2.2.1 (λY w'=>K (.int .i64 Y) w') w)]) (ground Tryz.prog) pS (finQ Tryz.prog Tryz.f19 K Lp) (finD Tryz.prog Tryz.f19 (tabD [(65,D65)]) K Lp) eK (JC (mkArgs [.one (.ptr),.one (.int .i64),.one (.bool)] x)) w:=by kernel_rfl
def tie19(x:KJ [.one (.ptr),.one (.int .i64),.one (.bool)])(K:Value->World->Prop)(w:World):F.BR env x.1 x.2.1 x.2.2.1 (λj r2 v w'=>K (.tuple ⟨[.int .i64 j,.bool r2,.int .i64 v]⟩) w') w=
 evD Tryz.prog (tabC [(64,C64),(66,C66),(67,C67),(68,C68),(69,C69),(70,C70)]) (ground Tryz.prog) pS (finQ Tryz.prog Tryz.f19 K Lp) (finD Tryz.prog Tryz.f19 (tabD [(65,D65)]) K Lp) eK (JC (mkArgs [.one (.ptr),.one (.int .i64),.one (.bool)] x)) w:=AA0 (F.BQ env) (F.BD env) (F.Ct env) (F.DG env) (F.DI env) (F.Bd env) x K w
def AA1:MK Tryz.prog 19 C19:=
 Qf (T:=[(64,C64),(66,C66),(67,C67),(68,C68),(69,C69),(70,C70)]) (TD:=[(65,D65)]) (A:=pS) (fn:=Tryz.f19) (c:=eK) (HD pM (HD z6 (HD pO (HD pL (HD z9 (HD pN OV)))))) (UP vB Wh) mixed Tryz.func19 Tryz.call19 (by kernel_rfl) (by kernel_rfl) (by kernel_rfl) tie19
def g82(c:y9):Sem [.one (.ptr),.one (.bool)]:=λx K Kp w=>c x.1 x.2.1 (λj w'=>K (.int .i64 j) w') w
def s110:=HT 110 g82 (F.Hv env) func110 call110 ⟨[(3,[(5,.one (.int .i64))])],[(4,[(14,.one (.bool))])]⟩
def s199:=HT 199 u9 (F.Hw env) func199 call199 ⟨[(2,[(12,.one (.int .i64))])],[(5,[(25,.one (.bool))])]⟩
def s160:=mk 160 u9 (F.GH env) [s199] (T0.GH env) func160 call160
def zF:=mk 111 u9 (F.GO env) [s160] (T0.GO env) func111 call111
def g83(c:dE):Sem [.one (.int .u32),.one (.int .u32)]:=λx K Kp w=>c x.1 x.2.1 (λj w'=>K (.int .u32 j) w') w
def s161:=HT 161 g83 (F.Ul env) func161 call161
def g84(c:eF):Sem [.one (.ptr),.one (.int .u64)]:=λx K Kp w=>c x.1 x.2.1 (λj r2 w'=>K (.tuple ⟨[.int .i64 j,.int .i64 r2]⟩) w') w
def s112:=mk 112 g84 (F.E9 env) [s161] (T0.E9 env) func112 call112 ⟨[],[(2,[(36,.one (.bool))])]⟩
def zQ:=mk 114 pK (F.Fj env) [s110] (T0.Fj env) func114 call114 ⟨[(5,[]),(9,[(25,.one (.int .i64))])],[(6,[(18,.one (.bool))])]⟩
def g85(c:zA):Sem [.one (.ptr),.one (.sl)]:=λx K Kp w=>c x.1 x.2.1 (λj w'=>K (.int .i64 j) w') w
def s58:=mk 58 g85 (F.B4 env) [s110,zF,s64,s112,s113,zQ] (T0.B4 env) func58 call58 ⟨[(4,[(20,.one (.int .i64))])],[]⟩
def s115:=HT 115 g82 (F.Ey env) func115 call115 ⟨[(3,[(5,.one (.int .i64)),(6,.one (.int .i64))])],[]⟩
def zR:=HT 116 u9 (F.HB env) func116 call116 ⟨[(2,[(5,.one (.int .i64))])],[(6,[(44,.one (.bool))])]⟩
def zG:=HT 117 g84 (F.GI env) func117 call117 ⟨[],[(3,[(31,.one (.bool))])]⟩
def pD:=mk 118 pK (F.Co env) [s115] (T0.Co env) func118 call118 ⟨[(4,[(3,.one (.int .i64))])],[]⟩
def s59:=mk 59 g85 (F.A3 env) [s115,zR,s71,zG,s74,pD] (T0.A3 env) func59 call59 ⟨[(4,[(5,.one (.int .i64))])],[]⟩
def g86(c:Y66):Sem [.one (.ptr),.one (.ptr),.one (.int .i64)]:=λx K Kp w=>c x.1 x.2.1 x.2.2.1 (λj w'=>K (.bool j) w') w
def FN:Slot:=⟨19,_,λc=>Sn (g45 c),F.BR env,AA1.any⟩
def tK:=mk 15 g86 (F.EF env) [oR,Rp,Tq,uU,Wp,FN,Uj,s58,s59] (T0.EF env) func15 call15 ⟨[(3,[(7,.one (.sl)),(8,.one (.int .i64))]),(7,[(7,.one (.sl)),(10,.one (.int .i64))]),(12,[])],[(10,[(76,.one (.bool))]),(15,[(108,.one (.bool))]),(20,[(141,.one (.bool))])]⟩
def s21:=HT 21 g30 (F.Hh env) func21 call21
def lG:=HT 22 g30 (F.FV env) func22 call22
def uM:=HT 141 g33 (F.Hx env) func141 call141
def s81:=mk 81 g33 (F.CH env) [uM] (T0.CH env) func81 call81
def pE:=HT 142 g49 (F.FQ env) func142 call142
def g87(c:tJ):Sem [.one (.ptr)]:=λx K Kp w=>c x.1 (λj r2 v w'=>K (.tuple ⟨[.int .u64 j,.int .u64 r2,.int .u64 v]⟩) w') w
def s82:=mk 82 g87 (F.Dc env) [pE] (T0.Dc env) func82 call82
def s83:=mk 83 g33 (F.FA env) [uM] (T0.FA env) func83 call83
def zW:=mk 26 g87 (F.Ee env) [s81,s82,s83] (T0.Ee env) func26 call26 ⟨[(3,[(5,.one (.int .u64)),(20,.one (.int .i64))]),(6,[(5,.one (.int .u64)),(10,.one (.int .u64))])],[]⟩
def g88(c:PM):Sem [.one (.ptr),.one (.int .i64),.one (.int .i64)]:=λx K Kp w=>c x.1 x.2.1 x.2.2.1 (λj w'=>K (.int .i64 j) w') w
def s178:=mk 178 g88 (F.DB env) [s205] (T0.DB env) func178 call178 ⟨[(5,[(7,.one (.int .i64)),(8,.one (.int .i64))])],[]⟩
def s143:=mk 143 pK (F.Bo env) [s178] (T0.Bo env) func143 call143
def s84:=mk 84 g33 (F.BX env) [s143] (T0.BX env) func84 call84 ⟨[(3,[(3,.one (.int .i64)),(4,.one (.int .i64))])],[]⟩
def zC:=mk 27 g87 (F.CX env) [s84] (T0.CX env) func27 call27 ⟨[(3,[(5,.one (.int .u64)),(7,.one (.int .i64))]),(7,[(6,.one (.int .u64)),(8,.one (.int .i64))]),(10,[(6,.one (.int .u64)),(9,.one (.int .i64))])],[(13,[(64,.one (.bool))])]⟩
def g89(c:Y68):Sem []:=λx K Kp w=>c (λj w'=>K (.bool j) w') w
def uV:=mk 28 g89 (F.EG env) [s4,s8,s9,dG,lK] (T0.EG env) func28 call28
def g90(c:Y69):Sem [.agg [.sl,.sl,.sl],.one (.sl)]:=λx K Kp w=>c x.1.1 x.1.2.1 x.1.2.2.1 x.2.1 (λj w'=>K (.bool j) w') w
def yA:Ir 3 (g90 (F.BN env)):=Xy 3 g90 (F.BN env) [s4,s7,s6,s5,s8,s9,FJ,dG,LH,MR,WB,tK,Tq,uU,Wp,FN,Uj,s21,lG,lK,OH,dH,zW,zC,uV] (T0.BN env) func3 call3 ⟨[(12,[(9,.one (.int .i64))]),(34,[(21,.one (.int .i64))]),(55,[(32,.one (.int .i64))])],[(2,[(59,.one (.bool))]),(10,[(91,.one (.bool))]),(17,[(10,.one (.int .i64))]),(22,[(153,.one (.bool))]),(27,[(196,.one (.bool))]),(45,[(259,.one (.bool))]),(54,[])]⟩
def s3:Slot:=⟨3,_,λc=>Sn (g90 c),F.BN env,yA.any⟩
def s179:=HT 179 g26 (F.Qw env) func179 call179
def g91(c:dE):Sem [.one (.int .i64),.one (.int .i64)]:=λx K Kp w=>c x.1 x.2.1 (λj w'=>K (.int .i64 j) w') w
def zM:=mk 180 g91 (F.Iq env) [s179] (T0.Iq env) func180 call180
def s181:=HT 181 g91 (F.MU env) func181 call181 ⟨[(2,[(5,.one (.int .i64))])],[]⟩
def s182:=HT 182 g27 (F.PO env) func182 call182
def s148:=mk 148 g28 (F.Jj env) [s179,zM,s181,s182] (T0.Jj env) func148 call148 ⟨[(6,[(6,.one (.sl)),(7,.one (.int .i64)),(8,.one (.int .i64))]),(15,[(107,.one (.int .i64))])],[(2,[(42,.one (.bool))]),(12,[(91,.one (.bool))]),(22,[])]⟩
def g92(c:zB):Sem []:=λx K Kp w=>c (λj w'=>K (.slice j.base j.len j.cap) w') w
def lH:=mk 96 g92 (F.Fk env) [s148] (T0.Fk env) func96 call96
def s41:=mk 41 g29 (F.HX env) [lH] (T0.HX env) func41 call41
noncomputable def C95:Entry:=λargs w K Kp=>unArgs [.one (.int .u64),.one (.int .u64),.one (.int .u64)] args.toList λx=>F.Jb env x.1 x.2.1 x.2.2.1 (λj r2 w'=>K (.tuple ⟨[.int .u64 j,.int .u64 r2]⟩) w') w
def AA2:GB Tryz.prog 95 C95:=
 ZU Tryz.func95 (by kernel_rfl) (by kernel_rfl) (by kernel_rfl) (e:=add64Entry) (by kernel_rfl) (kZ rfl)
def g93(c:Y71):Sem [.one (.int .u64),.one (.int .u64),.one (.int .u64)]:=λx K Kp w=>c x.1 x.2.1 x.2.2.1 (λj r2 w'=>K (.tuple ⟨[.int .u64 j,.int .u64 r2]⟩) w') w
def s95:Slot:=⟨95,_,λc=>Sn (g93 c),F.Jb env,AA2⟩
def dI:=mk 40 g30 (F.DC env) [s95] (T0.DC env) func40 call40 ⟨[],[(3,[(4,.one (.int .u64))])]⟩
def s149:=mk 149 g32 (F.HY env) [s183] (T0.HY env) func149 call149
def s97:=mk 97 g33 (F.Dq env) [s149] (T0.Dq env) func97 call97
def Lb:=mk 42 pK (F.DR env) [s97,uU,FN] (T0.DR env) func42 call42 ⟨[(1,[])],[]⟩
def s43:=mk 43 g63 (F.DS env) [lH] (T0.DS env) func43 call43 ⟨[(4,[(8,.one (.int .i64)),(9,.one (.int .i64)),(33,.one (.int .i64))])],[(2,[(22,.one (.bool))]),(8,[(51,.one (.bool))])]⟩
def g94(c:Y72):Sem [.one (.ptr),.one (.ptr),.one (.ptr)]:=λx K Kp w=>c x.1 x.2.1 x.2.2.1 (λj w'=>K (.int .i64 j) w') w
def eL:Ir 38 (g94 (F.CJ env)):=Xy 38 g94 (F.CJ env) [s39,Tq,s41,dI,Lb,s43,uX] (T0.CJ env) func38 call38
def s38:Slot:=⟨38,_,λc=>Sn (g94 c),F.CJ env,eL.any⟩
def uR:=HT 150 g5 (F.GZ env) func150 call150
def s151:=mk 151 g46 (F.Ez env) [s61] (T0.Ez env) func151 call151
def tN(c:uG):Sem [.one (.ptr),.agg [.int .i64,.int .i64,.bool]]:=λx K Kp w=>c x.1 x.2.1.1 x.2.1.2.1 x.2.1.2.2.1 (λj r2 v w'=>K (.tuple ⟨[.int .i64 j,.bool r2,.int .i64 v]⟩) w') w
def pT:Ir 98 (tN (F.CA env)):=Xy 98 tN (F.CA env) [uR,s151] (T0.CA env) func98 call98
def s184:=HT 184 g49 (F.KW env) func184 call184
def g96(c:Y74):Sem [.one (.ptr),.agg [.int .i64,.int .i64,.bool],.one (.bool)]:=λx K Kp w=>c x.1 x.2.1.1 x.2.1.2.1 x.2.1.2.2.1 x.2.2.1 (λj r2 v w'=>K (.tuple ⟨[.int .i64 j,.bool r2,.int .i64 v]⟩) w') w
def uS:=mk 152 g96 (F.Bf env) [uR,s151,FN,dH,s91,s184] (T0.Bf env) func152 call152 ⟨[(1,[])],[(9,[(61,.one (.bool))])]⟩
def eM:Ir 99 (tN (F.Bg env)):=Xy 99 tN (F.Bg env) [uS] (T0.Bg env) func99 call99
def s99:Slot:=⟨99,_,λc=>Sn (tN c),F.Bg env,eM.any⟩
def Xz:Ir 100 (tN (F.CY env)):=Xy 100 tN (F.CY env) [uS] (T0.CY env) func100 call100
def s100:Slot:=⟨100,_,λc=>Sn (tN c),F.CY env,Xz.any⟩
def s185:=mk 185 g48 (F.LK env) [lH] (T0.LK env) func185 call185 ⟨[],[(3,[(56,.one (.bool))])]⟩
def s224:=HT 224 g8 (F.Qx env) func224 call224
def g97(c:Y75):Sem [.one (.ptr)]:=λx K Kp w=>c x.1 (λj w'=>K (.slice j.base j.len j.cap) w') w
def s243:=HT 243 g97 (F.Hy env) func243 call243
def s230:=mk 230 g50 (F.DJ env) [s243] (T0.DJ env) func230 call230 ⟨[(4,[(15,.one (.int .i64))])],[]⟩
def s231:=mk 231 g52 (F.DK env) [s201,eJ,z8,lI] (T0.DK env) func231 call231
def s225:=mk 225 g53 (F.EH env) [s230,pE,s231] (T0.EH env) func225 call225 ⟨[(8,[(28,.one (.int .u64))])],[]⟩
def g98(c:Y76):Sem [.one (.int .u64),.one (.int .i64)]:=λx K Kp w=>c x.1 x.2.1 (λj r2 w'=>K (.tuple ⟨[.int .i64 j,.bool r2]⟩) w') w
def s239:=mk 239 g98 (F.HZ env) [z3] (T0.HZ env) func239 call239 ⟨[(2,[(0,.one (.int .u64)),(1,.one (.int .i64)),(6,.one (.int .i64))])],[]⟩
def s240:=HT 240 g12 (F.Gg env) func240 call240
def s226:=mk 226 g54 (F.DD env) [s239,s240] (T0.DD env) func226 call226 ⟨[],[(2,[(16,.one (.bool))])]⟩
noncomputable def C208:Entry:=Sn (g55 (F.A8 env))
def iZ:Ir 208 (g55 (F.A8 env)):=Xy 208 g55 (F.A8 env) [s230,s231] (T0.A8 env) func208 call208
def s208:Slot:=⟨208,_,λc=>Sn (g55 c),F.A8 env,iZ.any⟩
def g99(c:Yw):Sem [.one (.ptr),.one (.int .i64),.one (.int .u64)]:=λx K Kp w=>c x.1 x.2.1 x.2.2.1 (λj r2 w'=>K (.tuple ⟨[.int .u64 j,.bool r2]⟩) w') w
noncomputable def C206:Entry:=Sn (g99 (F.Dr env))
def vC:Ir 206 (g99 (F.Dr env)):=Xy 206 g99 (F.Dr env) [s224,pE,s225,s226,s208] (T0.Dr env) func206 call206 ⟨[],[(2,[(20,.one (.bool))]),(5,[]),(8,[])]⟩
def g100(c:Y77):Sem [.one (.ptr)]:=λx K Kp w=>c x.1 (λj r2 w'=>K (.tuple ⟨[.bool j,.bool r2]⟩) w') w
def s235:=HT 235 g100 (F.IA env) func235 call235
end
end Go.Sh

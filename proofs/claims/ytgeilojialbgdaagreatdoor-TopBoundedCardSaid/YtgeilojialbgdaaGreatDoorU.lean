/- Each shallow form is what the code of its function comes to, piece 2. No further condition. -/
import Derived.Test.YtgeilojialbgdaaGreatDoorT
import Derived.Test.YtgeilojialbgdaaGreatDoorProg
import Derived.KernelRfl
set_option linter.all false
set_option maxRecDepth 100000
set_option maxHeartbeats 4000000
namespace Go.Sh
open Go.Proofs Go.Proofs.Tryz
noncomputable section
def g53(c:Y51):Sem [ta]:=λx K Kp=>c x.1 (λr1=>K (.slice r1.base r1.len r1.cap))
def g54(c:Y50):Sem [tl,ta]:=λx K Kp=>c x.1 x.2.1 (λr1=>K (.slice r1.base r1.len r1.cap))
def s89:Slot:=⟨89,_,λc=>JJ (g54 c),F.Bd env,fits89.any⟩
def s47:=mk 47 g53 (F.Ca env) [s89] (T0.Ca env) func47 call47
def Um:=mk 23 wO (F.Dd env) [s48,s47] (T0.Dd env) func23 call23
def s8:=mk 8 wO (F.CG env) [Um] (T0.CG env) func8 call8
def g55(c:cE):Sem [tp,ti]:=λx K Kp=>c x.1 x.2.1 (λr1=>K (.bool r1))
def vN:=IL 52 g55 (F.ES env) func52 call52
def g56(c:Y53):Sem [tl,ti]:=λx K Kp=>c x.1 x.2.1 (λr1=>K (.bool r1))
def s53:=IL 53 g56 (F.Is env) func53 call53
def s27:=mk 27 g55 (F.DC env) [vN,s53] (T0.DC env) func27 call27
def g57(c:Wn):Sem [tp,ti]:=λx K Kp=>c x.1 x.2.1 (λr1 a=>K (.tuple ⟨[.int .u64 r1,.int .i64 a]⟩))
def Rq:=mk 28 g57 (F.Cd env) [vN] (T0.Cd env) func28 call28
def s9:=mk 9 wO (F.BM env) [pW,Yw,Nl,s27,Rq] (T0.BM env) func9 call9 ⟨[(3,[(3,tl),(17,ti)]),(8,[(3,tl),(8,ti)])],[]⟩
def g58(c:Y54):Sem [tp,ti]:=λx K Kp=>c x.1 x.2.1 (λr1 a e j=>K (.tuple ⟨[.agg ⟨[.int .u64 r1,.int .u64 a,.int .i64 e]⟩,.bool j]⟩))
def Lp:=IL 29 g58 (F.KL env) func29 call29 ⟨[],[(2,[(29,tb)])]⟩
def g59(c:Y55):Sem []:=λx K Kp=>c (λr1=>K (.bool r1))
def GM:=mk 10 g59 (F.Dr env) [vC,M6,s6,Lp,s9,Zf] (T0.Dr env) func10 call10 ⟨[],[(3,[(18,tb)])]⟩
def g60(c:Y56):Sem [ti,ti,tu,ti,tl]:=λx K Kp=>c x.1 x.2.1 x.2.2.1 x.2.2.2.1 x.2.2.2.2.1 (λr1=>K (.bool r1))
def fits3:C5 3 (g60 (F.BJ env)):=P7 3 g60 (F.BJ env) [s4,s5,s6,s7,s8,s9,GM] (T0.BJ env) func3 call3 ⟨[(8,[(12,ti),(13,ti)]),(11,[(14,ti)]),(16,[(12,ti),(15,tl)])],[(2,[(44,tb)]),(19,[(12,ti),(15,tl)]),(23,[(124,tb)]),(25,[(162,tb)])]⟩
def s3:Slot:=⟨3,_,λc=>JJ (g60 c),F.BJ env,fits3.any⟩
def qN:C5 37 (dL (F.I8 env)):=PV 37 dL (F.I8 env) func37 call37
def g61(c:pP):Sem [tu]:=λx K Kp=>c x.1 (λr1=>K (.bool r1))
def s95:=IL 95 g61 (F.Je env) func95 call95
def g62(c:SC):Sem [tu,tu]:=λx K Kp=>c x.1 x.2.1 (λr1=>K (.int .i64 r1))
def QW:=mk 51 g62 (F.Cu env) [s95] (T0.Cu env) func51 call51
def g63(c:Y58):Sem [ti,ti,tp]:=λx K Kp=>c x.1 x.2.1 x.2.2.1 (λr1=>K (.int .i64 r1))
def dO:C5 50 (g63 (F.Bx env)):=P7 50 g63 (F.Bx env) [Nl,QW] (T0.Bx env) func50 call50
def wD:Slot:=⟨50,_,λc=>JJ (g63 c),F.Bx env,dO.any⟩
def s231:=IL 231 g61 (F.Q4 env) func231 call231
def g64(c:SC):Sem [ti,ti]:=λx K Kp=>c x.1 x.2.1 (λr1=>K (.int .i64 r1))
def s232:=mk 232 g64 (F.ID env) [s231] (T0.ID env) func232 call232
def s233:=IL 233 g64 (F.L7 env) func233 call233 ⟨[(2,[(5,ti)])],[]⟩
def g65(c:Sp):Sem [.one (.int .u32)]:=λx K Kp=>c x.1 (λr1=>K (.int .u32 r1))
def s234:=IL 234 g65 (F.PK env) func234 call234
def g66(c:Y59):Sem [ti,ti]:=λx K Kp=>c x.1 x.2.1 (λr1 a=>K (.tuple ⟨[.slice r1.base r1.len r1.cap,.int .i64 a]⟩))
def s181:=mk 181 g66 (F.JF env) [s231,s232,s233,s234] (T0.JF env) func181 call181 ⟨[(6,[(6,tl),(7,ti),(8,ti)]),(15,[(107,ti)])],[(2,[(42,tb)]),(12,[(91,tb)]),(22,[])]⟩
def g67(c:Y60):Sem []:=λx K Kp=>c (λr1=>K (.slice r1.base r1.len r1.cap))
def s137:=mk 137 g67 (F.Fc env) [s181] (T0.Fc env) func137 call137
def g68(c:Y61):Sem [ti,ta]:=λx K Kp=>c x.1 x.2.1 (λr1=>K (.int .i64 r1))
def wY:=IL 179 g68 (F.IE env) func179 call179 ⟨[(2,[(5,ti),(6,ti)])],[]⟩
def g69(c:Y62):Sem [ti]:=λx K Kp=>c x.1 (λr1 a=>K (.tuple ⟨[.int .i64 r1,.int .i64 a]⟩))
def s136:=mk 136 g69 (F.KW env) [s137,wY] (T0.KW env) func136 call136 ⟨[],[(2,[(10,tb)])]⟩
def g70(c:Y63):Sem [.agg [.int .i64,.int .i64,.int .u64,.int .u64,.int .i64,.int .u64,.bool,.int .i64,.sl,.sl]]:=λx K Kp=>c x.1.1 x.1.2.1 x.1.2.2.1 x.1.2.2.2.1 x.1.2.2.2.2.1 x.1.2.2.2.2.2.1 x.1.2.2.2.2.2.2.1 x.1.2.2.2.2.2.2.2.1 x.1.2.2.2.2.2.2.2.2.1 x.1.2.2.2.2.2.2.2.2.2.1 (λr1 a e j u=>K (.tuple ⟨[.agg ⟨[.int .i64 r1,.bool a,.bool e,.int .u64 j]⟩,.int .i64 u]⟩))
def s100:=mk 100 g70 (F.GO env) [s136,s137] (T0.GO env) func100 call100 ⟨[(6,[(54,ti)])],[(3,[(47,tb)]),(13,[(73,tb)]),(17,[])]⟩
noncomputable def C101:Entry:=λargs w K Kp=>unArgs [tp,ti] args.toList λx=>F.Jf env x.1 x.2.1 (λr1 a=>K (.tuple ⟨[.int .u64 r1,.bool a]⟩)) w
def wZ:Dn Tryz.prog 101 C101:=λ_ _ _ _ h=>let⟨_,_,h2⟩:=CE h;(show False from h2).elim
def s139:=IL 139 g6 (F.FE env) func139 call139
def s140:=IL 140 g6 (F.HC env) func140 call140
def g71(c:pP):Sem [ti]:=λx K Kp=>c x.1 (λr1=>K (.bool r1))
def s182:=IL 182 g71 (F.L8 env) func182 call182
def g72(c:Y64):Sem [tb]:=λx K Kp=>c x.1 (λr1=>K (.int .i64 r1))
def s153:=IL 153 g72 (F.LX env) func153 call153
def g73(c:u7):Sem [tp,ti,tb]:=λx K Kp=>c x.1 x.2.1 x.2.2.1 (λr1=>K (.int .i64 r1))
def s141:=mk 141 g73 (F.DS env) [s182,s153] (T0.DS env) func141 call141
def s235:=IL 235 g35 (F.BO env) func235 call235
def g74(c:Y66):Sem [tl,ti]:=λx K Kp=>c x.1 x.2.1 (λr1=>K (.int .i64 r1))
def s183:=mk 183 g74 (F.Ez env) [s235] (T0.Ez env) func183 call183 ⟨[(2,[(5,ti)])],[(7,[(6,tu)])]⟩
def g75(c:u9):Sem [tp,ti]:=λx K Kp=>c x.1 x.2.1 (λw'=>K (.tuple ⟨[]⟩) w')
def s184:=IL 184 g75 (F.Jg env) func184 call184 ⟨[(0,[])],[]⟩
def g76(c:u6):Sem [tp]:=λx K Kp=>c x.1 (λr1 a=>K (.tuple ⟨[.int .i64 r1,.int .i64 a]⟩))
def s142:=mk 142 g76 (F.Di env) [s183,s184] (T0.Di env) func142 call142
def g77(c:Y68):Sem [tp,ti,tb]:=λx K Kp=>c x.1 x.2.1 x.2.2.1 (λr1 a=>K (.tuple ⟨[.int .u64 r1,.bool a]⟩))
def s102:=mk 102 g77 (F.Dy env) [s139,s140,s141,Wp,s142,Rq] (T0.Dy env) func102 call102
noncomputable def C103:Entry:=λargs w K Kp=>unArgs [tp,tu,ti] args.toList λx=>F.Jh env x.1 x.2.1 x.2.2.1 (λw'=>K (.tuple ⟨[]⟩) w') w
def xA:Dn Tryz.prog 103 C103:=λ_ _ _ _ h=>let⟨_,_,h2⟩:=CE h;(show False from h2).elim
def g78(c:Kj):Sem [tp,tu]:=λx K Kp=>c x.1 x.2.1 (λr1=>K (.int .i64 r1))
def s275:=IL 275 g78 (F.HQ env) func275 call275 ⟨[(2,[(12,ti)])],[(5,[(25,tb)])]⟩
def s236:=mk 236 g78 (F.FT env) [s275] (T0.FT env) func236 call236
def s185:=mk 185 g78 (F.ED env) [s236] (T0.ED env) func185 call185
def g79(c:SC):Sem [.one (.int .u32),.one (.int .u32)]:=λx K Kp=>c x.1 x.2.1 (λr1=>K (.int .u32 r1))
def s237:=IL 237 g79 (F.Un env) func237 call237
def g80(c:Wn):Sem [tp,tu]:=λx K Kp=>c x.1 x.2.1 (λr1 a=>K (.tuple ⟨[.int .i64 r1,.int .i64 a]⟩))
def s186:=mk 186 g80 (F.DK env) [s237] (T0.DK env) func186 call186 ⟨[],[(2,[(36,tb)])]⟩
def g81(c:Y71):Sem [tp,tu]:=λx K Kp=>c x.1 x.2.1 (λr1 a e=>K (.tuple ⟨[.int .u64 r1,.int .u64 a,.bool e]⟩))
def s143:=mk 143 g81 (F.Cv env) [s185,Yw,s186,s27,Rq,Nl] (T0.Cv env) func143 call143 ⟨[],[(6,[(39,tb)])]⟩
noncomputable def C144:Entry:=λargs w K Kp=>unArgs [tp] args.toList λx=>F.LY env x.1 (λr1=>K (.pointer r1)) w
def xB:Dn Tryz.prog 144 C144:=λ_ _ _ _ h=>let⟨_,_,h2⟩:=CE h;(show False from h2).elim
def xC:=mk 238 g78 (F.DD env) [wY] (T0.DD env) func238 call238
def g82(c:PU):Sem [tp,tu,tu]:=λx K Kp=>c x.1 x.2.1 x.2.2.1 (λr1=>K (.int .u64 r1))
def Zk:=mk 187 g82 (F.Ay env) [xC] (T0.Ay env) func187 call187 ⟨[(3,[(7,tu),(8,ti)])],[]⟩
def g83(c:Y73):Sem [.one (.map),tu,tu]:=λx K Kp=>c x.1 x.2.1 x.2.2.1 (λw'=>K (.tuple ⟨[]⟩) w')
def s189:=IL 189 g83 (F.Gi env) func189 call189 ⟨[(2,[]),(7,[(7,tu)])],[(3,[(18,tb)]),(5,[(28,tb)])]⟩
def s190:=IL 190 g83 (F.EJ env) func190 call190 ⟨[(2,[]),(7,[(7,tu)])],[(3,[(18,tb)]),(5,[(28,tb)])]⟩
noncomputable def C145:Entry:=λargs w K Kp=>unArgs [tp,tu,tu] args.toList λx=>F.MY env x.1 x.2.1 x.2.2.1 (λr1=>K (.int .i64 r1)) w
def xD:Dn Tryz.prog 145 C145:=λ_ _ _ _ h=>let⟨_,_,h2⟩:=CE h;(show False from h2).elim
def g84(c:Y74):Sem [tu,tu]:=λx K Kp=>c x.1 x.2.1 (λr1=>K (.bool r1))
def s191:=IL 191 g84 (F.OR env) func191 call191
def s240:=mk 240 g78 (F.Fw env) [wY] (T0.Fw env) func240 call240
def g85(c:Y75):Sem [tp,tu,tu,ta]:=λx K Kp=>c x.1 x.2.1 x.2.2.1 x.2.2.2.1 (λw'=>K (.tuple ⟨[]⟩) w')
def s192:=mk 192 g85 (F.FH env) [s240] (T0.FH env) func192 call192 ⟨[(4,[(9,ti),(10,tl),(11,tl)])],[(9,[(10,tl)]),(11,[(9,ti),(10,tl),(11,tl)]),(14,[(10,tl)])]⟩
def xE(c:PU):Sem [tp,tu,tu]:=λx K Kp=>c x.1 x.2.1 x.2.2.1 (λr1=>K (.int .i64 r1))
def s146:=mk 146 xE (F.De env) [s191,s192] (T0.De env) func146 call146
noncomputable def C147:Entry:=λargs w K Kp=>unArgs [tp,tu,tu,.agg [.int .i64,.sl],tu] args.toList λx=>F.Ji env x.1 x.2.1 x.2.2.1 x.2.2.2.1.1 x.2.2.2.1.2.1 x.2.2.2.2.1 (λr1=>K (.int .i64 r1)) w
def xF:Dn Tryz.prog 147 C147:=λ_ _ _ _ h=>let⟨_,_,h2⟩:=CE h;(show False from h2).elim
def g87(c:Y77):Sem [tp,.agg [.int .i64,.int .i64,.int .u64,.int .u64,.int .i64,.int .u64,.bool,.int .i64,.sl,.sl],.agg [.int .i64,.bool,.bool,.int .u64],tu]:=λx K Kp=>c x.1 x.2.1.1 x.2.1.2.1 x.2.1.2.2.1 x.2.1.2.2.2.1 x.2.1.2.2.2.2.1 x.2.1.2.2.2.2.2.1 x.2.1.2.2.2.2.2.2.1 x.2.1.2.2.2.2.2.2.2.1 x.2.1.2.2.2.2.2.2.2.2.1 x.2.1.2.2.2.2.2.2.2.2.2.1 x.2.2.1.1 x.2.2.1.2.1 x.2.2.1.2.2.1 x.2.2.1.2.2.2.1 x.2.2.2.1 (λr1 a e=>K (.agg ⟨[.int .u64 r1,.int .u64 a,.int .i64 e]⟩))
def s144:Slot:=⟨144,_,λc=>JJ (g6 c),F.LY env,xB.any⟩
def s145:Slot:=⟨145,_,λc=>JJ (xE c),F.MY env,xD.any⟩
def g88(c:Y76):Sem [tp,tu,tu,.agg [.int .i64,.sl],tu]:=λx K Kp=>c x.1 x.2.1 x.2.2.1 x.2.2.2.1.1 x.2.2.2.1.2.1 x.2.2.2.2.1 (λr1=>K (.int .i64 r1))
def s147:Slot:=⟨147,_,λc=>JJ (g88 c),F.Ji env,xF.any⟩
def s104:=mk 104 g87 (F.Bo env) [s143,s144,s145,s146,s147] (T0.Bo env) func104 call104 ⟨[],[(4,[(31,tb)]),(5,[]),(8,[])]⟩
def g89(c:Y78):Sem [tp,ti]:=λx K Kp=>c x.1 x.2.1 (λr1 u v J O T Y r8 r9 a e j=>K (.tuple ⟨[.pointer r1,.agg ⟨[.int .u64 u,.int .i64 v,.int .i64 J,.int .i64 O,.bool T,.int .i64 Y,.int .i64 r8,.int .i64 r9,.bool a,.bool e]⟩,.int .i64 j]⟩))
noncomputable def C196:Entry:=JJ (g89 (F.BB env))
def jE:C5 196 (g89 (F.BB env)):=P7 196 g89 (F.BB env) [Wp,Nl] (T0.BB env) func196 call196
def wG:Slot:=⟨196,_,λc=>JJ (g89 c),F.BB env,jE.any⟩
def g90(c:Y79):Sem [tp,.agg [.int .i64,.bool,.bool,.bool],tu]:=λx K Kp=>c x.1 x.2.1.1 x.2.1.2.1 x.2.1.2.2.1 x.2.1.2.2.2.1 x.2.2.1 (λr1=>K (.int .i64 r1))
def s195:=mk 195 g90 (F.Ds env) [wY] (T0.Ds env) func195 call195
def g91(c:Y80):Sem [tp,ti,tu,ti,tb,tb,tb]:=λx K Kp=>c x.1 x.2.1 x.2.2.1 x.2.2.2.1 x.2.2.2.2.1 x.2.2.2.2.2.1 x.2.2.2.2.2.2.1 (λr1=>K (.int .i64 r1))
def s209:=mk 209 g91 (F.Fe env) [s195] (T0.Fe env) func209 call209 ⟨[],[(2,[(27,tb)]),(4,[(43,tb)])]⟩
noncomputable def C157:Entry:=JJ (g73 (F.BC env))
def jF:C5 157 (g73 (F.BC env)):=P7 157 g73 (F.BC env) [wG,s209] (T0.BC env) func157 call157
def s157:Slot:=⟨157,_,λc=>JJ (g73 c),F.BC env,jF.any⟩
def g92(c:Kj):Sem [tp,ti]:=λx K Kp=>c x.1 x.2.1 (λr1=>K (.int .i64 r1))
def s148:=mk 148 g92 (F.CV env) [s157] (T0.CV env) func148 call148
def g93(c:Y81):Sem [tp,ti,tb,ti]:=λx K Kp=>c x.1 x.2.1 x.2.2.1 x.2.2.2.1 (λw'=>K (.tuple ⟨[]⟩) w')
def s113:=mk 113 g93 (F.Cr env) [s153] (T0.Cr env) func113 call113
def g94(c:Y82):Sem [tp,ti,tb]:=λx K Kp=>c x.1 x.2.1 x.2.2.1 (λw'=>K (.tuple ⟨[]⟩) w')
def s105:=mk 105 g94 (F.Bj env) [s141,s148,s113] (T0.Bj env) func105 call105
def g95(c:Y83):Sem [.agg [.int .i64,.bool,.bool,.int .u64]]:=λx K Kp=>c x.1.1 x.1.2.1 x.1.2.2.1 x.1.2.2.2.1 (λr1=>K (.int .u64 r1))
def s107:=IL 107 g95 (F.JG env) func107 call107
noncomputable def C149:Entry:=λargs w K Kp=>unArgs [tu,tu,tu] args.toList λx=>F.GF env x.1 x.2.1 x.2.2.1 (λr1 a=>K (.tuple ⟨[.int .u64 r1,.int .u64 a]⟩)) w
def xG:EZ Tryz.prog 149 C149:=
 UH Tryz.func149 (by kernel_rfl) (by kernel_rfl) (by kernel_rfl) (e:=add64Entry) (by kernel_rfl) (lC rfl)
def g96(c:u9):Sem [tp,tu]:=λx K Kp=>c x.1 x.2.1 (λw'=>K (.tuple ⟨[]⟩) w')
def g97(c:Y84):Sem [tu,tu,tu]:=λx K Kp=>c x.1 x.2.1 x.2.2.1 (λr1 a=>K (.tuple ⟨[.int .u64 r1,.int .u64 a]⟩))
def s149:Slot:=⟨149,_,λc=>JJ (g97 c),F.GF env,xG⟩
def s106:=mk 106 g96 (F.CW env) [s149] (T0.CW env) func106 call106 ⟨[],[(3,[(4,tu)])]⟩
def g98(c:oD):Sem [tp,ti]:=λx K Kp=>c x.1 x.2.1 (λr1 a=>K (.tuple ⟨[.int .u64 r1,.bool a]⟩))
def s101:Slot:=⟨101,_,λc=>JJ (g98 c),F.Jf env,wZ.any⟩
def g99(c:Qx):Sem [tp,tu,ti]:=λx K Kp=>c x.1 x.2.1 x.2.2.1 (λw'=>K (.tuple ⟨[]⟩) w')
def s103:Slot:=⟨103,_,λc=>JJ (g99 c),F.Jh env,xA.any⟩
def dP:C5 63 (P8 (F.Ep env)):=P7 63 P8 (F.Ep env) [s86,s100,s41,s101,s102,s103,s104,s105,s107,s106] (T0.Ep env) func63 call63 ⟨[],[(10,[]),(15,[]),(17,[])]⟩
def s63:Slot:=⟨63,_,λc=>JJ (P8 c),F.Ep env,dP.any⟩
def s108:=mk 108 g21 (F.DE env) [pU] (T0.DE env) func108 call108
def s151:=mk 151 g92 (F.DT env) [s195] (T0.DT env) func151 call151
def s109:=mk 109 g20 (F.By env) [s122,s151] (T0.By env) func109 call109
def g100(c:Y85):Sem [tp,tp,ti,ti]:=λx K Kp=>c x.1 x.2.1 x.2.2.1 x.2.2.2.1 (λw'=>K (.tuple ⟨[]⟩) w')
def xH:=IL 110 g100 (F.IF env) func110 call110
def dQ:C5 64 (P8 (F.EE env)):=P7 64 P8 (F.EE env) [s108,s109,xH] (T0.EE env) func64 call64 ⟨[],[(4,[])]⟩
def s64:Slot:=⟨64,_,λc=>JJ (P8 c),F.EE env,dQ.any⟩
def s242:=IL 242 dL (F.Gs env) func242 call242 ⟨[(2,[(10,ti)])],[(6,[(4,tu)])]⟩
def g101(c:Y86):Sem [tp,tu,ti]:=λx K Kp=>c x.1 x.2.1 x.2.2.1 (λr1=>K (.pointer r1))
def xI:=IL 223 g101 (F.Dc env) func223 call223 ⟨[(2,[(7,tp)])],[(3,[])]⟩
def g102(c:pQ):Sem [tp,tu,tu]:=λx K Kp=>c x.1 x.2.1 x.2.2.1 (λr1=>K (.slice r1.base r1.len r1.cap))
def s243:=mk 243 g102 (F.BT env) [xI] (T0.BT env) func243 call243 ⟨[(3,[(7,tl),(8,tp)])],[]⟩
def s244:=mk 244 g55 (F.Dz env) [vN,s53] (T0.Dz env) func244 call244
def g103(c:Y88):Sem [tp,tu,ti]:=λx K Kp=>c x.1 x.2.1 x.2.2.1 (λr1=>K (.bool r1))
def s224:=IL 224 g103 (F.NN env) func224 call224
def g104(c:cF):Sem [tp,tu,ti]:=λx K Kp=>c x.1 x.2.1 x.2.2.1 (λr1 a=>K (.tuple ⟨[.int .u64 r1,.int .i64 a]⟩))
def s164:=mk 164 g104 (F.BY env) [xI,s224] (T0.BY env) func164 call164
def s227:=mk 227 g92 (F.EK env) [vN,s184] (T0.EK env) func227 call227
def g105(c:Y90):Sem [tp,tu]:=λx K Kp=>c x.1 x.2.1 (λr1=>K (.slice r1.base r1.len r1.cap))
def s278:=mk 278 g105 (F.Cw env) [xI] (T0.Cw env) func278 call278 ⟨[(3,[(5,tl),(6,tp)])],[]⟩
end
end Go.Sh

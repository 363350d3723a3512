/- Each shallow form is what the code of its function comes to, piece 2. No further condition. -/
import Derived.Test.YtcnbbdhhgcbjmaaGreatDoorT
import Derived.Test.YtcnbbdhhgcbjmaaGreatDoorProg
import Derived.KernelRfl
set_option linter.all false
set_option maxRecDepth 100000
set_option maxHeartbeats 4000000
namespace Go.Sh
open Go.Proofs Go.Proofs.Tryz
noncomputable section
def g52(c:Oi):Sem [.one (.ptr),.one (.int .u64),.one (.int .u64)]:=λx K Kp w=>c x.1 x.2.1 x.2.2.1 (λj r2 w'=>K (.tuple ⟨[.int .u64 j,.int .i64 r2]⟩) w') w
def s214:=mk 214 g52 (F.Bv env) [s174,s175,s176] (T0.Bv env) func214 call214
def g53(c:lD):Sem [.one (.ptr),.one (.ptr)]:=λx K Kp w=>c x.1 x.2.1 (λj w'=>K (.int .i64 j) w') w
def s191:=mk 191 g53 (F.CQ env) [s190,s213,s204,s214] (T0.CQ env) func191 call191 ⟨[(8,[(7,.one (.int .i64))])],[]⟩
def g54(c:iU):Sem [.one (.ptr),.one (.int .i64)]:=λx K Kp w=>c x.1 x.2.1 (λj r2 v w'=>K (.tuple ⟨[.int .u64 j,.int .i64 r2,.int .i64 v]⟩) w') w
def s192:=HT 192 g54 (F.Fy env) func192 call192 ⟨[(5,[(7,.one (.int .i64)),(8,.one (.int .i64))]),(13,[(9,.one (.int .i64)),(10,.one (.int .i64))])],[(2,[(16,.one (.bool))]),(10,[(7,.one (.int .i64))]),(17,[(9,.one (.int .i64))])]⟩
def g55(c:iU):Sem [.one (.ptr),.one (.int .u64)]:=λx K Kp w=>c x.1 x.2.1 (λj r2 v w'=>K (.tuple ⟨[.int .u64 j,.int .u64 r2,.int .i64 v]⟩) w') w
def s193:=mk 193 g55 (F.B9 env) [s215,s214] (T0.B9 env) func193 call193
def s216:=HT 216 g49 (F.Eu env) func216 call216
def s217:=HT 217 g47 (F.GS env) func217 call217
def u7:=HT 220 g39 (F.DP env) func220 call220 ⟨[(2,[(6,.one (.int .i64)),(7,.one (.int .i64))])],[]⟩
def g56(c:Yw):Sem [.one (.ptr),.one (.int .u64),.one (.int .u64)]:=λx K Kp w=>c x.1 x.2.1 x.2.2.1 (λj r2 w'=>K (.tuple ⟨[.int .u64 j,.bool r2]⟩) w') w
def s218:=mk 218 g56 (F.BH env) [u7] (T0.BH env) func218 call218 ⟨[],[(3,[(36,.one (.bool))])]⟩
def s219:=mk 219 g56 (F.Bw env) [s218] (T0.Bw env) func219 call219 ⟨[(4,[(8,.one (.int .u64))])],[(4,[(8,.one (.int .u64))]),(8,[(8,.one (.int .u64))]),(9,[(31,.one (.bool))])]⟩
def s194:=mk 194 g52 (F.CR env) [s216,s217,s218,s219,u7] (T0.CR env) func194 call194 ⟨[(21,[(12,.one (.sl)),(13,.one (.int .u64))])],[(2,[(24,.one (.bool))]),(10,[(9,.one (.bool))]),(12,[(8,.one (.int .u64)),(9,.one (.bool))]),(14,[(8,.one (.int .u64)),(9,.one (.bool))]),(16,[(8,.one (.int .u64)),(9,.one (.bool))])]⟩
def g57(c:nV):Sem [.one (.int .i64),.one (.int .i64)]:=λx K Kp w=>c x.1 x.2.1 (λj w'=>K (.bool j) w') w
def s205:=HT 205 g57 (F.HI env) func205 call205
def g58(c:uF):Sem [.one (.ptr),.one (.int .i64),.one (.int .i64),.one (.bool)]:=λx K Kp w=>c x.1 x.2.1 x.2.2.1 x.2.2.2.1 (λj w'=>K (.int .i64 j) w') w
def s238:=mk 238 g58 (F.Dn env) [s205] (T0.Dn env) func238 call238 ⟨[(4,[(9,.one (.int .i64))])],[]⟩
def s221:=mk 221 g3 (F.Fh env) [s238] (T0.Fh env) func221 call221
def xY(c:PM):Sem [.one (.ptr),.one (.int .u64),.one (.int .u64)]:=λx K Kp w=>c x.1 x.2.1 x.2.2.1 (λj w'=>K (.int .i64 j) w') w
def s195:=mk 195 xY (F.CT env) [u6,s221] (T0.CT env) func195 call195 ⟨[(8,[(9,.one (.sl)),(10,.one (.int .u64))])],[(2,[(26,.one (.bool))]),(5,[(53,.one (.bool))])]⟩
def s196:=mk 196 xY (F.Cm env) [s217,u7,s216] (T0.Cm env) func196 call196 ⟨[(8,[(9,.one (.bool)),(10,.one (.int .u64))]),(19,[(12,.one (.int .i64))])],[(25,[(94,.one (.bool))]),(27,[(14,.one (.int .u64))])]⟩
def u9(c:Jg):Sem [.one (.ptr),.one (.int .u64)]:=λx K Kp w=>c x.1 x.2.1 (λj w'=>K (.int .i64 j) w') w
def s197:=mk 197 u9 (F.C8 env) [u7] (T0.C8 env) func197 call197
def g61(c:Oi):Sem [.one (.ptr),.one (.int .i64),.one (.int .u64)]:=λx K Kp w=>c x.1 x.2.1 x.2.2.1 (λj r2 w'=>K (.tuple ⟨[.int .u64 j,.int .i64 r2]⟩) w') w
def s158:=mk 158 g61 (F.CU env) [s190,s191,s192,s193,s194,s195,s196,s197,uQ] (T0.CU env) func158 call158 ⟨[(20,[(13,.one (.int .u64))])],[(3,[(23,.one (.bool))]),(5,[]),(6,[(8,.one (.int .u64)),(9,.one (.int .i64))]),(8,[(8,.one (.int .u64)),(9,.one (.int .i64))]),(16,[(8,.one (.int .u64)),(9,.one (.int .i64))])]⟩
def s198:=HT 198 pK (F.Gu env) func198 call198
def s159:=mk 159 g53 (F.C9 env) [s198] (T0.C9 env) func159 call159 ⟨[(3,[(6,.one (.int .i64))])],[(5,[(6,.one (.int .i64))])]⟩
def g62(c:y7):Sem [.one (.ptr),.one (.int .i64),.one (.int .u64),.one (.int .i64),.one (.bool)]:=λx K Kp w=>c x.1 x.2.1 x.2.2.1 x.2.2.2.1 x.2.2.2.2.1 (λj r2 w'=>K (.tuple ⟨[.int .i64 j,.int .i64 r2]⟩) w') w
def s107:=mk 107 g62 (F.CV env) [zK,s158,s159] (T0.CV env) func107 call107
def g63(c:y8):Sem [.one (.ptr),.one (.int .i64),.one (.int .i64),.one (.bool)]:=λx K Kp w=>c x.1 x.2.1 x.2.2.1 x.2.2.2.1 (λj r2 w'=>K (.tuple ⟨[.int .i64 j,.int .i64 r2]⟩) w') w
def s50:=mk 50 g63 (F.CD env) [zO,Uj,s71,iV,z5,s107] (T0.CD env) func50 call50 ⟨[(7,[(45,.one (.int .i64))]),(9,[])],[(2,[(27,.one (.bool))])]⟩
def FJ:=mk 10 g19 (F.Bc env) [s45,V2,iW,s47,zD,s50,SB] (T0.Bc env) func10 call10 ⟨[],[(2,[(20,.one (.bool))])]⟩
def zP:=HT 108 iY (F.Hg env) func108 call108 ⟨[(2,[(5,.one (.int .i64))])],[(4,[(5,.one (.int .i64))])]⟩
def g64(c:TU):Sem [.one (.ptr),.one (.int .i64)]:=λx K Kp w=>c x.1 x.2.1 (λj r2 w'=>K (.tuple ⟨[.int .u64 j,.bool r2]⟩) w') w
def dC:=mk 52 g64 (F.Ev env) [zP] (T0.Ev env) func52 call52 ⟨[],[(3,[(20,.one (.bool))])]⟩
def g65(c:SA):Sem [.one (.ptr),.one (.int .u64),.one (.int .i64)]:=λx K Kp w=>c x.1 x.2.1 x.2.2.1 (λw'=>K (.tuple ⟨[]⟩) w') w
def s53:=HT 53 g65 (F.Gv env) func53 call53 ⟨[],[(1,[(18,.one (.bool))])]⟩
def g66(c:xT):Sem [.one (.ptr),.one (.int .i64)]:=λx K Kp w=>c x.1 x.2.1 (λj r2 v w'=>K (.tuple ⟨[.int .u64 j,.bool r2,.int .i64 v]⟩) w') w
def dG:=mk 11 g66 (F.DO env) [dC,s9,s53] (T0.DO env) func11 call11 ⟨[],[(2,[(16,.one (.bool))])]⟩
def tM:=HT 54 g64 (F.Fz env) func54 call54 ⟨[],[(9,[(7,.one (.int .i64))]),(11,[(39,.one (.bool))])]⟩
def xU:=HT 55 g65 (F.F1 env) func55 call55 ⟨[],[(1,[(18,.one (.bool))])]⟩
def LH:=mk 12 g66 (F.CW env) [tM,FJ,xU] (T0.CW env) func12 call12 ⟨[],[(2,[(16,.one (.bool))])]⟩
def g67(c:Y51):Sem [.one (.ptr)]:=λx K Kp w=>c x.1 (λv r2 y J O T Y r8 r9 j w'=>K (.agg ⟨[.int .u64 v,.int .i64 r2,.int .i64 y,.int .i64 J,.bool O,.int .i64 T,.int .i64 Y,.int .i64 r8,.bool r9,.bool j]⟩) w') w
noncomputable def C68:Entry:=Sn (g67 (F.DG env))
def pL:Ir 68 (g67 (F.DG env)):=zY 68 g67 (F.DG env) func68 call68
def s68:Slot:=⟨68,_,λc=>Sn (g67 c),F.DG env,pL.any⟩
def g68(c:Y52):Sem [.one (.ptr),.one (.int .i64)]:=λx K Kp w=>c x.1 x.2.1 (λJ r2 O T Y r6 r7 r8 r9 j v y w'=>K (.tuple ⟨[.pointer J,.agg ⟨[.int .u64 r2,.int .i64 O,.int .i64 T,.int .i64 Y,.bool r6,.int .i64 r7,.int .i64 r8,.int .i64 r9,.bool j,.bool v]⟩,.int .i64 y]⟩) w') w
noncomputable def C64:Entry:=Sn (g68 (F.BQ env))
def pM:Ir 64 (g68 (F.BQ env)):=Xy 64 g68 (F.BQ env) [s91,s68] (T0.BQ env) func64 call64
def s64:Slot:=⟨64,_,λc=>Sn (g68 c),F.BQ env,pM.any⟩
def g69(c:Y53):Sem [.one (.int .i64),.one (.any)]:=λx K Kp w=>c x.1 x.2.1 (λj w'=>K (.int .i64 j) w') w
def uT:=HT 162 g69 (F.LJ env) func162 call162 ⟨[(2,[(5,.one (.int .i64)),(6,.one (.int .i64))])],[]⟩
def g70(c:Y54):Sem [.one (.ptr),.agg [.int .i64,.bool,.bool,.bool],.one (.int .u64)]:=λx K Kp w=>c x.1 x.2.1.1 x.2.1.2.1 x.2.1.2.2.1 x.2.1.2.2.2.1 x.2.2.1 (λj w'=>K (.int .i64 j) w') w
def uH:=mk 119 g70 (F.ES env) [uT] (T0.ES env) func119 call119
def g71(c:Y55):Sem [.one (.ptr),.one (.int .i64),.one (.int .u64),.one (.int .i64),.one (.bool),.one (.bool),.one (.bool)]:=λx K Kp w=>c x.1 x.2.1 x.2.2.1 x.2.2.2.1 x.2.2.2.2.1 x.2.2.2.2.2.1 x.2.2.2.2.2.2.1 (λj w'=>K (.int .i64 j) w') w
def s132:=mk 132 g71 (F.GN env) [uH] (T0.GN env) func132 call132 ⟨[],[(2,[(27,.one (.bool))]),(4,[(43,.one (.bool))])]⟩
noncomputable def C70:Entry:=Sn (zZ (F.Bd env))
def pN:Ir 70 (zZ (F.Bd env)):=Xy 70 zZ (F.Bd env) [s64,s132] (T0.Bd env) func70 call70
def dD:Slot:=⟨70,_,λc=>Sn (zZ c),F.Bd env,pN.any⟩
def s94:=mk 94 iY (F.DA env) [dD] (T0.DA env) func94 call94
def g72(c:Y56):Sem [.one (.ptr),.one (.int .i64),.one (.bool),.one (.int .i64)]:=λx K Kp w=>c x.1 x.2.1 x.2.2.1 x.2.2.2.1 (λw'=>K (.tuple ⟨[]⟩) w') w
def uX:=mk 44 g72 (F.D5 env) [s80] (T0.D5 env) func44 call44
def s39:=mk 39 g25 (F.CK env) [lK,s94,uX] (T0.CK env) func39 call39
def MR:=mk 13 pK (F.Da env) [s39] (T0.Da env) func13 call13 ⟨[(2,[(6,.one (.int .i64))]),(5,[(11,.one (.int .i64))])],[]⟩
def WB:=mk 14 g2 (F.Be env) [V2] (T0.Be env) func14 call14 ⟨[(1,[(2,.one (.int .i64))])],[]⟩
def s60:=HT 60 g34 (F.Ja env) func60 call60 ⟨[(3,[(4,.one (.ptr))])],[(4,[(13,.one (.bool))]),(6,[(41,.one (.bool))])]⟩
def s61:=mk 61 iY (F.D6 env) [uH] (T0.D6 env) func61 call61
def uU:=mk 17 g34 (F.B3 env) [s60,s61] (T0.B3 env) func17 call17
def uI:=HT 121 g49 (F.HJ env) func121 call121 ⟨[(2,[(10,.one (.int .i64))])],[(6,[(4,.one (.int .u64))])]⟩
def g73(c:Y57):Sem [.one (.ptr),.one (.int .u64),.one (.int .i64)]:=λx K Kp w=>c x.1 x.2.1 x.2.2.1 (λj w'=>K (.pointer j) w') w
def lJ:=HT 164 g73 (F.EB env) func164 call164 ⟨[(2,[(7,.one (.ptr))])],[(3,[])]⟩
def g74(c:pB):Sem [.one (.ptr),.one (.int .u64),.one (.int .u64)]:=λx K Kp w=>c x.1 x.2.1 x.2.2.1 (λj w'=>K (.slice j.base j.len j.cap) w') w
def s122:=mk 122 g74 (F.Bx env) [lJ] (T0.Bx env) func122 call122 ⟨[(3,[(7,.one (.sl)),(8,.one (.ptr))])],[]⟩
def uN:=HT 165 g21 (F.JQ env) func165 call165
def s123:=mk 123 z4 (F.Fi env) [lF,uN] (T0.Fi env) func123 call123
def s124:=mk 124 z4 (F.Ed env) [lF,uN] (T0.Ed env) func124 call124
def g75(c:nU):Sem [.one (.ptr),.one (.int .u64),.one (.int .i64)]:=λx K Kp w=>c x.1 x.2.1 x.2.2.1 (λj w'=>K (.bool j) w') w
def zV:=HT 166 g75 (F.NY env) func166 call166
def s125:=mk 125 g36 (F.CE env) [lJ,zV] (T0.CE env) func125 call125
def s113:=mk 113 iY (F.Ew env) [lF,s146] (T0.Ew env) func113 call113
def zL:=mk 167 g37 (F.DQ env) [lJ] (T0.DQ env) func167 call167 ⟨[(3,[(5,.one (.sl)),(6,.one (.ptr))])],[]⟩
def zS:=mk 126 g37 (F.Cn env) [zL,lJ] (T0.Cn env) func126 call126 ⟨[(4,[(15,.one (.int .i64))])],[]⟩
def g76(c:Y59):Sem [.one (.ptr),.one (.ptr),.agg [.int .u64,.int .i64,.int .i64,.int .i64,.bool,.int .i64,.int .i64,.int .i64,.bool,.bool]]:=λx K Kp w=>c x.1 x.2.1 x.2.2.1.1 x.2.2.1.2.1 x.2.2.1.2.2.1 x.2.2.1.2.2.2.1 x.2.2.1.2.2.2.2.1 x.2.2.1.2.2.2.2.2.1 x.2.2.1.2.2.2.2.2.2.1 x.2.2.1.2.2.2.2.2.2.2.1 x.2.2.1.2.2.2.2.2.2.2.2.1 x.2.2.1.2.2.2.2.2.2.2.2.2.1 (λw'=>K (.tuple ⟨[]⟩) w') Kp w
noncomputable def C66:Entry:=Sn (g76 (F.BD env))
def z6:Ir 66 (g76 (F.BD env)):=Xy 66 g76 (F.BD env) [uI,s122,s123,s124,s93,s125,s113,zS] (T0.BD env) func66 call66 ⟨[(5,[(33,.one (.int .i64))])],[]⟩
noncomputable def C67:Entry:=Sn (g38 (F.Ct env))
def pO:Ir 67 (g38 (F.Ct env)):=Xy 67 g38 (F.Ct env) [uI,z3] (T0.Ct env) func67 call67 ⟨[(7,[(4,.one (.sl)),(22,.one (.int .i64))]),(13,[(4,.one (.sl)),(6,.one (.int .u64))])],[(12,[(6,.one (.int .u64))])]⟩
def tL:Slot:=⟨67,_,λc=>Sn (g38 c),F.Ct env,pO.any⟩
def zT:=HT 128 pK (F.LB env) func128 call128 ⟨[],[(2,[(16,.one (.bool))])]⟩
def vA:=mk 200 u9 (F.Dp env) [uT] (T0.Dp env) func200 call200
def g77(c:PM):Sem [.one (.ptr),.one (.int .u64),.one (.int .u64)]:=λx K Kp w=>c x.1 x.2.1 x.2.2.1 (λj w'=>K (.int .u64 j) w') w
def eJ:=mk 168 g77 (F.BE env) [vA] (T0.BE env) func168 call168 ⟨[(3,[(7,.one (.int .u64)),(8,.one (.int .i64))])],[]⟩
def z7(c:SA):Sem [.one (.ptr),.one (.int .u64),.one (.int .u64)]:=λx K Kp w=>c x.1 x.2.1 x.2.2.1 (λw'=>K (.tuple ⟨[]⟩) w') w
def uO:=HT 169 z7 (F.JR env) func169 call169 ⟨[(2,[(6,.one (.sl)),(16,.one (.int .i64))]),(14,[]),(19,[(10,.one (.int .u64))])],[(5,[(29,.one (.bool))]),(8,[(6,.one (.sl))]),(15,[(81,.one (.bool))]),(17,[(91,.one (.bool))])]⟩
def g79(c:Y60):Sem [.one (.ptr),.one (.int .u64),.one (.int .u64),.one (.int .i64)]:=λx K Kp w=>c x.1 x.2.1 x.2.2.1 x.2.2.2.1 (λj w'=>K (.int .i64 j) w') w
def uJ:=mk 129 g79 (F.EM env) [eJ,uO] (T0.EM env) func129 call129 ⟨[],[(2,[(20,.one (.bool))]),(4,[(28,.one (.bool))]),(14,[])]⟩
def g80(c:Y61):Sem [.one (.ptr),.one (.int .u64),.one (.int .u64),.one (.bool),.one (.int .i64)]:=λx K Kp w=>c x.1 x.2.1 x.2.2.1 x.2.2.2.1 x.2.2.2.2.1 (λj w'=>K (.int .i64 j) w') w
def s201:=mk 201 g80 (F.Db env) [eJ] (T0.Db env) func201 call201 ⟨[],[(4,[(11,.one (.int .u64))]),(5,[(14,.one (.bool))])]⟩
def z8:=mk 223 z7 (F.Cu env) [eJ,vA] (T0.Cu env) func223 call223 ⟨[(5,[(7,.one (.int .i64)),(8,.one (.sl))])],[(10,[(8,.one (.sl))]),(12,[(7,.one (.int .i64)),(8,.one (.sl))])]⟩
def pP:=mk 202 z7 (F.BT env) [z8,vA] (T0.BT env) func202 call202 ⟨[],[(7,[(51,.one (.bool))]),(9,[(8,.one (.int .i64))]),(10,[(77,.one (.bool))]),(12,[(6,.one (.int .i64))])]⟩
def g81(c:Y62):Sem [.one (.ptr),.one (.int .u64),.one (.int .u64),.one (.ptr)]:=λx K Kp w=>c x.1 x.2.1 x.2.2.1 x.2.2.2.1 (λj w'=>K (.int .i64 j) w') w
def s172:=mk 172 g81 (F.D7 env) [s201,pP,lI] (T0.D7 env) func172 call172
def uP:=mk 130 xY (F.DH env) [s172] (T0.DH env) func130 call130
end
end Go.Sh

/- Each shallow form is what the code of its function comes to, piece 2. No further condition. -/
import Derived.Test.YtgcgcligdjnmaaaGreatDoorT
import Derived.Test.YtgcgcligdjnmaaaGreatDoorProg
import Derived.KernelRfl
set_option linter.all false
set_option maxRecDepth 100000
set_option maxHeartbeats 4000000
namespace Go.Sh
open Go.Proofs Go.Proofs.Tryz
noncomputable section
def g46(c:zV):Sem [.one (.ptr),.one (.int .u64)]:=λx K Kp w=>c x.1 x.2.1 (λr1 r2 d w'=>K (.tuple ⟨[.bool r1,.bool r2,.bool d]⟩) w') w
def s184:=mk 184 g46 (F.Bm env) [sR] (T0.Bm env) func184 call184
def s194:=mk 194 g34 (F.CQ env) [sR] (T0.CQ env) func194 call194 ⟨[(5,[(7,.one (.int .i64)),(9,.one (.int .u64))])],[(2,[(21,.one (.bool))]),(8,[(58,.one (.bool))])]⟩
def g47(c:Ni):Sem [.one (.ptr),.one (.int .u64),.one (.int .u64)]:=λx K Kp w=>c x.1 x.2.1 x.2.2.1 (λr1 r2 w'=>K (.tuple ⟨[.int .u64 r1,.int .u64 r2]⟩) w') w
def s195:=mk 195 g47 (F.B9 env) [s184] (T0.B9 env) func195 call195 ⟨[(3,[(8,.one (.int .u64)),(9,.one (.int .u64)),(10,.one (.int .u64))])],[(8,[(8,.one (.int .u64))])]⟩
def g48(c:zW):Sem [.one (.ptr),.one (.int .u64),.one (.int .u64),.one (.bool),.one (.bool)]:=λx K Kp w=>c x.1 x.2.1 x.2.2.1 x.2.2.2.1 x.2.2.2.2.1 (λw'=>K (.tuple ⟨[]⟩) w') w
def s196:=mk 196 g48 (F.Cl env) [sR] (T0.Cl env) func196 call196 ⟨[(1,[(10,.one (.int .u64))])],[]⟩
def s185:=mk 185 g25 (F.By env) [s194,s195,s196] (T0.By env) func185 call185
def s121:=mk 121 g26 (F.CR env) [s120,s183,s184,s185] (T0.CR env) func121 call121 ⟨[(8,[(7,.one (.int .i64))])],[]⟩
def s122:=Gz 122 g29 (F.FT env) func122 call122 ⟨[(5,[(7,.one (.int .i64)),(8,.one (.int .i64))]),(13,[(9,.one (.int .i64)),(10,.one (.int .i64))])],[(2,[(16,.one (.bool))]),(10,[(7,.one (.int .i64))]),(17,[(9,.one (.int .i64))])]⟩
def s123:=mk 123 g30 (F.CA env) [s186,s185] (T0.CA env) func123 call123
def s187:=Gz 187 z8 (F.EZ env) func187 call187
def s188:=Gz 188 g37 (F.Fy env) func188 call188
def sS:=Gz 191 g45 (F.DH env) func191 call191 ⟨[(2,[(6,.one (.int .i64)),(7,.one (.int .i64))])],[]⟩
def s189:=mk 189 g35 (F.BG env) [sS] (T0.BG env) func189 call189 ⟨[],[(3,[(36,.one (.bool))])]⟩
def s190:=mk 190 g35 (F.Bz env) [s189] (T0.Bz env) func190 call190 ⟨[(4,[(8,.one (.int .u64))])],[(4,[(8,.one (.int .u64))]),(8,[(8,.one (.int .u64))]),(9,[(31,.one (.bool))])]⟩
def s124:=mk 124 g25 (F.CT env) [s187,s188,s189,s190,sS] (T0.CT env) func124 call124 ⟨[(21,[(12,.one (.sl)),(13,.one (.int .u64))])],[(2,[(24,.one (.bool))]),(10,[(9,.one (.bool))]),(12,[(8,.one (.int .u64)),(9,.one (.bool))]),(14,[(8,.one (.int .u64)),(9,.one (.bool))]),(16,[(8,.one (.int .u64)),(9,.one (.bool))])]⟩
def g49(c:lL):Sem [.one (.int .i64),.one (.int .i64)]:=λx K Kp w=>c x.1 x.2.1 (λr1 w'=>K (.bool r1) w') w
def s231:=Gz 231 g49 (F.Gq env) func231 call231
def g50(c:rV):Sem [.one (.ptr),.one (.int .i64),.one (.int .i64),.one (.bool)]:=λx K Kp w=>c x.1 x.2.1 x.2.2.1 x.2.2.2.1 (λr1 w'=>K (.int .i64 r1) w') w
def s229:=mk 229 g50 (F.Df env) [s231] (T0.Df env) func229 call229 ⟨[(4,[(9,.one (.int .i64))])],[]⟩
def s193:=mk 193 g4 (F.FG env) [s229] (T0.FG env) func193 call193
def nJ:=mk 125 vL (F.CU env) [sR,s193] (T0.CU env) func125 call125 ⟨[(8,[(9,.one (.sl)),(10,.one (.int .u64))])],[(2,[(26,.one (.bool))]),(5,[(53,.one (.bool))])]⟩
def wU:=mk 126 vL (F.Ce env) [s188,sS,s187] (T0.Ce env) func126 call126 ⟨[(8,[(9,.one (.bool)),(10,.one (.int .u64))]),(19,[(12,.one (.int .i64))])],[(25,[(94,.one (.bool))]),(27,[(14,.one (.int .u64))])]⟩
def wV:=mk 128 sK (F.Cy env) [sS] (T0.Cy env) func128 call128
def g51(c:rV):Sem [.one (.ptr),.one (.int .u64),.one (.int .u64),.one (.bool)]:=λx K Kp w=>c x.1 x.2.1 x.2.2.1 x.2.2.2.1 (λr1 w'=>K (.int .i64 r1) w') w
def Sc:=mk 127 g51 (F.Bf env) [s194,s195,s196] (T0.Bf env) func127 call127
def s66:=mk 66 g44 (F.CV env) [s120,s121,s122,s123,s124,nJ,wU,wV,Sc] (T0.CV env) func66 call66 ⟨[(20,[(13,.one (.int .u64))])],[(3,[(23,.one (.bool))]),(5,[]),(6,[(8,.one (.int .u64)),(9,.one (.int .i64))]),(8,[(8,.one (.int .u64)),(9,.one (.int .i64))]),(16,[(8,.one (.int .u64)),(9,.one (.int .i64))])]⟩
def s129:=Gz 129 nS (F.GU env) func129 call129
def z4:=mk 67 g26 (F.Cz env) [s129] (T0.Cz env) func67 call67 ⟨[(3,[(6,.one (.int .i64))])],[(5,[(6,.one (.int .i64))])]⟩
def bH:=mk 22 g43 (F.Bu env) [xB,s66,z4] (T0.Bu env) func22 call22
def g52(c:zF):Sem [.one (.ptr),.one (.int .i64)]:=λx K Kp w=>c x.1 x.2.1 (λr1 r2 w'=>K (.tuple ⟨[.pointer r1,.int .i64 r2]⟩) w') w
def Q4:=Gz 23 g52 (F.EC env) func23 call23
def fM:=Gz 68 g9 (F.Ev env) func68 call68 ⟨[(2,[(5,.one (.int .i64))])],[]⟩
def g53(c:lN):Sem [.one (.ptr),.one (.int .i64)]:=λx K Kp w=>c x.1 x.2.1 (λr1 w'=>K (.pointer r1) w') w
def MK:=mk 24 g53 (F.An env) [fM] (T0.An env) func24 call24
def g54(c:Y44):Sem [.one (.sl),.one (.int .i64)]:=λx K Kp w=>c x.1 x.2.1 (λr1 w'=>K (.int .i64 r1) w') w
def s69:=mk 69 g54 (F.FH env) [nI] (T0.FH env) func69 call69 ⟨[(2,[(5,.one (.int .i64))])],[(7,[(6,.one (.int .u64))])]⟩
def g55(c:Xl):Sem [.one (.ptr),.one (.int .i64)]:=λx K Kp w=>c x.1 x.2.1 (λw'=>K (.tuple ⟨[]⟩) w') w
def ND:=Gz 70 g55 (F.Jl env) func70 call70 ⟨[(0,[])],[]⟩
def g56(c:vG):Sem [.one (.ptr)]:=λx K Kp w=>c x.1 (λr1 r2 w'=>K (.tuple ⟨[.int .i64 r1,.int .i64 r2]⟩) w') w
def Q5:=mk 25 g56 (F.Dg env) [s69,ND] (T0.Dg env) func25 call25
def g57(c:rW):Sem [.one (.sl),.one (.int .i64)]:=λx K Kp w=>c x.1 x.2.1 (λr1 w'=>K (.bool r1) w') w
def s71:=Gz 71 g57 (F.F8 env) func71 call71
def g58(c:Y48):Sem [.one (.sl),.one (.int .i64),.one (.bool)]:=λx K Kp w=>c x.1 x.2.1 x.2.2.1 (λr1 w'=>K (.slice r1.base r1.len r1.cap) w') w
def s72:=Gz 72 g58 (F.HZ env) func72 call72 ⟨[(1,[(0,.one (.sl))])],[]⟩
def bK:=mk 26 g56 (F.CB env) [s71,s72] (T0.CB env) func26 call26 ⟨[(4,[(4,.one (.int .i64))])],[]⟩
def g59(c:iX):Sem [.one (.ptr),.one (.int .i64)]:=λx K Kp w=>c x.1 x.2.1 (λr1 r2 w'=>K (.tuple ⟨[.int .u64 r1,.int .i64 r2]⟩) w') w
def vI:=Gz 27 g59 (F.CC env) func27 call27 ⟨[],[(2,[(15,.one (.bool))])]⟩
def g60(c:wM):Sem [.one (.ptr),.one (.int .u64),.one (.int .i64)]:=λx K Kp w=>c x.1 x.2.1 x.2.2.1 (λr1 w'=>K (.pointer r1) w') w
def xC:=Gz 73 g60 (F.DI env) func73 call73 ⟨[(2,[(7,.one (.ptr))])],[(3,[])]⟩
def g61(c:iV):Sem [.one (.ptr),.one (.int .u64),.one (.int .i64)]:=λx K Kp w=>c x.1 x.2.1 x.2.2.1 (λr1 w'=>K (.bool r1) w') w
def s74:=Gz 74 g61 (F.LB env) func74 call74
def g62(c:iW):Sem [.one (.ptr),.one (.int .u64),.one (.int .i64),.one (.int .u64)]:=λx K Kp w=>c x.1 x.2.1 x.2.2.1 x.2.2.2.1 (λr1 w'=>K (.int .i64 r1) w') w
def NK:=mk 28 g62 (F.B2 env) [xC,s74] (T0.B2 env) func28 call28 ⟨[],[(2,[(15,.one (.bool))])]⟩
def g63(c:Wr):Sem [.one (.ptr),.one (.int .u64),.one (.int .i64)]:=λx K Kp w=>c x.1 x.2.1 x.2.2.1 (λr1 r2 w'=>K (.tuple ⟨[.int .i64 r1,.bool r2]⟩) w') w
def sB:=Gz 75 g63 (F.Dr env) func75 call75 ⟨[(2,[(8,.one (.int .i64))])],[(3,[]),(4,[(8,.one (.int .i64))])]⟩
def JR:=mk 29 g62 (F.BW env) [sB] (T0.BW env) func29 call29 ⟨[],[(2,[(17,.one (.bool))])]⟩
def g64(c:zG):Sem [.one (.ptr),.one (.int .i64)]:=λx K Kp w=>c x.1 x.2.1 (λr1 r2 y J O T Y r8 r9 d j v w'=>K (.tuple ⟨[.pointer r1,.agg ⟨[.int .u64 r2,.int .i64 y,.int .i64 J,.int .i64 O,.bool T,.int .i64 Y,.int .i64 r8,.int .i64 r9,.bool d,.bool j]⟩,.int .i64 v]⟩) w') w
noncomputable def C76:Entry:=Oi (g64 (F.BP env))
def nU:Gs 76 (g64 (F.BP env)):=Xn 76 g64 (F.BP env) [Q4,Sb] (T0.BP env) func76 call76
def s76:Slot:=⟨76,_,λc=>Oi (g64 c),F.BP env,nU.any⟩
def g65(c:zX):Sem [.one (.ptr),.agg [.int .i64,.bool,.bool,.bool],.one (.int .u64)]:=λx K Kp w=>c x.1 x.2.1.1 x.2.1.2.1 x.2.1.2.2.1 x.2.1.2.2.2.1 x.2.2.1 (λr1 w'=>K (.int .i64 r1) w') w
def s131:=mk 131 g65 (F.ED env) [AA1] (T0.ED env) func131 call131
def g66(c:Y53):Sem [.one (.ptr),.one (.int .i64),.one (.int .u64),.one (.int .i64),.one (.bool),.one (.bool),.one (.bool)]:=λx K Kp w=>c x.1 x.2.1 x.2.2.1 x.2.2.2.1 x.2.2.2.2.1 x.2.2.2.2.2.1 x.2.2.2.2.2.2.1 (λr1 w'=>K (.int .i64 r1) w') w
def sC:=mk 77 g66 (F.Fs env) [s131] (T0.Fs env) func77 call77 ⟨[],[(2,[(27,.one (.bool))]),(4,[(43,.one (.bool))])]⟩
def g67(c:qZ):Sem [.one (.ptr),.one (.int .i64),.one (.bool)]:=λx K Kp w=>c x.1 x.2.1 x.2.2.1 (λr1 w'=>K (.int .i64 r1) w') w
noncomputable def C30:Entry:=Oi (g67 (F.BC env))
def nV:Gs 30 (g67 (F.BC env)):=Xn 30 g67 (F.BC env) [s76,sC] (T0.BC env) func30 call30
def rD:Slot:=⟨30,_,λc=>Oi (g67 c),F.BC env,nV.any⟩
def sD:=Gz 79 nS (F.Bv env) func79 call79 ⟨[(3,[(3,.one (.int .i64)),(4,.one (.int .i64))])],[]⟩
def g68(c:Y55):Sem [.one (.ptr),.agg [.int .i64,.int .u64,.int .i64,.bool,.bool,.bool]]:=λx K Kp w=>c x.1 x.2.1.1 x.2.1.2.1 x.2.1.2.2.1 x.2.1.2.2.2.1 x.2.1.2.2.2.2.1 x.2.1.2.2.2.2.2.1 (λr1 w'=>K (.int .i64 r1) w') w
def s78:=Gz 78 g68 (F.GV env) func78 call78 ⟨[(4,[(5,.one (.int .i64))])],[(2,[(18,.one (.bool))]),(7,[(51,.one (.bool))])]⟩
def s31:=mk 31 g67 (F.A4 env) [MK,sD,s78] (T0.A4 env) func31 call31
def YL:=Gz 32 g55 (F.Ew env) func32 call32 ⟨[(2,[(4,.one (.sl)),(5,.one (.int .i64))])],[]⟩
def g69(c:rX):Sem [.one (.ptr),.one (.bool)]:=λx K Kp w=>c x.1 x.2.1 (λr1 w'=>K (.int .i64 r1) w') w
def aH:=Gz 48 g69 (F.Fa env) func48 call48 ⟨[(3,[(5,.one (.int .i64))])],[(4,[(14,.one (.bool))])]⟩
def s199:=Gz 199 sK (F.Ha env) func199 call199 ⟨[(2,[(12,.one (.int .i64))])],[(5,[(25,.one (.bool))])]⟩
def s132:=mk 132 sK (F.Fj env) [s199] (T0.Fj env) func132 call132
def s80:=mk 80 sK (F.Ft env) [s132] (T0.Ft env) func80 call80
def g70(c:Vk):Sem [.one (.int .u32),.one (.int .u32)]:=λx K Kp w=>c x.1 x.2.1 (λr1 w'=>K (.int .u32 r1) w') w
def s133:=Gz 133 g70 (F.Ts env) func133 call133
def g71(c:iX):Sem [.one (.ptr),.one (.int .u64)]:=λx K Kp w=>c x.1 x.2.1 (λr1 r2 w'=>K (.tuple ⟨[.int .i64 r1,.int .i64 r2]⟩) w') w
def s81:=mk 81 g71 (F.Ek env) [s133] (T0.Ek env) func81 call81 ⟨[],[(2,[(36,.one (.bool))])]⟩
def xL(c:U3):Sem [.one (.ptr),.one (.int .i64)]:=λx K Kp w=>c x.1 x.2.1 (λr1 w'=>K (.bool r1) w') w
def sT:=Gz 134 xL (F.El env) func134 call134
def s82:=mk 82 g9 (F.Ea env) [sT,ND] (T0.Ea env) func82 call82
def s83:=mk 83 nS (F.FI env) [aH] (T0.FI env) func83 call83 ⟨[(5,[]),(9,[(25,.one (.int .i64))])],[(6,[(18,.one (.bool))])]⟩
def g73(c:vH):Sem [.one (.ptr),.one (.sl)]:=λx K Kp w=>c x.1 x.2.1 (λr1 w'=>K (.int .i64 r1) w') w
def PW:=mk 33 g73 (F.Cc env) [aH,s80,s76,s81,s82,s83] (T0.Cc env) func33 call33 ⟨[(4,[(20,.one (.int .i64))])],[]⟩
def s49:=Gz 49 g69 (F.C6 env) func49 call49 ⟨[(3,[(5,.one (.int .i64)),(6,.one (.int .i64))])],[]⟩
def s84:=Gz 84 sK (F.Gm env) func84 call84 ⟨[(2,[(5,.one (.int .i64))])],[(6,[(44,.one (.bool))])]⟩
def s85:=Gz 85 g71 (F.Fk env) func85 call85 ⟨[],[(3,[(31,.one (.bool))])]⟩
def s86:=mk 86 g9 (F.A7 env) [s72] (T0.A7 env) func86 call86 ⟨[],[(4,[(19,.one (.bool))])]⟩
def rF:=mk 87 nS (F.Cf env) [s49] (T0.Cf env) func87 call87 ⟨[(4,[(3,.one (.int .i64))])],[]⟩
def Nl:=mk 34 g73 (F.BX env) [s49,s84,MK,s85,s86,rF] (T0.BX env) func34 call34 ⟨[(4,[(5,.one (.int .i64))])],[]⟩
def g74(c:VA):Sem [.one (.ptr)]:=λx K Kp w=>c x.1 (λr1 r2 w'=>K (.tuple ⟨[.int .i64 r1,.bool r2]⟩) w') w
def s88:=Gz 88 g74 (F.I6 env) func88 call88 ⟨[(3,[(4,.one (.ptr))])],[(4,[(13,.one (.bool))]),(6,[(41,.one (.bool))])]⟩
def s89:=mk 89 g9 (F.EJ env) [s131] (T0.EJ env) func89 call89
def s35:=mk 35 g74 (F.B7 env) [s88,s89] (T0.B7 env) func35 call35
def s90:=Gz 90 g74 (F.Fl env) func90 call90 ⟨[(3,[(4,.one (.int .i64)),(5,.one (.int .i64))])],[(6,[(46,.one (.bool))])]⟩
def s135:=Gz 135 g55 (F.GW env) func135 call135
def s91:=mk 91 g9 (F.CF env) [s135] (T0.CF env) func91 call91 ⟨[(2,[(5,.one (.int .i64))])],[]⟩
def Pz:=mk 36 g74 (F.A8 env) [s90,s91] (T0.A8 env) func36 call36
def sA:=Gz 150 z8 (F.Gr env) func150 call150 ⟨[(2,[(10,.one (.int .i64))])],[(6,[(4,.one (.int .u64))])]⟩
def s151:=mk 151 g38 (F.B3 env) [xC] (T0.B3 env) func151 call151 ⟨[(3,[(7,.one (.sl)),(8,.one (.ptr))])],[]⟩
def s214:=Gz 214 g57 (F.It env) func214 call214
def wX:=mk 152 xL (F.FJ env) [sT,s214] (T0.FJ env) func152 call152
def s153:=mk 153 xL (F.EK env) [sT,s214] (T0.EK env) func153 call153
def bJ:=mk 154 g59 (F.FK env) [sT] (T0.FK env) func154 call154
def g75(c:Ni):Sem [.one (.ptr),.one (.int .u64),.one (.int .i64)]:=λx K Kp w=>c x.1 x.2.1 x.2.2.1 (λr1 r2 w'=>K (.tuple ⟨[.int .u64 r1,.int .i64 r2]⟩) w') w
def s155:=mk 155 g75 (F.CH env) [xC,s74] (T0.CH env) func155 call155
def g76(c:lP):Sem [.one (.ptr),.one (.int .u64)]:=λx K Kp w=>c x.1 x.2.1 (λr1 w'=>K (.slice r1.base r1.len r1.cap) w') w
def s215:=mk 215 g76 (F.DJ env) [xC] (T0.DJ env) func215 call215 ⟨[(3,[(5,.one (.sl)),(6,.one (.ptr))])],[]⟩
def s156:=mk 156 g76 (F.Cg env) [s215,xC] (T0.Cg env) func156 call156 ⟨[(4,[(15,.one (.int .i64))])],[]⟩
end
end Go.Sh

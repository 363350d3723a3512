/- Each shallow form is what the code of its function comes to, piece 2. No further condition. -/
import Derived.Test.YtjibkpcalinfhaaGreatDoorT
import Derived.Test.YtjibkpcalinfhaaGreatDoorProg
import Derived.KernelRfl
set_option linter.all false
set_option maxRecDepth 100000
set_option maxHeartbeats 4000000
namespace Go.Sh
open Go.Proofs Go.Proofs.Tryz
noncomputable section
def tY:=mk 142 rU (F.Cd env) [yH,e9,yG] (T0.Cd env) func142 call142 ⟨[(8,[(9,.one (.bool)),(10,.one (.int .u64))]),(19,[(12,.one (.int .i64))])],[(25,[(94,.one (.bool))]),(27,[(14,.one (.int .u64))])]⟩
def oU(c:I5):Sem [.one (.ptr),.one (.int .u64)]:=λx K Kp w=>c x.1 x.2.1 (λr1 w'=>K (.int .i64 r1) w') w
def Zi:=mk 143 oU (F.Cw env) [e9] (T0.Cw env) func143 call143
def g49(c:NK):Sem [.one (.ptr),.one (.int .i64),.one (.int .u64)]:=λx K Kp w=>c x.1 x.2.1 x.2.2.1 (λr1 r2 w'=>K (.tuple ⟨[.int .u64 r1,.int .i64 r2]⟩) w') w
def s99:=mk 99 g49 (F.CW env) [yD,s137,tX,s139,s140,tK,tY,Zi,yB] (T0.CW env) func99 call99 ⟨[(20,[(13,.one (.int .u64))])],[(3,[(23,.one (.bool))]),(5,[]),(6,[(8,.one (.int .u64)),(9,.one (.int .i64))]),(8,[(8,.one (.int .u64)),(9,.one (.int .i64))]),(16,[(8,.one (.int .u64)),(9,.one (.int .i64))])]⟩
def tZ:=GV 144 uJ (F.GI env) func144 call144
def tS:=mk 100 g41 (F.Cx env) [tZ] (T0.Cx env) func100 call100 ⟨[(3,[(6,.one (.int .i64))])],[(5,[(6,.one (.int .i64))])]⟩
def g50(c:sX):Sem [.one (.ptr),.one (.int .i64),.one (.int .u64),.one (.int .i64),.one (.bool)]:=λx K Kp w=>c x.1 x.2.1 x.2.2.1 x.2.2.2.1 x.2.2.2.2.1 (λr1 r2 w'=>K (.tuple ⟨[.int .i64 r1,.int .i64 r2]⟩) w') w
def PX:=mk 57 g50 (F.CX env) [s98,s99,tS] (T0.CX env) func57 call57
def UW:=mk 20 g12 (F.Bi env) [nQ,PZ,V2,Uv,jL,PX] (T0.Bi env) func20 call20 ⟨[(7,[(45,.one (.int .i64))]),(9,[])],[(2,[(27,.one (.bool))])]⟩
def Zh:=GV 21 yC (F.F1 env) func21 call21 ⟨[],[(6,[(7,.one (.int .i64))])]⟩
def g51(c:wP):Sem [.one (.ptr),.one (.int .i64)]:=λx K Kp w=>c x.1 x.2.1 (λr1 r2 w'=>K (.tuple ⟨[.pointer r1,.int .i64 r2]⟩) w') w
def Oe:=GV 25 g51 (F.Dx env) func25 call25
def g52(c:kA):Sem [.one (.ptr)]:=λx K Kp w=>c x.1 (λr1 r2 j v y C J O T d w'=>K (.agg ⟨[.int .u64 r1,.int .i64 r2,.int .i64 j,.int .i64 v,.bool y,.int .i64 C,.int .i64 J,.int .i64 O,.bool T,.bool d]⟩) w') w
def ZH:=GV 37 g52 (F.B7 env) func37 call37
noncomputable def C37:Entry:=TP (g52 (F.B7 env))
def uK:GL 37 (g52 (F.B7 env)):=ZH.ok
def g53(c:wQ):Sem [.one (.ptr),.one (.int .i64)]:=λx K Kp w=>c x.1 x.2.1 (λr1 r2 y C J O T Y r9 d j v w'=>K (.tuple ⟨[.pointer r1,.agg ⟨[.int .u64 r2,.int .i64 y,.int .i64 C,.int .i64 J,.bool O,.int .i64 T,.int .i64 Y,.int .i64 r9,.bool d,.bool j]⟩,.int .i64 v]⟩) w') w
def eZ:=mk 65 g53 (F.Bj env) [Oe,ZH] (T0.Bj env) func65 call65
noncomputable def C65:Entry:=TP (g53 (F.Bj env))
def uL:GL 65 (g53 (F.Bj env)):=eZ.ok
def g54(c:Y45):Sem [.one (.int .i64),.one (.any)]:=λx K Kp w=>c x.1 x.2.1 (λr1 w'=>K (.int .i64 r1) w') w
def yJ:=GV 146 g54 (F.KD env) func146 call146 ⟨[(2,[(5,.one (.int .i64)),(6,.one (.int .i64))])],[]⟩
def g55(c:xK):Sem [.one (.ptr),.agg [.int .i64,.bool,.bool,.bool],.one (.int .u64)]:=λx K Kp w=>c x.1 x.2.1.1 x.2.1.2.1 x.2.1.2.2.1 x.2.1.2.2.2.1 x.2.2.1 (λr1 w'=>K (.int .i64 r1) w') w
def yK:=mk 107 g55 (F.Dy env) [yJ] (T0.Dy env) func107 call107
def g56(c:Y47):Sem [.one (.ptr),.one (.int .i64),.one (.int .u64),.one (.int .i64),.one (.bool),.one (.bool),.one (.bool)]:=λx K Kp w=>c x.1 x.2.1 x.2.2.1 x.2.2.2.1 x.2.2.2.2.1 x.2.2.2.2.2.1 x.2.2.2.2.2.2.1 (λr1 w'=>K (.int .i64 r1) w') w
def s101:=mk 101 g56 (F.Fe env) [yK] (T0.Fe env) func101 call101 ⟨[],[(2,[(27,.one (.bool))]),(4,[(43,.one (.bool))])]⟩
def s58:=mk 58 yC (F.B4 env) [eZ,s101] (T0.B4 env) func58 call58
noncomputable def C58:Entry:=TP (yC (F.B4 env))
def uM:GL 58 (yC (F.B4 env)):=s58.ok
def ZI:=mk 22 fC (F.By env) [s58] (T0.By env) func22 call22
def Ux:=mk 23 fC (F.BZ env) [uG] (T0.BZ env) func23 call23
def Mr:=GV 24 g5 (F.DS env) func24 call24
def g57(c:Y9):Sem [.one (.int .u64)]:=λx K Kp w=>c x.1 (λr1 w'=>K (.int .i64 r1) w') w
def kC:=GV 103 g57 (F.Bq env) func103 call103
def g58(c:Y48):Sem [.one (.sl),.one (.int .i64)]:=λx K Kp w=>c x.1 x.2.1 (λr1 w'=>K (.int .i64 r1) w') w
def s61:=mk 61 g58 (F.E4 env) [kC] (T0.E4 env) func61 call61 ⟨[(2,[(5,.one (.int .i64))])],[(7,[(6,.one (.int .u64))])]⟩
def s62:=GV 62 g13 (F.JT env) func62 call62 ⟨[(0,[])],[]⟩
def g59(c:sY):Sem [.one (.ptr)]:=λx K Kp w=>c x.1 (λr1 r2 w'=>K (.tuple ⟨[.int .i64 r1,.int .i64 r2]⟩) w') w
def PW:=mk 27 g59 (F.Dq env) [s61,s62] (T0.Dq env) func27 call27
def Of:=mk 28 g59 (F.CE env) [Za,s64] (T0.CE env) func28 call28 ⟨[(4,[(4,.one (.int .i64))])],[]⟩
def g60(c:oI):Sem [.one (.ptr),.one (.bool)]:=λx K Kp w=>c x.1 x.2.1 (λr1 w'=>K (.int .i64 r1) w') w
def uF:=GV 41 g60 (F.FM env) func41 call41 ⟨[(3,[(5,.one (.int .i64))])],[(4,[(14,.one (.bool))])]⟩
def oL:=GV 145 oU (F.G7 env) func145 call145 ⟨[(2,[(12,.one (.int .i64))])],[(5,[(25,.one (.bool))])]⟩
def s104:=mk 104 oU (F.FV env) [oL] (T0.FV env) func104 call104
def s66:=mk 66 oU (F.Ff env) [s104] (T0.Ff env) func66 call66
def g61(c:Y8):Sem [.one (.int .u32),.one (.int .u32)]:=λx K Kp w=>c x.1 x.2.1 (λr1 w'=>K (.int .u32 r1) w') w
def s105:=GV 105 g61 (F.TJ env) func105 call105
def g62(c:eX):Sem [.one (.ptr),.one (.int .u64)]:=λx K Kp w=>c x.1 x.2.1 (λr1 r2 w'=>K (.tuple ⟨[.int .i64 r1,.int .i64 r2]⟩) w') w
def tC:=mk 67 g62 (F.Ed env) [s105] (T0.Ed env) func67 call67 ⟨[],[(2,[(36,.one (.bool))])]⟩
def fA:=GV 106 uI (F.Ee env) func106 call106
def cQ:=mk 68 fC (F.EV env) [fA,s62] (T0.EV env) func68 call68
def s69:=mk 69 uJ (F.E5 env) [uF] (T0.E5 env) func69 call69 ⟨[(5,[]),(9,[(25,.one (.int .i64))])],[(6,[(18,.one (.bool))])]⟩
def g63(c:sZ):Sem [.one (.ptr),.one (.sl)]:=λx K Kp w=>c x.1 x.2.1 (λr1 w'=>K (.int .i64 r1) w') w
def s31:=mk 31 g63 (F.B8 env) [uF,s66,eZ,tC,cQ,s69] (T0.B8 env) func31 call31 ⟨[(4,[(20,.one (.int .i64))])],[]⟩
def XW:=GV 42 g60 (F.Da env) func42 call42 ⟨[(3,[(5,.one (.int .i64)),(6,.one (.int .i64))])],[]⟩
def ZG:=GV 70 oU (F.GY env) func70 call70 ⟨[(2,[(5,.one (.int .i64))])],[(6,[(44,.one (.bool))])]⟩
def s71:=GV 71 g62 (F.FW env) func71 call71 ⟨[],[(3,[(31,.one (.bool))])]⟩
def xS:=mk 73 uJ (F.Cf env) [XW] (T0.Cf env) func73 call73 ⟨[(4,[(3,.one (.int .i64))])],[]⟩
def V0:=mk 32 g63 (F.A3 env) [XW,ZG,V2,s71,s72,xS] (T0.A3 env) func32 call32 ⟨[(4,[(5,.one (.int .i64))])],[]⟩
def g64(c:Wu):Sem [.one (.ptr)]:=λx K Kp w=>c x.1 (λr1 r2 w'=>K (.tuple ⟨[.int .i64 r1,.bool r2]⟩) w') w
def s74:=GV 74 g64 (F.Ij env) func74 call74 ⟨[(3,[(4,.one (.ptr))])],[(4,[(13,.one (.bool))]),(6,[(41,.one (.bool))])]⟩
def oP:=mk 75 fC (F.Db env) [yK] (T0.Db env) func75 call75
def Pa:=mk 33 g64 (F.C2 env) [s74,oP] (T0.C2 env) func33 call33
def tR:=GV 76 g64 (F.FY env) func76 call76 ⟨[(3,[(4,.one (.int .i64)),(5,.one (.int .i64))])],[(6,[(46,.one (.bool))])]⟩
def xT:=mk 77 fC (F.CH env) [s95] (T0.CH env) func77 call77 ⟨[(2,[(5,.one (.int .i64))])],[]⟩
def Uw:=mk 34 g64 (F.Ba env) [tR,xT] (T0.Ba env) func34 call34
def oN:=GV 108 wV (F.Gb env) func108 call108 ⟨[(2,[(10,.one (.int .i64))])],[(6,[(4,.one (.int .u64))])]⟩
def g65(c:wR):Sem [.one (.ptr),.one (.int .u64),.one (.int .i64)]:=λx K Kp w=>c x.1 x.2.1 x.2.2.1 (λr1 w'=>K (.pointer r1) w') w
def oV:=GV 148 g65 (F.Df env) func148 call148 ⟨[(2,[(7,.one (.ptr))])],[(3,[])]⟩
def g66(c:kB):Sem [.one (.ptr),.one (.int .u64),.one (.int .u64)]:=λx K Kp w=>c x.1 x.2.1 x.2.2.1 (λr1 w'=>K (.slice r1.base r1.len r1.cap) w') w
def tE:=mk 109 g66 (F.Bz env) [oV] (T0.Bz env) func109 call109 ⟨[(3,[(7,.one (.sl)),(8,.one (.ptr))])],[]⟩
def yL:=GV 149 g17 (F.IS env) func149 call149
def s110:=mk 110 uI (F.E6 env) [fA,yL] (T0.E6 env) func110 call110
def tF:=mk 111 uI (F.EE env) [fA,yL] (T0.EE env) func111 call111
def s112:=mk 112 g19 (F.E7 env) [fA] (T0.E7 env) func112 call112
def g67(c:iL):Sem [.one (.ptr),.one (.int .u64),.one (.int .i64)]:=λx K Kp w=>c x.1 x.2.1 x.2.2.1 (λr1 w'=>K (.bool r1) w') w
def uA:=GV 150 g67 (F.MI env) func150 call150
def s113:=mk 113 g21 (F.CI env) [oV,uA] (T0.CI env) func113 call113
def s151:=mk 151 g23 (F.DH env) [oV] (T0.DH env) func151 call151 ⟨[(3,[(5,.one (.sl)),(6,.one (.ptr))])],[]⟩
def Jt:=mk 114 g23 (F.Cg env) [s151,oV] (T0.Cg env) func114 call114 ⟨[(4,[(15,.one (.int .i64))])],[]⟩
def g68(c:Y54):Sem [.one (.ptr),.one (.ptr),.agg [.int .u64,.int .i64,.int .i64,.int .i64,.bool,.int .i64,.int .i64,.int .i64,.bool,.bool]]:=λx K Kp w=>c x.1 x.2.1 x.2.2.1.1 x.2.2.1.2.1 x.2.2.1.2.2.1 x.2.2.1.2.2.2.1 x.2.2.1.2.2.2.2.1 x.2.2.1.2.2.2.2.2.1 x.2.2.1.2.2.2.2.2.2.1 x.2.2.1.2.2.2.2.2.2.2.1 x.2.2.1.2.2.2.2.2.2.2.2.1 x.2.2.1.2.2.2.2.2.2.2.2.2.1 (λw'=>K (.tuple ⟨[]⟩) w') Kp w
def tD:=mk 79 g68 (F.BF env) [oN,tE,s110,tF,s112,s113,cQ,Jt] (T0.BF env) func79 call79 ⟨[(5,[(33,.one (.int .i64))])],[]⟩
noncomputable def C79:Entry:=TP (g68 (F.BF env))
def uN:GL 79 (g68 (F.BF env)):=tD.ok
def s80:=mk 80 g24 (F.C7 env) [oN,kC] (T0.C7 env) func80 call80 ⟨[(7,[(4,.one (.sl)),(22,.one (.int .i64))]),(13,[(4,.one (.sl)),(6,.one (.int .u64))])],[(12,[(6,.one (.int .u64))])]⟩
noncomputable def C80:Entry:=TP (g24 (F.C7 env))
def uO:GL 80 (g24 (F.C7 env)):=s80.ok
def s115:=GV 115 uJ (F.Jz env) func115 call115 ⟨[],[(2,[(16,.one (.bool))])]⟩
def oW:=mk 190 oU (F.DT env) [yJ] (T0.DT env) func190 call190
def g69(c:O7):Sem [.one (.ptr),.one (.int .u64),.one (.int .u64)]:=λx K Kp w=>c x.1 x.2.1 x.2.2.1 (λr1 w'=>K (.int .u64 r1) w') w
def V1:=mk 152 g69 (F.BG env) [oW] (T0.BG env) func152 call152 ⟨[(3,[(7,.one (.int .u64)),(8,.one (.int .i64))])],[]⟩
def uP(c:UN):Sem [.one (.ptr),.one (.int .u64),.one (.int .u64)]:=λx K Kp w=>c x.1 x.2.1 x.2.2.1 (λw'=>K (.tuple ⟨[]⟩) w') w
def XV:=GV 153 uP (F.IT env) func153 call153 ⟨[(2,[(6,.one (.sl)),(16,.one (.int .i64))]),(14,[]),(19,[(10,.one (.int .u64))])],[(5,[(29,.one (.bool))]),(8,[(6,.one (.sl))]),(15,[(81,.one (.bool))]),(17,[(91,.one (.bool))])]⟩
def g71(c:xL):Sem [.one (.ptr),.one (.int .u64),.one (.int .u64),.one (.int .i64)]:=λx K Kp w=>c x.1 x.2.1 x.2.2.1 x.2.2.2.1 (λr1 w'=>K (.int .i64 r1) w') w
def oO:=mk 116 g71 (F.Dr env) [V1,XV] (T0.Dr env) func116 call116 ⟨[],[(2,[(20,.one (.bool))]),(4,[(28,.one (.bool))]),(14,[])]⟩
def g72(c:xM):Sem [.one (.ptr),.one (.int .u64),.one (.int .u64),.one (.bool),.one (.int .i64)]:=λx K Kp w=>c x.1 x.2.1 x.2.2.1 x.2.2.2.1 x.2.2.2.2.1 (λr1 w'=>K (.int .i64 r1) w') w
def yM:=mk 191 g72 (F.DK env) [V1] (T0.DK env) func191 call191 ⟨[],[(4,[(11,.one (.int .u64))]),(5,[(14,.one (.bool))])]⟩
def uQ:=mk 213 uP (F.Cm env) [V1,oW] (T0.Cm env) func213 call213 ⟨[(5,[(7,.one (.int .i64)),(8,.one (.sl))])],[(10,[(8,.one (.sl))]),(12,[(7,.one (.int .i64)),(8,.one (.sl))])]⟩
def kI:=mk 192 uP (F.BW env) [uQ,oW] (T0.BW env) func192 call192 ⟨[],[(7,[(51,.one (.bool))]),(9,[(8,.one (.int .i64))]),(10,[(77,.one (.bool))]),(12,[(6,.one (.int .i64))])]⟩
def g73(c:xN):Sem [.one (.ptr),.one (.int .u64),.one (.int .u64),.one (.ptr)]:=λx K Kp w=>c x.1 x.2.1 x.2.2.1 x.2.2.2.1 (λr1 w'=>K (.int .i64 r1) w') w
def yN:=mk 156 g73 (F.Dc env) [yM,kI,s90] (T0.Dc env) func156 call156
def oK:=mk 117 rU (F.C8 env) [yN] (T0.C8 env) func117 call117
def tN:=GV 157 uI (F.MJ env) func157 call157
def tT:=mk 118 fC (F.GJ env) [tN] (T0.GJ env) func118 call118
def s81:=mk 81 fC (F.C9 env) [s115,ZH,oO,oK,tT] (T0.C9 env) func81 call81
noncomputable def C81:Entry:=TP (fC (F.C9 env))
def uR:GL 81 (fC (F.C9 env)):=s81.ok
noncomputable def D78:L9:=λargs d w K=>unArgs [.one (.ptr),.one (.ptr),.one (.ptr)] args.toList λx=>F.Cl env x.1 x.2.1 x.2.2.1 (d.getD .nilIface) (λw'=>K d.isSome w') w
noncomputable def kJ:Code:=(Tryz.f78.body).getD .skip
def rV:Sm:={loops:=[],Q7:=[]}
noncomputable def kK:Code:=((recOf kJ).map (·.2)).getD .skip
def yO(x:I0 [.one (.ptr),.one (.ptr),.one (.ptr)])(v:Value)(K:World->Prop)(w:World):F.Cl env x.1 x.2.1 x.2.2.1 v K w=
 ev Tryz.prog (tabC []) (ground Tryz.prog) rV kK (finQ Tryz.prog Tryz.f78 (λ_ w'=>K w') Kk) ((HY (mkArgs [.one (.ptr),.one (.ptr),.one (.ptr)] x)).put 6 v) w:=by kernel_rfl
def oX:IM Tryz.prog 78 D78:=
 eN (T:=[]) (A:=rV) (fn:=Tryz.f78) (c:=kJ) (y:=kK) (d:=6) (l:=[.one (.ptr),.one (.ptr),.one (.ptr)]) (F:=λ(x:I0 [.one (.ptr),.one (.ptr),.one (.ptr)]) v K w=>F.Cl env x.1 x.2.1 x.2.2.1 v K w) Lk mixed Tryz.func78 Tryz.call78 (by kernel_rfl) (by kernel_rfl) (by kernel_rfl) (by kernel_rfl) (by kernel_rfl) yO
end
end Go.Sh

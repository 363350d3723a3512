/- Each shallow form is what the code of its function comes to, piece 1. No further condition. -/
import Derived.Test.YtjibkpcalinfhaaGreatDoorF
import Derived.Test.YtjibkpcalinfhaaGreatDoorProg
import Derived.KernelRfl
set_option linter.all false
set_option maxRecDepth 100000
set_option maxHeartbeats 4000000
namespace Go.Sh
open Go.Proofs Go.Proofs.Tryz
noncomputable section
def mixed:Tryz.prog.follows .mixedOrders=true:=by kernel_rfl
noncomputable def env:Env:={call:=ground Tryz.prog,AD:=67,Ad:=4,HI:=25,CZ:=125,Ev:=235,PT:=201,RC:=205,Km:=209,Fq:=211,Ac:=135,Ew:=143,DN:=146,Ea:=148,ES:=150,Au:=88,JO:=152,Cp:=77,Ae:=84,A7:=62,BX:=66,BS:=69,Ar:=167,EO:=157,Ah:=198,AN:=189,CO:=3,AZ:=101,DO:=103,Ap:=285,Iq:=297,A0:=288,Be:=113,I6:=195,NL:=196,HZ:=226,DZ:=224,BY:=257,Ga:=183,NM:=260,PU:=128,AE:=291,CP:=71,JP:=44,HM:=298,BM:=49,BT:=38,D5:=41,B6:=159,Ey:=173,GD:=262,Fb:=207,TH:=292,EB:=50,Dd:=51,ET:=52,EC:=53,IG:=147,Ir:=215,GF:=154,GG:=88,AJ:=0,Ls:=0,HO:=0}
def xW:Sm:={loops:=[],Q7:=[]}
abbrev Sem(l:List VT):=I0 l->(Value->World->Prop)->(Value->World->Prop)->World->Prop
def TP{l:List VT}(F:Sem l):Entry:=λargs w K Kp=>unArgs l args.toList λx=>F x K Kp w
noncomputable def oR(T:List (Nat×Entry))(A:Sm)(fn:Func){l:List VT}:Sem l:=λx K Kp w=>ev Tryz.prog (tabC T) (ground Tryz.prog) A (fn.body.getD .skip) (finQ Tryz.prog fn K Kp) (HY (mkArgs l x)) w
abbrev GL(f:FuncId){l:List VT}(F:Sem l):Prop:=Hr Tryz.prog f (TP F)
def oS{T:List (Nat×Entry)}{A:Sm}{f:FuncId}{fn:Func}{l:List VT}{F:Sem l}
 (y: ∀p∈T,Gn Tryz.prog p.1 p.2)(hf:Tryz.prog.funcs[f]? =some fn)(d: ∀args w,(callFunc f args).run Tryz.prog w= .ok (.enter f args) w)
 (j:F=oR T A fn)(J:fn.body=some (fn.body.getD .skip):=by kernel_rfl)(v:Nat.ble l.length fn.ntmps=true:=by kernel_rfl)(C:withinB fn.ntmps (written (fn.body.getD .skip))=true:=by kernel_rfl):GL f F:=
 Q8 y mixed hf d J v C λ_ _ _ _=>congrFun (congrFun (congrFun (congrFun j _) _) _) _
structure Slot where
 f:Nat
 Y:Type
 G:Y->Entry
 v:Y
 ok:Hr Tryz.prog f (G v)
def Cs:List Slot->Type->Type
 | [],R=>R
 | s::l,R=>s.Y->Cs l R
def apC{R:Type}:(l:List Slot)->Cs l R->R
 | [],t=>t
 | s::l,t=>apC l (t s.v)
def mpC{R Q:Type}(g:R->Q):(l:List Slot)->Cs l R->Cs l Q
 | [],t=>g t
 | _::l,t=>λc=>mpC g l (t c)
def tbC{sh:List VT}(A:Sm)(fn:Func):(l:List Slot)->List (Nat×Entry)->Cs l (Sem sh)
 | [],T=>oR T A fn
 | s::l,T=>λc=>tbC A fn l ((s.f,s.G c)::T)
def rT{sh:List VT}{Y:Type}{G:Y->Sem sh}{A:Sm}{fn:Func}: ∀(l:List Slot) (T:List (Nat×Entry)) (t:Cs l Y),mpC G l t=tbC A fn l T->(∀p∈T,Gn Tryz.prog p.1 p.2)-> ∃d,(∀p∈d,Gn Tryz.prog p.1 p.2)/\G (apC l t)=oR d A fn
 | [],T,_,h,hT=>⟨T,hT,h⟩
 | s::l,_,t,h,hT=>rT l _ (t s.v) (congrFun h s.v) (DE s.ok hT)
def mk(f:Nat){sh:List VT}{Y:Type}(G:Y->Sem sh)(v:Y)(l:List Slot)(t:Cs l Y){fn:Func}(hf:Tryz.prog.funcs[f]? =some fn)(d: ∀args w,(callFunc f args).run Tryz.prog w= .ok (.enter f args) w)(A:Sm:=xW)
 (J:apC l t=v:=by kernel_rfl)(h:mpC G l t=tbC A fn l []:=by kernel_rfl)(C:fn.body=some (fn.body.getD .skip):=by kernel_rfl)(j:Nat.ble sh.length fn.ntmps=true:=by kernel_rfl)(y:withinB fn.ntmps (written (fn.body.getD .skip))=true:=by kernel_rfl):Slot:=
 ⟨f,Y,λc=>TP (G c),v,by
 obtain⟨T,h1,h2⟩:=rT l [] t h Lk;rw[J]at h2;exact oS h1 hf d h2 C j y⟩
def GV(f:Nat){sh:List VT}{Y:Type}(G:Y->Sem sh)(v:Y){fn:Func}(hf:Tryz.prog.funcs[f]? =some fn)(d: ∀args w,(callFunc f args).run Tryz.prog w= .ok (.enter f args) w)(A:Sm:=xW)
 (h:G v=oR [] A fn:=by kernel_rfl)(C:fn.body=some (fn.body.getD .skip):=by kernel_rfl)(j:Nat.ble sh.length fn.ntmps=true:=by kernel_rfl)(y:withinB fn.ntmps (written (fn.body.getD .skip))=true:=by kernel_rfl):Slot:=
 mk f G v [] v hf d A rfl h C j y
def g0(c:Y0):Sem [.one (.sl)]:=λx K Kp w=>c x.1 (λr1 w'=>K (.slice r1.base r1.len r1.cap) w') w
def wS:=GV 43 g0 (F.Dg env) func43 call43
def rR:=GV 44 g0 (F.Eh env) func44 call44
def g1(c:Y1):Sem [.agg [.sl,.sl,.sl]]:=λx K Kp w=>c x.1.1 x.1.2.1 x.1.2.2.1 (λr1 w'=>K (.pointer r1) w') w
def Zg:=mk 11 g1 (F.JQ env) [wS,rR] (T0.JQ env) func11 call11
def g2(c:Y2):Sem [.one (.ptr)]:=λx K Kp w=>c x.1 (λw'=>K (.tuple ⟨[]⟩) w') w
def s90:=GV 90 g2 (F.DP env) func90 call90 ⟨[(2,[(5,.one (.int .i64))])],[]⟩
def g3(c:Y3):Sem []:=λx K Kp w=>c (λr1 w'=>K (.pointer r1) w') w
def s45:=mk 45 g3 (F.HJ env) [s90] (T0.HJ env) func45 call45
def TI:=GV 46 g3 (F.Lt env) func46 call46
def g4(c:Y4):Sem [.one (.int .i64)]:=λx K Kp w=>c x.1 (λr1 r2 w'=>K (.tuple ⟨[.pointer r1,.int .i64 r2]⟩) w') w
def s47:=GV 47 g4 (F.SK env) func47 call47 ⟨[],[(2,[(9,.one (.bool))])]⟩
def cO:=GV 48 g3 (F.MH env) func48 call48
def g5(c:Y5):Sem [.one (.ptr)]:=λx K Kp w=>c x.1 (λr1 w'=>K (.pointer r1) w') w
def G4:=mk 12 g5 (F.Ht env) [s45,TI,s47,cO] (T0.Ht env) func12 call12 ⟨[(4,[(18,.one (.int .i64))])],[]⟩
def Jk:=GV 13 g3 (F.PV env) func13 call13
def OA:=GV 14 g3 (F.LI env) func14 call14
def g6(c:Y6):Sem [.one (.ptr),.one (.ptr),.one (.ptr)]:=λx K Kp w=>c x.1 x.2.1 x.2.2.1 (λr1 w'=>K (.pointer r1) w') w
def Vz:=GV 15 g6 (F.Nu env) func15 call15
def iM:=GV 16 g5 (F.LJ env) func16 call16
def cM:=GV 17 g5 (F.A8 env) func17 call17
def s4:=mk 4 g1 (F.Cq env) [Zg,G4,Jk,OA,Vz,iM,cM] (T0.Cq env) func4 call4 ⟨[],[(2,[(3,.one (.ptr))]),(6,[(38,.one (.bool))]),(12,[(54,.one (.bool))])]⟩
def s7:=GV 7 g1 (F.JR env) func7 call7
def wT:=GV 18 g4 (F.Ih env) func18 call18 ⟨[],[(2,[(9,.one (.bool))])]⟩
def s6:=mk 6 g5 (F.Eb env) [wT] (T0.Eb env) func6 call6
def s5:=GV 5 g5 (F.Ii env) func5 call5
def g7(c:Y7):Sem [.one (.int .u64)]:=λx K Kp w=>c x.1 (λr1 w'=>K (.bool r1) w') w
def xX:=GV 127 g7 (F.PY env) func127 call127
def g8(c:Y8):Sem [.one (.int .i64),.one (.int .i64)]:=λx K Kp w=>c x.1 x.2.1 (λr1 w'=>K (.int .i64 r1) w') w
def tV:=mk 128 g8 (F.Ha env) [xX] (T0.Ha env) func128 call128
def tI:=GV 129 g8 (F.LK env) func129 call129 ⟨[(2,[(5,.one (.int .i64))])],[]⟩
def g9(c:Y9):Sem [.one (.int .u32)]:=λx K Kp w=>c x.1 (λr1 w'=>K (.int .u32 r1) w') w
def tW:=GV 130 g9 (F.Nv env) func130 call130
def g10(c:rN):Sem [.one (.int .i64),.one (.int .i64)]:=λx K Kp w=>c x.1 x.2.1 (λr1 r2 w'=>K (.tuple ⟨[.slice r1.base r1.len r1.cap,.int .i64 r2]⟩) w') w
def s91:=mk 91 g10 (F.Is env) [xX,tV,tI,tW] (T0.Is env) func91 call91 ⟨[(6,[(6,.one (.sl)),(7,.one (.int .i64)),(8,.one (.int .i64))]),(15,[(107,.one (.int .i64))])],[(2,[(42,.one (.bool))]),(12,[(91,.one (.bool))]),(22,[])]⟩
def g11(c:wO):Sem []:=λx K Kp w=>c (λr1 w'=>K (.slice r1.base r1.len r1.cap) w') w
def xR:=mk 49 g11 (F.Fc env) [s91] (T0.Fc env) func49 call49
def g12(c:rO):Sem [.one (.ptr),.one (.int .i64),.one (.int .i64),.one (.bool)]:=λx K Kp w=>c x.1 x.2.1 x.2.2.1 x.2.2.2.1 (λr1 r2 w'=>K (.tuple ⟨[.int .i64 r1,.int .i64 r2]⟩) w') w
def FT:=mk 19 g12 (F.BJ env) [xR] (T0.BJ env) func19 call19 ⟨[(4,[(8,.one (.int .i64)),(9,.one (.int .i64)),(33,.one (.int .i64))])],[(2,[(22,.one (.bool))]),(8,[(51,.one (.bool))])]⟩
def g13(c:sU):Sem [.one (.ptr),.one (.int .i64)]:=λx K Kp w=>c x.1 x.2.1 (λw'=>K (.tuple ⟨[]⟩) w') w
def s95:=GV 95 g13 (F.Ez env) func95 call95
def g14(c:rQ):Sem [.one (.ptr),.one (.int .i64),.one (.bool),.one (.bool),.one (.bool)]:=λx K Kp w=>c x.1 x.2.1 x.2.2.1 x.2.2.2.1 x.2.2.2.2.1 (λr1 r2 w'=>K (.tuple ⟨[.int .i64 r1,.bool r2]⟩) w') w
def nQ:=mk 54 g14 (F.Bn env) [s95] (T0.Bn env) func54 call54 ⟨[(3,[(12,.one (.int .i64)),(13,.one (.int .i64))])],[(7,[(70,.one (.bool))])]⟩
def fC(c:I5):Sem [.one (.ptr),.one (.int .i64)]:=λx K Kp w=>c x.1 x.2.1 (λr1 w'=>K (.int .i64 r1) w') w
def s60:=GV 60 fC (F.Em env) func60 call60 ⟨[(2,[(5,.one (.int .i64))])],[]⟩
def g16(c:iJ):Sem [.one (.ptr),.one (.int .i64)]:=λx K Kp w=>c x.1 x.2.1 (λr1 w'=>K (.pointer r1) w') w
def V2:=mk 26 g16 (F.Am env) [s60] (T0.Am env) func26 call26
def g17(c:oF):Sem [.one (.sl),.one (.int .i64)]:=λx K Kp w=>c x.1 x.2.1 (λr1 w'=>K (.bool r1) w') w
def Za:=GV 63 g17 (F.Fs env) func63 call63
def uI(c:TG):Sem [.one (.ptr),.one (.int .i64)]:=λx K Kp w=>c x.1 x.2.1 (λr1 w'=>K (.bool r1) w') w
def s82:=mk 82 uI (F.BN env) [Za] (T0.BN env) func82 call82
def IQ:=mk 29 uI (F.Ax env) [Za] (T0.Ax env) func29 call29
def g19(c:eX):Sem [.one (.ptr),.one (.int .i64)]:=λx K Kp w=>c x.1 x.2.1 (λr1 r2 w'=>K (.tuple ⟨[.int .u64 r1,.int .i64 r2]⟩) w') w
def nR:=GV 30 g19 (F.Cc env) func30 call30 ⟨[],[(2,[(15,.one (.bool))])]⟩
def g20(c:Ws):Sem [.one (.ptr),.one (.int .u64),.one (.int .i64)]:=λx K Kp w=>c x.1 x.2.1 x.2.2.1 (λr1 r2 w'=>K (.tuple ⟨[.int .i64 r1,.bool r2]⟩) w') w
def tG:=GV 119 g20 (F.Ei env) func119 call119 ⟨[(2,[(8,.one (.int .i64))])],[(3,[]),(4,[(8,.one (.int .i64))])]⟩
def g21(c:NK):Sem [.one (.ptr),.one (.int .u64),.one (.int .i64)]:=λx K Kp w=>c x.1 x.2.1 x.2.2.1 (λr1 r2 w'=>K (.tuple ⟨[.int .u64 r1,.int .i64 r2]⟩) w') w
def s83:=mk 83 g21 (F.Av env) [tG] (T0.Av env) func83 call83
def g22(c:Y22):Sem [.one (.sl),.one (.int .i64),.one (.bool)]:=λx K Kp w=>c x.1 x.2.1 x.2.2.1 (λr1 w'=>K (.slice r1.base r1.len r1.cap) w') w
def s64:=GV 64 g22 (F.G6 env) func64 call64 ⟨[(1,[(0,.one (.sl))])],[]⟩
def s72:=mk 72 fC (F.BC env) [s64] (T0.BC env) func72 call72 ⟨[],[(4,[(19,.one (.bool))])]⟩
def g23(c:iK):Sem [.one (.ptr),.one (.int .u64)]:=λx K Kp w=>c x.1 x.2.1 (λr1 w'=>K (.slice r1.base r1.len r1.cap) w') w
def kD:=GV 120 g23 (F.FH env) func120 call120 ⟨[(3,[(5,.one (.sl)),(6,.one (.int .i64))])],[]⟩
def s84:=mk 84 g23 (F.BQ env) [kD,s83] (T0.BQ env) func84 call84 ⟨[(3,[(6,.one (.int .i64))])],[]⟩
def g24(c:sV):Sem [.one (.ptr)]:=λx K Kp w=>c x.1 (λr1 r2 w'=>K (.tuple ⟨[.slice r1.base r1.len r1.cap,.int .i64 r2]⟩) w') w
def s85:=mk 85 g24 (F.CQ env) [Za] (T0.CQ env) func85 call85 ⟨[(4,[(4,.one (.int .i64))]),(10,[(5,.one (.sl)),(6,.one (.int .i64))])],[(7,[(36,.one (.bool))]),(13,[(61,.one (.bool))])]⟩
def uJ(c:Rq):Sem [.one (.ptr)]:=λx K Kp w=>c x.1 (λr1 w'=>K (.int .i64 r1) w') w
def Uv:=GV 55 uJ (F.BE env) func55 call55 ⟨[(3,[(3,.one (.int .i64)),(4,.one (.int .i64))])],[]⟩
def tH:=mk 121 uJ (F.Cu env) [Uv] (T0.Cu env) func121 call121 ⟨[],[(2,[(12,.one (.bool))])]⟩
def g26(c:Vy):Sem [.one (.ptr),.one (.int .u64)]:=λx K Kp w=>c x.1 x.2.1 (λr1 r2 w'=>K (.tuple ⟨[.int .i64 r1,.bool r2]⟩) w') w
def oT:=GV 188 g26 (F.DQ env) func188 call188 ⟨[(2,[(6,.one (.int .i64))])],[(4,[(6,.one (.int .i64))])]⟩
def g27(c:iL):Sem [.one (.ptr),.one (.int .u64),.one (.int .u64)]:=λx K Kp w=>c x.1 x.2.1 x.2.2.1 (λr1 w'=>K (.bool r1) w') w
def xY:=mk 158 g27 (F.CR env) [oT] (T0.CR env) func158 call158 ⟨[(5,[(7,.one (.int .i64)),(9,.one (.int .u64))])],[(2,[(21,.one (.bool))]),(8,[(58,.one (.bool))])]⟩
def g28(c:xI):Sem [.one (.ptr),.one (.int .u64)]:=λx K Kp w=>c x.1 x.2.1 (λr1 r2 d w'=>K (.tuple ⟨[.bool r1,.bool r2,.bool d]⟩) w') w
def oM:=mk 180 g28 (F.Bp env) [oT] (T0.Bp env) func180 call180
def g29(c:NK):Sem [.one (.ptr),.one (.int .u64),.one (.int .u64)]:=λx K Kp w=>c x.1 x.2.1 x.2.2.1 (λr1 r2 w'=>K (.tuple ⟨[.int .u64 r1,.int .u64 r2]⟩) w') w
def xZ:=mk 159 g29 (F.CA env) [oM] (T0.CA env) func159 call159 ⟨[(3,[(8,.one (.int .u64)),(9,.one (.int .u64)),(10,.one (.int .u64))])],[(8,[(8,.one (.int .u64))])]⟩
def g30(c:xJ):Sem [.one (.ptr),.one (.int .u64),.one (.int .u64),.one (.bool),.one (.bool)]:=λx K Kp w=>c x.1 x.2.1 x.2.2.1 x.2.2.2.1 x.2.2.2.2.1 (λw'=>K (.tuple ⟨[]⟩) w') w
def yA:=mk 160 g30 (F.Ck env) [oT] (T0.Ck env) func160 call160 ⟨[(1,[(10,.one (.int .u64))])],[]⟩
def g31(c:oG):Sem [.one (.ptr),.one (.int .u64),.one (.int .u64),.one (.bool)]:=λx K Kp w=>c x.1 x.2.1 x.2.2.1 x.2.2.2.1 (λr1 w'=>K (.int .i64 r1) w') w
def yB:=mk 122 g31 (F.Bf env) [xY,xZ,yA] (T0.Bf env) func122 call122
def s161:=GV 161 uI (F.Hb env) func161 call161
def s123:=mk 123 fC (F.Cv env) [s161] (T0.Cv env) func123 call123
def s86:=mk 86 fC (F.CB env) [s60,tH,yB,s123] (T0.CB env) func86 call86
def g32(c:Y31):Sem [.one (.ptr),.agg [.int .i64,.int .u64,.int .i64,.bool,.bool,.bool]]:=λx K Kp w=>c x.1 x.2.1.1 x.2.1.2.1 x.2.1.2.2.1 x.2.1.2.2.2.1 x.2.1.2.2.2.2.1 x.2.1.2.2.2.2.2.1 (λr1 w'=>K (.int .i64 r1) w') w
def s102:=GV 102 g32 (F.GH env) func102 call102 ⟨[(4,[(5,.one (.int .i64))])],[(2,[(18,.one (.bool))]),(7,[(51,.one (.bool))])]⟩
def yC(c:j8):Sem [.one (.ptr),.one (.int .i64),.one (.bool)]:=λx K Kp w=>c x.1 x.2.1 x.2.2.1 (λr1 w'=>K (.int .i64 r1) w') w
def uG:=mk 59 yC (F.BO env) [V2,Uv,s102] (T0.BO env) func59 call59
def g34(c:oH):Sem [.one (.ptr),.one (.int .i64),.one (.bool)]:=λx K Kp w=>c x.1 x.2.1 x.2.2.1 (λr1 r2 d w'=>K (.tuple ⟨[.int .i64 r1,.bool r2,.int .i64 d]⟩) w') w
def PZ:=mk 36 g34 (F.A9 env) [V2,s82,IQ,nR,s83,s72,s84,s85,Uv,s86,uG] (T0.A9 env) func36 call36 ⟨[(7,[(10,.one (.int .i64))]),(12,[(11,.one (.int .i64))])],[(10,[(47,.one (.bool))]),(25,[(148,.one (.bool))])]⟩
def s96:=GV 96 g7 (F.JS env) func96 call96 ⟨[(1,[(0,.one (.int .u64))])],[]⟩
def s97:=GV 97 g9 (F.Hu env) func97 call97
def jL:=mk 56 g10 (F.Dw env) [s96,s97] (T0.Dw env) func56 call56 ⟨[(6,[(6,.one (.sl)),(7,.one (.int .i64)),(8,.one (.int .i64))]),(16,[(9,.one (.int .i64))]),(23,[(11,.one (.int .i64))])],[(2,[(41,.one (.bool))]),(15,[(7,.one (.int .i64))]),(20,[(99,.one (.bool))]),(29,[])]⟩
def g35(c:j9):Sem [.one (.int .u64),.one (.int .u64)]:=λx K Kp w=>c x.1 x.2.1 (λr1 w'=>K (.bool r1) w') w
def s135:=GV 135 g35 (F.HP env) func135 call135
def g36(c:sW):Sem [.one (.int .u64),.one (.int .u64),.one (.int .i64),.one (.bool)]:=λx K Kp w=>c x.1 x.2.1 x.2.2.1 x.2.2.2.1 (λr1 r2 w'=>K (.tuple ⟨[.pointer r1,.int .i64 r2]⟩) w') w
def s98:=mk 98 g36 (F.Ec env) [s135,jL] (T0.Ec env) func98 call98 ⟨[],[(2,[(24,.one (.bool))]),(10,[])]⟩
def wV(c:Wt):Sem [.one (.ptr)]:=λx K Kp w=>c x.1 (λr1 w'=>K (.bool r1) w') w
def yD:=GV 136 wV (F.ED env) func136 call136 ⟨[(2,[(3,.one (.int .i64))])],[]⟩
def g38(c:Vy):Sem [.one (.ptr),.one (.int .u64)]:=λx K Kp w=>c x.1 x.2.1 (λr1 r2 w'=>K (.tuple ⟨[.int .u64 r1,.bool r2]⟩) w') w
def yE:=GV 182 g38 (F.E0 env) func182 call182 ⟨[(3,[(6,.one (.int .u64)),(7,.one (.int .u64)),(8,.one (.int .i64))]),(9,[(6,.one (.int .u64)),(9,.one (.int .u64))])],[(6,[(37,.one (.bool))]),(7,[(6,.one (.int .u64))]),(14,[(6,.one (.int .u64))])]⟩
def g39(c:Wu):Sem [.one (.ptr)]:=λx K Kp w=>c x.1 (λr1 r2 w'=>K (.tuple ⟨[.int .u64 r1,.bool r2]⟩) w') w
def s179:=mk 179 g39 (F.CC env) [yE] (T0.CC env) func179 call179
def g40(c:NK):Sem [.one (.ptr),.one (.int .u64),.one (.int .u64)]:=λx K Kp w=>c x.1 x.2.1 x.2.2.1 (λr1 r2 w'=>K (.tuple ⟨[.int .u64 r1,.int .i64 r2]⟩) w') w
def yF:=mk 181 g40 (F.Bw env) [xY,xZ,yA] (T0.Bw env) func181 call181
def g41(c:eY):Sem [.one (.ptr),.one (.ptr)]:=λx K Kp w=>c x.1 x.2.1 (λr1 w'=>K (.int .i64 r1) w') w
def s137:=mk 137 g41 (F.CT env) [yD,s179,oM,yF] (T0.CT env) func137 call137 ⟨[(8,[(7,.one (.int .i64))])],[]⟩
def g42(c:cL):Sem [.one (.ptr),.one (.int .i64)]:=λx K Kp w=>c x.1 x.2.1 (λr1 r2 d w'=>K (.tuple ⟨[.int .u64 r1,.int .i64 r2,.int .i64 d]⟩) w') w
def tX:=GV 138 g42 (F.FI env) func138 call138 ⟨[(5,[(7,.one (.int .i64)),(8,.one (.int .i64))]),(13,[(9,.one (.int .i64)),(10,.one (.int .i64))])],[(2,[(16,.one (.bool))]),(10,[(7,.one (.int .i64))]),(17,[(9,.one (.int .i64))])]⟩
def g43(c:cL):Sem [.one (.ptr),.one (.int .u64)]:=λx K Kp w=>c x.1 x.2.1 (λr1 r2 d w'=>K (.tuple ⟨[.int .u64 r1,.int .u64 r2,.int .i64 d]⟩) w') w
def s139:=mk 139 g43 (F.CD env) [yE,yF] (T0.CD env) func139 call139
def yG:=GV 183 wV (F.EU env) func183 call183
def yH:=GV 184 g35 (F.Fj env) func184 call184
def e9:=GV 187 g26 (F.DG env) func187 call187 ⟨[(2,[(6,.one (.int .i64)),(7,.one (.int .i64))])],[]⟩
def g44(c:Ws):Sem [.one (.ptr),.one (.int .u64),.one (.int .u64)]:=λx K Kp w=>c x.1 x.2.1 x.2.2.1 (λr1 r2 w'=>K (.tuple ⟨[.int .u64 r1,.bool r2]⟩) w') w
def yI:=mk 185 g44 (F.BL env) [e9] (T0.BL env) func185 call185 ⟨[],[(3,[(36,.one (.bool))])]⟩
def s186:=mk 186 g44 (F.Bx env) [yI] (T0.Bx env) func186 call186 ⟨[(4,[(8,.one (.int .u64))])],[(4,[(8,.one (.int .u64))]),(8,[(8,.one (.int .u64))]),(9,[(31,.one (.bool))])]⟩
def s140:=mk 140 g40 (F.CU env) [yG,yH,yI,s186,e9] (T0.CU env) func140 call140 ⟨[(21,[(12,.one (.sl)),(13,.one (.int .u64))])],[(2,[(24,.one (.bool))]),(10,[(9,.one (.bool))]),(12,[(8,.one (.int .u64)),(9,.one (.bool))]),(14,[(8,.one (.int .u64)),(9,.one (.bool))]),(16,[(8,.one (.int .u64)),(9,.one (.bool))])]⟩
def g45(c:j9):Sem [.one (.int .i64),.one (.int .i64)]:=λx K Kp w=>c x.1 x.2.1 (λr1 w'=>K (.bool r1) w') w
def s222:=GV 222 g45 (F.Hv env) func222 call222
def g46(c:oG):Sem [.one (.ptr),.one (.int .i64),.one (.int .i64),.one (.bool)]:=λx K Kp w=>c x.1 x.2.1 x.2.2.1 x.2.2.2.1 (λr1 w'=>K (.int .i64 r1) w') w
def s214:=mk 214 g46 (F.DR env) [s222] (T0.DR env) func214 call214 ⟨[(4,[(9,.one (.int .i64))])],[]⟩
def s189:=mk 189 g3 (F.E3 env) [s214] (T0.E3 env) func189 call189
def rU(c:O7):Sem [.one (.ptr),.one (.int .u64),.one (.int .u64)]:=λx K Kp w=>c x.1 x.2.1 x.2.2.1 (λr1 w'=>K (.int .i64 r1) w') w
def tK:=mk 141 rU (F.CV env) [oT,s189] (T0.CV env) func141 call141 ⟨[(8,[(9,.one (.sl)),(10,.one (.int .u64))])],[(2,[(26,.one (.bool))]),(5,[(53,.one (.bool))])]⟩
end
end Go.Sh

/- Each shallow form is what the code of its function comes to, piece 1. No further condition. -/
import Derived.Test.YtgcgcligdjnmaaaGreatDoorF
import Derived.Test.YtgcgcligdjnmaaaGreatDoorProg
import Derived.KernelRfl
set_option linter.all false
set_option maxRecDepth 100000
set_option maxHeartbeats 4000000
namespace Go.Sh
open Go.Proofs Go.Proofs.Tryz
noncomputable section
def mixed:Tryz.prog.follows .mixedOrders=true:=by kernel_rfl
noncomputable def env:Env:={call:=ground Tryz.prog,AJ:=43,A9:=4,Lp:=38,Cb:=129,FB:=252,Pu:=202,Rh:=206,K6:=210,F5:=212,Ae:=139,FC:=147,DY:=150,Di:=152,As:=84,Jh:=154,Cw:=73,Ac:=80,BR:=59,BU:=63,Ak:=65,A6:=216,FD:=165,AD:=257,Nj:=283,BH:=49,CP:=67,GQ:=264,Fq:=208,Bd:=116,BV:=266,Pv:=132,Bx:=3,DZ:=167,Ap:=277,JD:=287,Ay:=245,Ab:=114,KJ:=174,AI:=112,JQ:=189,Nk:=190,IG:=237,Dn:=235,Aq:=181,Gp:=196,FR:=45,Hu:=304,Da:=41,Tr:=300,JE:=237,GR:=179,Ij:=198,GS:=102,AN:=0,Hv:=0}
def sI:SY:={loops:=[],Ra:=[]}
abbrev Sem(l:List VT):=JN l->(Value->World->Prop)->(Value->World->Prop)->World->Prop
def Oi{l:List VT}(F:Sem l):Entry:=λargs w K Kp=>unArgs l args.toList λx=>F x K Kp w
noncomputable def nO(T:List (Nat×Entry))(A:SY)(fn:Func){l:List VT}:Sem l:=λx K Kp w=>ev Tryz.prog (tabC T) (ground Tryz.prog) A (fn.body.getD .skip) (finQ Tryz.prog fn K Kp) (IE (mkArgs l x)) w
abbrev Gs(f:FuncId){l:List VT}(F:Sem l):Prop:=Iz Tryz.prog f (Oi F)
def sJ{T:List (Nat×Entry)}{A:SY}{f:FuncId}{fn:Func}{l:List VT}{F:Sem l}
 (y: ∀p∈T,Fi Tryz.prog p.1 p.2)(hf:Tryz.prog.funcs[f]? =some fn)(d: ∀args w,(callFunc f args).run Tryz.prog w= .ok (.enter f args) w)
 (j:F=nO T A fn)(K:fn.body=some (fn.body.getD .skip):=by kernel_rfl)(v:Nat.ble l.length fn.ntmps=true:=by kernel_rfl)(J:withinB fn.ntmps (written (fn.body.getD .skip))=true:=by kernel_rfl):Gs f F:=
 Rb y mixed hf d K v J λ_ _ _ _=>congrFun (congrFun (congrFun (congrFun j _) _) _) _
structure Slot where
 f:Nat
 Y:Type
 G:Y->Entry
 v:Y
 ok:Fi Tryz.prog f (G v)
def Cs:List Slot->Type->Type
 | [],R=>R
 | s::l,R=>s.Y->Cs l R
def apC{R:Type}:(l:List Slot)->Cs l R->R
 | [],t=>t
 | s::l,t=>apC l (t s.v)
def mpC{R Q:Type}(g:R->Q):(l:List Slot)->Cs l R->Cs l Q
 | [],t=>g t
 | _::l,t=>λc=>mpC g l (t c)
def tbC{sh:List VT}(A:SY)(fn:Func):(l:List Slot)->List (Nat×Entry)->Cs l (Sem sh)
 | [],T=>nO T A fn
 | s::l,T=>λc=>tbC A fn l ((s.f,s.G c)::T)
def vJ{sh:List VT}{Y:Type}{G:Y->Sem sh}{A:SY}{fn:Func}: ∀(l:List Slot) (T:List (Nat×Entry)) (t:Cs l Y),mpC G l t=tbC A fn l T->(∀p∈T,Fi Tryz.prog p.1 p.2)-> ∃d,(∀p∈d,Fi Tryz.prog p.1 p.2)/\G (apC l t)=nO d A fn
 | [],T,_,h,hT=>⟨T,hT,h⟩
 | s::l,_,t,h,hT=>vJ l _ (t s.v) (congrFun h s.v) (TW s.ok hT)
def Xn(f:Nat){sh:List VT}{Y:Type}(G:Y->Sem sh)(v:Y)(l:List Slot)(t:Cs l Y){fn:Func}(hf:Tryz.prog.funcs[f]? =some fn)(d: ∀args w,(callFunc f args).run Tryz.prog w= .ok (.enter f args) w)(A:SY:=sI)
 (K:apC l t=v:=by kernel_rfl)(h:mpC G l t=tbC A fn l []:=by kernel_rfl)(J:fn.body=some (fn.body.getD .skip):=by kernel_rfl)(j:Nat.ble sh.length fn.ntmps=true:=by kernel_rfl)(y:withinB fn.ntmps (written (fn.body.getD .skip))=true:=by kernel_rfl):Gs f (G v):=by
 obtain⟨T,h1,h2⟩:=vJ l [] t h Lz;rw[K]at h2;exact sJ h1 hf d h2 J j y
def YQ(f:Nat){sh:List VT}{Y:Type}(G:Y->Sem sh)(v:Y){fn:Func}(hf:Tryz.prog.funcs[f]? =some fn)(d: ∀args w,(callFunc f args).run Tryz.prog w= .ok (.enter f args) w)(A:SY:=sI)
 (h:G v=nO [] A fn:=by kernel_rfl)(J:fn.body=some (fn.body.getD .skip):=by kernel_rfl)(j:Nat.ble sh.length fn.ntmps=true:=by kernel_rfl)(y:withinB fn.ntmps (written (fn.body.getD .skip))=true:=by kernel_rfl):Gs f (G v):=Xn f G v [] v hf d A rfl h J j y
def mk(f:Nat){sh:List VT}{Y:Type}(G:Y->Sem sh)(v:Y)(l:List Slot)(t:Cs l Y){fn:Func}(hf:Tryz.prog.funcs[f]? =some fn)(d: ∀args w,(callFunc f args).run Tryz.prog w= .ok (.enter f args) w)(A:SY:=sI)
 (K:apC l t=v:=by kernel_rfl)(h:mpC G l t=tbC A fn l []:=by kernel_rfl)(J:fn.body=some (fn.body.getD .skip):=by kernel_rfl)(j:Nat.ble sh.length fn.ntmps=true:=by kernel_rfl)(y:withinB fn.ntmps (written (fn.body.getD .skip))=true:=by kernel_rfl):Slot:=⟨f,Y,λc=>Oi (G c),v,(Xn f G v l t hf d A K h J j y).any⟩
def Gz(f:Nat){sh:List VT}{Y:Type}(G:Y->Sem sh)(v:Y){fn:Func}(hf:Tryz.prog.funcs[f]? =some fn)(d: ∀args w,(callFunc f args).run Tryz.prog w= .ok (.enter f args) w)(A:SY:=sI)
 (h:G v=nO [] A fn:=by kernel_rfl)(J:fn.body=some (fn.body.getD .skip):=by kernel_rfl)(j:Nat.ble sh.length fn.ntmps=true:=by kernel_rfl)(y:withinB fn.ntmps (written (fn.body.getD .skip))=true:=by kernel_rfl):Slot:=mk f G v [] v hf d A rfl h J j y
def g0(c:Y0):Sem [.one (.sl)]:=λx K Kp w=>c x.1 (λr1 w'=>K (.bool r1) w') w
def s4:=Gz 4 g0 (F.Hw env) func4 call4 ⟨[(3,[(3,.one (.int .i64)),(4,.one (.int .i64))])],[(6,[(32,.one (.bool))])]⟩
def g1(c:Y1):Sem [.one (.sl)]:=λx K Kp w=>c x.1 (λr1 w'=>K (.slice r1.base r1.len r1.cap) w') w
def qX:=Gz 56 g1 (F.Dv env) func56 call56
def Q3:=Gz 57 g1 (F.Er env) func57 call57
def g2(c:Y2):Sem [.agg [.sl,.sl,.sl]]:=λx K Kp w=>c x.1.1 x.1.2.1 x.1.2.2.1 (λr1 w'=>K (.pointer r1) w') w
def HR:=mk 12 g2 (F.Ji env) [qX,Q3] (T0.Ji env) func12 call12
def g3(c:Y3):Sem [.one (.ptr)]:=λx K Kp w=>c x.1 (λw'=>K (.tuple ⟨[]⟩) w') w
def iY:=Gz 108 g3 (F.Db env) func108 call108 ⟨[(2,[(5,.one (.int .i64))])],[]⟩
def g4(c:Y4):Sem []:=λx K Kp w=>c (λr1 w'=>K (.pointer r1) w') w
def s58:=mk 58 g4 (F.Hl env) [iY] (T0.Hl env) func58 call58
def zI:=Gz 59 g4 (F.L8 env) func59 call59
def g5(c:Y5):Sem [.one (.int .i64)]:=λx K Kp w=>c x.1 (λr1 r2 w'=>K (.tuple ⟨[.pointer r1,.int .i64 r2]⟩) w') w
def s60:=Gz 60 g5 (F.Sw env) func60 call60 ⟨[],[(2,[(9,.one (.bool))])]⟩
def s61:=Gz 61 g4 (F.MY env) func61 call61
def g6(c:Y6):Sem [.one (.ptr)]:=λx K Kp w=>c x.1 (λr1 w'=>K (.pointer r1) w') w
def Kk:=mk 13 g6 (F.IT env) [s58,zI,s60,s61] (T0.IT env) func13 call13 ⟨[(4,[(18,.one (.int .i64))])],[]⟩
def Kr:=Gz 14 g4 (F.Pw env) func14 call14
def Sx:=Gz 15 g4 (F.LZ env) func15 call15
def g7(c:Y7):Sem [.one (.ptr),.one (.ptr),.one (.ptr)]:=λx K Kp w=>c x.1 x.2.1 x.2.2.1 (λr1 w'=>K (.pointer r1) w') w
def Sy:=Gz 16 g7 (F.OI env) func16 call16
def sE:=Gz 17 g6 (F.C4 env) func17 call17
def sG:=Gz 18 g6 (F.F6 env) func18 call18
def g8(c:Y8):Sem []:=λx K Kp w=>c (λr1 r2 w'=>K (.tuple ⟨[.pointer r1,.pointer r2]⟩) w') w
def s5:=mk 5 g8 (F.DN env) [HR,Kk,Kr,Sx,Sy,sE,sG] (T0.DN env) func5 call5 ⟨[],[(6,[(24,.one (.bool))]),(9,[(42,.one (.bool))])]⟩
def s8:=Gz 8 g2 (F.Jj env) func8 call8
def FA:=Gz 19 g5 (F.I4 env) func19 call19 ⟨[],[(2,[(9,.one (.bool))])]⟩
def s7:=mk 7 g6 (F.Eg env) [FA] (T0.Eg env) func7 call7
def s6:=Gz 6 g6 (F.I5 env) func6 call6
def g9(c:Y9):Sem [.one (.ptr),.one (.int .i64)]:=λx K Kp w=>c x.1 x.2.1 (λr1 w'=>K (.int .i64 r1) w') w
def VB:=Gz 20 g9 (F.GH env) func20 call20 ⟨[],[(6,[(5,.one (.int .i64))])]⟩
def g10(c:nF):Sem [.one (.int .u64)]:=λx K Kp w=>c x.1 (λr1 w'=>K (.bool r1) w') w
def z7:=Gz 218 g10 (F.Px env) func218 call218
def g11(c:Vk):Sem [.one (.int .i64),.one (.int .i64)]:=λx K Kp w=>c x.1 x.2.1 (λr1 w'=>K (.int .i64 r1) w') w
def s219:=mk 219 g11 (F.IH env) [z7] (T0.IH env) func219 call219
def s220:=Gz 220 g11 (F.La env) func220 call220 ⟨[(2,[(5,.one (.int .i64))])],[]⟩
def g12(c:Sv):Sem [.one (.int .u32)]:=λx K Kp w=>c x.1 (λr1 w'=>K (.int .u32 r1) w') w
def s221:=Gz 221 g12 (F.OJ env) func221 call221
def g13(c:wK):Sem [.one (.int .i64),.one (.int .i64)]:=λx K Kp w=>c x.1 x.2.1 (λr1 r2 w'=>K (.tuple ⟨[.slice r1.base r1.len r1.cap,.int .i64 r2]⟩) w') w
def s160:=mk 160 g13 (F.JF env) [z7,s219,s220,s221] (T0.JF env) func160 call160 ⟨[(6,[(6,.one (.sl)),(7,.one (.int .i64)),(8,.one (.int .i64))]),(15,[(107,.one (.int .i64))])],[(2,[(42,.one (.bool))]),(12,[(91,.one (.bool))]),(22,[])]⟩
def g14(c:Y14):Sem []:=λx K Kp w=>c (λr1 w'=>K (.slice r1.base r1.len r1.cap) w') w
def Tt:=mk 109 g14 (F.G4 env) [s160] (T0.G4 env) func109 call109
def g15(c:wL):Sem [.one (.int .u64),.one (.int .u64),.one (.int .i64),.one (.bool)]:=λx K Kp w=>c x.1 x.2.1 x.2.2.1 x.2.2.2.1 (λr1 r2 w'=>K (.tuple ⟨[.pointer r1,.int .i64 r2]⟩) w') w
def s62:=mk 62 g15 (F.KT env) [Tt] (T0.KT env) func62 call62 ⟨[],[(3,[(56,.one (.bool))])]⟩
def g16(c:nF):Sem [.one (.int .i64)]:=λx K Kp w=>c x.1 (λr1 w'=>K (.bool r1) w') w
def s161:=Gz 161 g16 (F.Py env) func161 call161
def z8(c:YK):Sem [.one (.ptr)]:=λx K Kp w=>c x.1 (λr1 w'=>K (.bool r1) w') w
def xG:=Gz 143 z8 (F.E3 env) func143 call143
def g18(c:nG):Sem [.one (.ptr)]:=λx K Kp w=>c x.1 (λr1 w'=>K (.slice r1.base r1.len r1.cap) w') w
def z9:=Gz 226 g18 (F.HX env) func226 call226
def g19(c:Wq):Sem [.one (.ptr),.one (.int .u64)]:=λx K Kp w=>c x.1 x.2.1 (λr1 r2 w'=>K (.tuple ⟨[.int .u64 r1,.bool r2]⟩) w') w
def AA0:=mk 167 g19 (F.DB env) [z9] (T0.DB env) func167 call167 ⟨[(4,[(15,.one (.int .i64))])],[]⟩
def g20(c:Y19):Sem [.one (.int .i64),.one (.any)]:=λx K Kp w=>c x.1 x.2.1 (λr1 w'=>K (.int .i64 r1) w') w
def AA1:=Gz 197 g20 (F.KU env) func197 call197 ⟨[(2,[(5,.one (.int .i64)),(6,.one (.int .i64))])],[]⟩
def sK(c:Y9):Sem [.one (.ptr),.one (.int .u64)]:=λx K Kp w=>c x.1 x.2.1 (λr1 w'=>K (.int .i64 r1) w') w
def sL:=mk 228 sK (F.Dc env) [AA1] (T0.Dc env) func228 call228
def g22(c:OH):Sem [.one (.ptr),.one (.int .u64),.one (.int .u64)]:=λx K Kp w=>c x.1 x.2.1 x.2.2.1 (λr1 w'=>K (.int .u64 r1) w') w
def bN:=mk 172 g22 (F.BA env) [sL] (T0.BA env) func172 call172 ⟨[(3,[(7,.one (.int .u64)),(8,.one (.int .i64))])],[]⟩
def g23(c:zT):Sem [.one (.ptr),.one (.int .u64),.one (.int .u64),.one (.bool),.one (.int .i64)]:=λx K Kp w=>c x.1 x.2.1 x.2.2.1 x.2.2.2.1 x.2.2.2.2.1 (λr1 w'=>K (.int .i64 r1) w') w
def AA2:=mk 227 g23 (F.DO env) [bN] (T0.DO env) func227 call227 ⟨[],[(4,[(11,.one (.int .u64))]),(5,[(14,.one (.bool))])]⟩
def vK(c:U0):Sem [.one (.ptr),.one (.int .u64),.one (.int .u64)]:=λx K Kp w=>c x.1 x.2.1 x.2.2.1 (λw'=>K (.tuple ⟨[]⟩) w') w
def xH:=mk 176 vK (F.Co env) [bN,sL] (T0.Co env) func176 call176 ⟨[(5,[(7,.one (.int .i64)),(8,.one (.sl))])],[(10,[(8,.one (.sl))]),(12,[(7,.one (.int .i64)),(8,.one (.sl))])]⟩
def g25(c:Ni):Sem [.one (.ptr),.one (.int .u64),.one (.int .u64)]:=λx K Kp w=>c x.1 x.2.1 x.2.2.1 (λr1 r2 w'=>K (.tuple ⟨[.int .u64 r1,.int .i64 r2]⟩) w') w
def AA3:=mk 168 g25 (F.DC env) [AA2,bN,xH,iY] (T0.DC env) func168 call168
def g26(c:iU):Sem [.one (.ptr),.one (.ptr)]:=λx K Kp w=>c x.1 x.2.1 (λr1 w'=>K (.int .i64 r1) w') w
def wY:=mk 162 g26 (F.Dw env) [AA0,xG,AA3] (T0.Dw env) func162 call162 ⟨[(8,[(28,.one (.int .u64))])],[]⟩
def g27(c:Sv):Sem [.one (.int .u64)]:=λx K Kp w=>c x.1 (λr1 w'=>K (.int .i64 r1) w') w
def nI:=Gz 130 g27 (F.Bo env) func130 call130
def g28(c:Y25):Sem [.one (.int .u64),.one (.int .i64)]:=λx K Kp w=>c x.1 x.2.1 (λr1 r2 w'=>K (.tuple ⟨[.int .i64 r1,.bool r2]⟩) w') w
def s222:=mk 222 g28 (F.G5 env) [nI] (T0.G5 env) func222 call222 ⟨[(2,[(0,.one (.int .u64)),(1,.one (.int .i64)),(6,.one (.int .i64))])],[]⟩
def s223:=Gz 223 g27 (F.GI env) func223 call223
def g29(c:fL):Sem [.one (.ptr),.one (.int .i64)]:=λx K Kp w=>c x.1 x.2.1 (λr1 r2 d w'=>K (.tuple ⟨[.int .u64 r1,.int .i64 r2,.int .i64 d]⟩) w') w
def s163:=mk 163 g29 (F.C5 env) [s222,s223] (T0.C5 env) func163 call163 ⟨[],[(2,[(16,.one (.bool))])]⟩
def g30(c:fL):Sem [.one (.ptr),.one (.int .u64)]:=λx K Kp w=>c x.1 x.2.1 (λr1 r2 d w'=>K (.tuple ⟨[.int .u64 r1,.int .u64 r2,.int .i64 d]⟩) w') w
noncomputable def C112:Entry:=Oi (g30 (F.A3 env))
def fO:Gs 112 (g30 (F.A3 env)):=Xn 112 g30 (F.A3 env) [AA0,AA3] (T0.A3 env) func112 call112
def xE:Slot:=⟨112,_,λc=>Oi (g30 c),F.A3 env,fO.any⟩
def g31(c:Wr):Sem [.one (.ptr),.one (.int .i64),.one (.int .u64)]:=λx K Kp w=>c x.1 x.2.1 x.2.2.1 (λr1 r2 w'=>K (.tuple ⟨[.int .u64 r1,.bool r2]⟩) w') w
noncomputable def C110:Entry:=Oi (g31 (F.Dd env))
def sM:Gs 110 (g31 (F.Dd env)):=Xn 110 g31 (F.Dd env) [s161,xG,wY,s163,xE] (T0.Dd env) func110 call110 ⟨[],[(2,[(20,.one (.bool))]),(5,[]),(8,[])]⟩
def g32(c:Y28):Sem [.one (.ptr)]:=λx K Kp w=>c x.1 (λr1 r2 w'=>K (.tuple ⟨[.bool r1,.bool r2]⟩) w') w
def s173:=Gz 173 g32 (F.HY env) func173 call173
def g33(c:VA):Sem [.one (.ptr)]:=λx K Kp w=>c x.1 (λr1 r2 w'=>K (.tuple ⟨[.int .u64 r1,.bool r2]⟩) w') w
def s175:=Gz 175 g33 (F.EY env) func175 call175
def g34(c:iV):Sem [.one (.ptr),.one (.int .u64),.one (.int .u64)]:=λx K Kp w=>c x.1 x.2.1 x.2.2.1 (λr1 w'=>K (.bool r1) w') w
def s224:=mk 224 g34 (F.EV env) [bN] (T0.EV env) func224 call224
def g35(c:Wr):Sem [.one (.ptr),.one (.int .u64),.one (.int .u64)]:=λx K Kp w=>c x.1 x.2.1 x.2.2.1 (λr1 r2 w'=>K (.tuple ⟨[.int .u64 r1,.bool r2]⟩) w') w
def s225:=mk 225 g35 (F.D7 env) [z9,s224] (T0.D7 env) func225 call225 ⟨[(5,[(8,.one (.int .u64)),(24,.one (.int .i64))])],[(9,[]),(11,[(8,.one (.int .u64))])]⟩
def nP:=mk 177 vK (F.BT env) [xH,sL] (T0.BT env) func177 call177 ⟨[],[(7,[(51,.one (.bool))]),(9,[(8,.one (.int .i64))]),(10,[(77,.one (.bool))]),(12,[(6,.one (.int .i64))])]⟩
def wZ:=mk 164 g25 (F.EH env) [s173,s175,s224,s225,nP] (T0.EH env) func164 call164 ⟨[(9,[(10,.one (.int .u64)),(11,.one (.bool)),(52,.one (.int .i64))])],[(2,[(24,.one (.bool))]),(8,[(11,.one (.bool))])]⟩
def vL(c:OH):Sem [.one (.ptr),.one (.int .u64),.one (.int .u64)]:=λx K Kp w=>c x.1 x.2.1 x.2.2.1 (λr1 w'=>K (.int .i64 r1) w') w
def s165:=mk 165 vL (F.Dj env) [bN,nP,iY] (T0.Dj env) func165 call165 ⟨[],[(2,[(24,.one (.bool))])]⟩
def xA:=mk 166 vK (F.FE env) [nP] (T0.FE env) func166 call166
noncomputable def C111:Entry:=Oi (sK (F.DD env))
def sN:Gs 111 (sK (F.DD env)):=Xn 111 sK (F.DD env) [wZ,s165,xA] (T0.DD env) func111 call111
def g37(c:lL):Sem [.one (.int .u64),.one (.int .u64)]:=λx K Kp w=>c x.1 x.2.1 (λr1 w'=>K (.bool r1) w') w
def s171:=Gz 171 g37 (F.MZ env) func171 call171
def g38(c:nH):Sem [.one (.ptr),.one (.int .u64),.one (.int .u64)]:=λx K Kp w=>c x.1 x.2.1 x.2.2.1 (λr1 w'=>K (.slice r1.base r1.len r1.cap) w') w
def s174:=mk 174 g38 (F.B6 env) [sL] (T0.B6 env) func174 call174 ⟨[(3,[(7,.one (.sl)),(8,.one (.int .i64))])],[]⟩
noncomputable def C115:Entry:=Oi (vL (F.Cp env))
def sO:Gs 115 (vL (F.Cp env)):=Xn 115 vL (F.Cp env) [s171,bN,s173,s174,s175,xH,nP] (T0.Cp env) func115 call115 ⟨[(12,[(56,.one (.int .i64))]),(15,[(12,.one (.int .u64))])],[(22,[])]⟩
def s169:=mk 169 g38 (F.F7 env) [s174] (T0.F7 env) func169 call169
def g39(c:zU):Sem [.one (.ptr),.one (.int .u64),.one (.int .u64),.one (.ptr)]:=λx K Kp w=>c x.1 x.2.1 x.2.2.1 x.2.2.2.1 (λr1 w'=>K (.int .i64 r1) w') w
def s216:=mk 216 g39 (F.Dp env) [AA2,nP,iY] (T0.Dp env) func216 call216
def s170:=mk 170 vL (F.Dk env) [s216] (T0.Dk env) func170 call170
def s158:=mk 158 vL (F.DE env) [s216] (T0.DE env) func158 call158
noncomputable def C114:Entry:=Oi (vK (F.Cq env))
def fP:Gs 114 (vK (F.Cq env)):=Xn 114 vK (F.Cq env) [s169,s170,s158] (T0.Cq env) func114 call114 ⟨[(2,[(6,.one (.int .u64)),(20,.one (.int .i64))])],[]⟩
def z2:Slot:=⟨114,_,λc=>Oi (vK c),F.Cq env,fP.any⟩
noncomputable def Wt:Code:=(Tryz.f113.body).getD .skip
def bO:SY:={loops:=[],Ra:=[]}
def sP(d: ∀(a0:(Option Addr)) (a1:Int) (a2:Int) (K:World->Prop) (w:World),Prop)(x:JN [.one (.ptr),.one (.ptr),.one (.ptr),.one (.ptr)])(K Kp:Value->World->Prop)(w:World):T0.BB env d x.1 x.2.1 x.2.2.1 x.2.2.2.1 (λw'=>K (.tuple ⟨[]⟩) w') w=
 ev Tryz.prog (tabC [(114,λargs w K Kp=>unArgs [.one (.ptr),.one (.int .u64),.one (.int .u64)] args.toList λx=>d x.1 x.2.1 x.2.2.1 (λw'=>K (.tuple ⟨[]⟩) w') w)]) (ground Tryz.prog) bO Wt (finQ Tryz.prog Tryz.f113 K Kp) (IE (mkArgs [.one (.ptr),.one (.ptr),.one (.ptr),.one (.ptr)] x)) w:=by kernel_rfl
def xI(x:JN [.one (.ptr),.one (.ptr),.one (.ptr),.one (.ptr)])(K Kp:Value->World->Prop)(w:World):F.BB env x.1 x.2.1 x.2.2.1 x.2.2.2.1 (λw'=>K (.tuple ⟨[]⟩) w') w=
 ev Tryz.prog (tabC [(114,C114)]) (ground Tryz.prog) bO Wt (finQ Tryz.prog Tryz.f113 K Kp) (IE (mkArgs [.one (.ptr),.one (.ptr),.one (.ptr),.one (.ptr)] x)) w:=sP (F.Cq env) x K Kp w
noncomputable def sQ:MQ:=λargs d w K=>unArgs [.one (.ptr),.one (.ptr),.one (.ptr),.one (.ptr)] args.toList λx=>F.BB env x.1 x.2.1 x.2.2.1 x.2.2.2.1 (λw'=>K false w') w
def nQ:Iq Tryz.prog 113 sQ:=
 YA (T:=[(114,C114)]) (A:=bO) (fn:=Tryz.f113) (c:=Wt) (l:=[.one (.ptr),.one (.ptr),.one (.ptr),.one (.ptr)]) (F:=λ(x:JN [.one (.ptr),.one (.ptr),.one (.ptr),.one (.ptr)]) K w=>F.BB env x.1 x.2.1 x.2.2.1 x.2.2.2.1 K w) (DT fP Lz) mixed Tryz.func113 Tryz.call113 (by kernel_rfl) (by kernel_rfl) (by kernel_rfl) (λx K w=>xI x (λ_ w'=>K w') NI w)
noncomputable def C63:Entry:=λargs w K Kp=>unArgs [.one (.ptr),.one (.int .i64),.one (.int .u64)] args.toList λx=>F.Dl env x.1 x.2.1 x.2.2.1 (λr1 r2 w'=>K (.tuple ⟨[.int .u64 r1,.int .i64 r2]⟩) w') w
noncomputable def bP:Code:=(Tryz.f63.body).getD .skip
def nR:SY:={loops:=[],Ra:=[(7,[(6,.one (.int .u64))])]}
def xJ(y: ∀(a0:(Option Addr)) (a1:Int) (a2:Int) (K:Int->Bool->World->Prop) (w:World),Prop)(j: ∀(a0:(Option Addr)) (a1:Int) (K:Int->World->Prop) (w:World),Prop)(d: ∀(a0:(Option Addr)) (a1:Int) (K:Int->Int->Int->World->Prop) (w:World),Prop)(v: ∀(a0:(Option Addr)) (a1:Int) (a2:Int) (K:Int->World->Prop) (w:World),Prop)(x:JN [.one (.ptr),.one (.int .i64),.one (.int .u64)])(K:Value->World->Prop)(w:World):T0.Dl env y j d v x.1 x.2.1 x.2.2.1 (λr1 r2 w'=>K (.tuple ⟨[.int .u64 r1,.int .i64 r2]⟩) w') w=
 evD Tryz.prog (tabC [(110,λargs w K Kp=>unArgs [.one (.ptr),.one (.int .i64),.one (.int .u64)] args.toList λx=>y x.1 x.2.1 x.2.2.1 (λr1 r2 w'=>K (.tuple ⟨[.int .u64 r1,.bool r2]⟩) w') w),(111,λargs w K Kp=>unArgs [.one (.ptr),.one (.int .u64)] args.toList λx=>j x.1 x.2.1 (λr1 w'=>K (.int .i64 r1) w') w),(112,λargs w K Kp=>unArgs [.one (.ptr),.one (.int .u64)] args.toList λx=>d x.1 x.2.1 (λr1 r2 J w'=>K (.tuple ⟨[.int .u64 r1,.int .u64 r2,.int .i64 J]⟩) w') w),(115,λargs w K Kp=>unArgs [.one (.ptr),.one (.int .u64),.one (.int .u64)] args.toList λx=>v x.1 x.2.1 x.2.2.1 (λr1 w'=>K (.int .i64 r1) w') w)]) (ground Tryz.prog) nR (finQ Tryz.prog Tryz.f63 K NI) (finD Tryz.prog Tryz.f63 (tabD [(113,sQ)]) K NI) bP (IE (mkArgs [.one (.ptr),.one (.int .i64),.one (.int .u64)] x)) w:=by kernel_rfl
def tie63(x:JN [.one (.ptr),.one (.int .i64),.one (.int .u64)])(K:Value->World->Prop)(w:World):F.Dl env x.1 x.2.1 x.2.2.1 (λr1 r2 w'=>K (.tuple ⟨[.int .u64 r1,.int .i64 r2]⟩) w') w=
 evD Tryz.prog (tabC [(110,C110),(111,C111),(112,C112),(115,C115)]) (ground Tryz.prog) nR (finQ Tryz.prog Tryz.f63 K NI) (finD Tryz.prog Tryz.f63 (tabD [(113,sQ)]) K NI) bP (IE (mkArgs [.one (.ptr),.one (.int .i64),.one (.int .u64)] x)) w:=xJ (F.Dd env) (F.DD env) (F.A3 env) (F.Cp env) x K w
def xK:Iz Tryz.prog 63 C63:=
 Pf (T:=[(110,C110),(111,C111),(112,C112),(115,C115)]) (TD:=[(113,sQ)]) (A:=nR) (fn:=Tryz.f63) (c:=bP) (DT sM (DT sN (DT fO (DT sO Lz)))) (TY nQ Vf) mixed Tryz.func63 Tryz.call63 (by kernel_rfl) (by kernel_rfl) (by kernel_rfl) tie63
def nS(c:Jy):Sem [.one (.ptr)]:=λx K Kp w=>c x.1 (λr1 w'=>K (.int .i64 r1) w') w
def wS:=Gz 116 nS (F.Kx env) func116 call116 ⟨[],[(6,[(3,.one (.ptr))])]⟩
def g41(c:lM):Sem [.one (.ptr)]:=λx K Kp w=>c x.1 (λr1 r2 j v y J O T Y d w'=>K (.agg ⟨[.int .u64 r1,.int .i64 r2,.int .i64 j,.int .i64 v,.bool y,.int .i64 J,.int .i64 O,.int .i64 T,.bool Y,.bool d]⟩) w') w
noncomputable def C52:Entry:=Oi (g41 (F.Be env))
def nT:Gs 52 (g41 (F.Be env)):=YQ 52 g41 (F.Be env) func52 call52
def Sb:Slot:=⟨52,_,λc=>Oi (g41 c),F.Be env,nT.any⟩
def s178:=Gz 178 vK (F.Is env) func178 call178 ⟨[(2,[(6,.one (.sl)),(16,.one (.int .i64))]),(14,[]),(19,[(10,.one (.int .u64))])],[(5,[(29,.one (.bool))]),(8,[(6,.one (.sl))]),(15,[(81,.one (.bool))]),(17,[(91,.one (.bool))])]⟩
def g42(c:iW):Sem [.one (.ptr),.one (.int .u64),.one (.int .u64),.one (.int .i64)]:=λx K Kp w=>c x.1 x.2.1 x.2.2.1 x.2.2.2.1 (λr1 w'=>K (.int .i64 r1) w') w
def iZ:=mk 117 g42 (F.D8 env) [bN,s178] (T0.D8 env) func117 call117 ⟨[],[(2,[(20,.one (.bool))]),(4,[(28,.one (.bool))]),(14,[])]⟩
def s64:=mk 64 g26 (F.Eh env) [wS,Sb,iZ] (T0.Eh env) func64 call64
def g43(c:vF):Sem [.one (.ptr),.one (.int .i64),.one (.int .u64),.one (.int .i64),.one (.bool)]:=λx K Kp w=>c x.1 x.2.1 x.2.2.1 x.2.2.2.1 x.2.2.2.2.1 (λr1 r2 w'=>K (.tuple ⟨[.int .i64 r1,.int .i64 r2]⟩) w') w
def g44(c:Ni):Sem [.one (.ptr),.one (.int .i64),.one (.int .u64)]:=λx K Kp w=>c x.1 x.2.1 x.2.2.1 (λr1 r2 w'=>K (.tuple ⟨[.int .u64 r1,.int .i64 r2]⟩) w') w
def zE:Slot:=⟨63,_,λc=>Oi (g44 c),F.Dl env,xK.any⟩
def s21:=mk 21 g43 (F.CM env) [s62,zE,s64] (T0.CM env) func21 call21
def wT:=Gz 118 g37 (F.Hx env) func118 call118
def s181:=Gz 181 g10 (F.Jk env) func181 call181 ⟨[(1,[(0,.one (.int .u64))])],[]⟩
def s182:=Gz 182 g12 (F.IU env) func182 call182
def Tu:=mk 119 g13 (F.Ei env) [s181,s182] (T0.Ei env) func119 call119 ⟨[(6,[(6,.one (.sl)),(7,.one (.int .i64)),(8,.one (.int .i64))]),(16,[(9,.one (.int .i64))]),(23,[(11,.one (.int .i64))])],[(2,[(41,.one (.bool))]),(15,[(7,.one (.int .i64))]),(20,[(99,.one (.bool))]),(29,[])]⟩
def xB:=mk 65 g15 (F.Ej env) [wT,Tu] (T0.Ej env) func65 call65 ⟨[],[(2,[(24,.one (.bool))]),(10,[])]⟩
def s120:=Gz 120 z8 (F.EI env) func120 call120 ⟨[(2,[(3,.one (.int .i64))])],[]⟩
def s186:=Gz 186 g19 (F.FF env) func186 call186 ⟨[(3,[(6,.one (.int .u64)),(7,.one (.int .u64)),(8,.one (.int .i64))]),(9,[(6,.one (.int .u64)),(9,.one (.int .u64))])],[(6,[(37,.one (.bool))]),(7,[(6,.one (.int .u64))]),(14,[(6,.one (.int .u64))])]⟩
def s183:=mk 183 g33 (F.B8 env) [s186] (T0.B8 env) func183 call183
def g45(c:Wq):Sem [.one (.ptr),.one (.int .u64)]:=λx K Kp w=>c x.1 x.2.1 (λr1 r2 w'=>K (.tuple ⟨[.int .i64 r1,.bool r2]⟩) w') w
def sR:=Gz 192 g45 (F.De env) func192 call192 ⟨[(2,[(6,.one (.int .i64))])],[(4,[(6,.one (.int .i64))])]⟩
end
end Go.Sh

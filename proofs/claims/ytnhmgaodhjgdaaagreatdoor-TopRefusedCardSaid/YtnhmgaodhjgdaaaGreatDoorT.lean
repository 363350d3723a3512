/- Each shallow form is what the code of its function comes to, piece 1. No further condition. -/
import Derived.Test.YtnhmgaodhjgdaaaGreatDoorF
import Derived.Test.YtnhmgaodhjgdaaaGreatDoorProg
import Derived.KernelRfl
set_option linter.all false
set_option maxRecDepth 100000
set_option maxHeartbeats 4000000
namespace Go.Sh
open Go.Proofs Go.Proofs.Tryz
noncomputable section
def mixed:Tryz.prog.follows .mixedOrders=true:=by kernel_rfl
noncomputable def env:Env:={call:=ground Tryz.prog,Eg:=28,AE:=29,Bb:=4,Bt:=173,Em:=304,Qh:=250,SQ:=254,LB:=258,Fq:=260,Ad:=125,En:=187,Ct:=190,GY:=193,C5:=196,LM:=202,A0:=204,GZ:=209,Cc:=86,Gn:=144,Qi:=147,Jc:=24,EY:=56,LN:=103,CI:=99,Ar:=39,Bu:=34,MY:=75,LO:=76,Ag:=3,Bi:=23,JO:=272,Aj:=44,Oq:=109,Cu:=35,Cv:=157,PN:=158,BK:=371,BM:=91,Ny:=296,Eh:=239,LP:=294,BB:=42,Ab:=71,Hw:=299,A6:=77,Bv:=101,LQ:=84,Cd:=350,Jd:=309,Pl:=32,PO:=352,LR:=354,Nz:=270,IH:=274,DB:=275,An:=340,Gp:=318,Qj:=119,AD:=298,Eo:=134,GK:=369,Fa:=256,S8:=374,MZ:=342,UE:=382,PQ:=385,Gq:=387,Ep:=63,GD:=64,NL:=65,Gr:=66,N1:=67,Gs:=68,Fs:=69,Qk:=70,N3:=71,II:=72,Iy:=73,IJ:=74,IK:=75,Hb:=76,Lx:=77,IL:=78,Io:=80,Je:=36,Kw:=128,JC:=242,GL:=49,LS:=283,Ip:=246,GM:=271,Jx:=274,Gt:=292,GC:=293,HO:=294,Gu:=295,AB:=1}
def tV:QI:={loops:=[],MQ:=[]}
abbrev Sem(l:List VT):=Fo l->(Value->World->Prop)->(Value->World->Prop)->World->Prop
def JU{l:List VT}(F:Sem l):Entry:=λargs w K Kp=>unArgs l args.toList λx=>F x K Kp w
noncomputable def nW(T:List (Nat×Entry))(A:QI)(fn:Func){l:List VT}:Sem l:=λx K Kp w=>ev Tryz.prog (tabC T) (ground Tryz.prog) A (fn.body.getD .skip) (finQ Tryz.prog fn K Kp) (FZ (mkArgs l x)) w
abbrev CG(f:FuncId){l:List VT}(F:Sem l):Prop:=HK Tryz.prog f (JU F)
def tW{T:List (Nat×Entry)}{A:QI}{f:FuncId}{fn:Func}{l:List VT}{F:Sem l}
 (m: ∀p∈T,E7 Tryz.prog p.1 p.2)(J:Tryz.prog.funcs[f]? =some fn)(a: ∀args w,(callFunc f args).run Tryz.prog w= .ok (.enter f args) w)
 (d:F=nW T A fn)(v:fn.body=some (fn.body.getD .skip):=by kernel_rfl)(e:Nat.ble l.length fn.ntmps=true:=by kernel_rfl)(u:withinB fn.ntmps (written (fn.body.getD .skip))=true:=by kernel_rfl):CG f F:=
 SK m mixed J a v e u λ_ _ _ _=>congrFun (congrFun (congrFun (congrFun d _) _) _) _
structure Slot where
 f:Nat
 Y:Type
 G:Y->Entry
 v:Y
 ok:E7 Tryz.prog f (G v)
def Cs:List Slot->Type->Type
 | [],R=>R
 | s::l,R=>s.Y->Cs l R
def apC{R:Type}:(l:List Slot)->Cs l R->R
 | [],t=>t
 | s::l,t=>apC l (t s.v)
def mpC{R Q:Type}(g:R->Q):(l:List Slot)->Cs l R->Cs l Q
 | [],t=>g t
 | _::l,t=>λc=>mpC g l (t c)
def tbC{sh:List VT}(A:QI)(fn:Func):(l:List Slot)->List (Nat×Entry)->Cs l (Sem sh)
 | [],T=>nW T A fn
 | s::l,T=>λc=>tbC A fn l ((s.f,s.G c)::T)
def xU{sh:List VT}{Y:Type}{G:Y->Sem sh}{A:QI}{fn:Func}: ∀(l:List Slot) (T:List (Nat×Entry)) (t:Cs l Y),mpC G l t=tbC A fn l T->(∀p∈T,E7 Tryz.prog p.1 p.2)-> ∃a,(∀p∈a,E7 Tryz.prog p.1 p.2)/\G (apC l t)=nW a A fn
 | [],T,_,h,hT=>⟨T,hT,h⟩
 | s::l,_,t,h,hT=>xU l _ (t s.v) (congrFun h s.v) (Tt s.ok hT)
def NY(f:Nat){sh:List VT}{Y:Type}(G:Y->Sem sh)(v:Y)(l:List Slot)(t:Cs l Y){fn:Func}(J:Tryz.prog.funcs[f]? =some fn)(a: ∀args w,(callFunc f args).run Tryz.prog w= .ok (.enter f args) w)(A:QI:=tV)
 (K:apC l t=v:=by kernel_rfl)(h:mpC G l t=tbC A fn l []:=by kernel_rfl)(u:fn.body=some (fn.body.getD .skip):=by kernel_rfl)(d:Nat.ble sh.length fn.ntmps=true:=by kernel_rfl)(m:withinB fn.ntmps (written (fn.body.getD .skip))=true:=by kernel_rfl):CG f (G v):=by
 obtain⟨T,h1,e⟩:=xU l [] t h IE;rw[K]at e;exact tW h1 J a e u d m
def OB(f:Nat){sh:List VT}{Y:Type}(G:Y->Sem sh)(v:Y){fn:Func}(u:Tryz.prog.funcs[f]? =some fn)(a: ∀args w,(callFunc f args).run Tryz.prog w= .ok (.enter f args) w)(A:QI:=tV)
 (h:G v=nW [] A fn:=by kernel_rfl)(m:fn.body=some (fn.body.getD .skip):=by kernel_rfl)(d:Nat.ble sh.length fn.ntmps=true:=by kernel_rfl)(e:withinB fn.ntmps (written (fn.body.getD .skip))=true:=by kernel_rfl):CG f (G v):=NY f G v [] v u a A rfl h m d e
def mk(f:Nat){sh:List VT}{Y:Type}(G:Y->Sem sh)(v:Y)(l:List Slot)(t:Cs l Y){fn:Func}(u:Tryz.prog.funcs[f]? =some fn)(a: ∀args w,(callFunc f args).run Tryz.prog w= .ok (.enter f args) w)(A:QI:=tV)
 (J:apC l t=v:=by kernel_rfl)(h:mpC G l t=tbC A fn l []:=by kernel_rfl)(m:fn.body=some (fn.body.getD .skip):=by kernel_rfl)(d:Nat.ble sh.length fn.ntmps=true:=by kernel_rfl)(e:withinB fn.ntmps (written (fn.body.getD .skip))=true:=by kernel_rfl):Slot:=⟨f,Y,λc=>JU (G c),v,(NY f G v l t u a A J h m d e).any⟩
def HY(f:Nat){sh:List VT}{Y:Type}(G:Y->Sem sh)(v:Y){fn:Func}(u:Tryz.prog.funcs[f]? =some fn)(a: ∀args w,(callFunc f args).run Tryz.prog w= .ok (.enter f args) w)(A:QI:=tV)
 (h:G v=nW [] A fn:=by kernel_rfl)(m:fn.body=some (fn.body.getD .skip):=by kernel_rfl)(d:Nat.ble sh.length fn.ntmps=true:=by kernel_rfl)(e:withinB fn.ntmps (written (fn.body.getD .skip))=true:=by kernel_rfl):Slot:=mk f G v [] v u a A rfl h m d e
def g0(c:Y0):Sem [.agg [.sl,.sl,.sl]]:=λx K Kp w=>c x.1.1 x.1.2.1 x.1.2.2.1 (λr1 a d w'=>K (.agg ⟨[.slice r1.base r1.len r1.cap,.slice a.base a.len a.cap,.slice d.base d.len d.cap]⟩) w') w
def IZ:=HY 13 g0 (F.I9 env) func13 call13
def g1(c:Y1):Sem [.one (.sl)]:=λx K Kp w=>c x.1 (λr1 w'=>K (.slice r1.base r1.len r1.cap) w') w
def UJ:=HY 33 g1 (F.As env) func33 call33
def W8:=HY 32 g1 (F.CM env) func32 call32
def g2(c:Y2):Sem [.agg [.sl,.sl,.sl]]:=λx K Kp w=>c x.1.1 x.1.2.1 x.1.2.2.1 (λr1 w'=>K (.pointer r1) w') w
def fM:=mk 55 g2 (F.KU env) [UJ,W8] (T0.KU env) func55 call55
def g3(c:Y3):Sem [.one (.ptr)]:=λx K Kp w=>c x.1 (λw'=>K (.tuple ⟨[]⟩) w') w
def tX:=HY 144 g3 (F.Cw env) func144 call144 ⟨[(2,[(5,.one (.int .i64))])],[]⟩
def g4(c:Y4):Sem []:=λx K Kp w=>c (λr1 w'=>K (.pointer r1) w') w
def s97:=mk 97 g4 (F.Hq env) [tX] (T0.Hq env) func97 call97
def s98:=HY 98 g4 (F.Ma env) func98 call98
def g5(c:Y5):Sem [.one (.int .i64)]:=λx K Kp w=>c x.1 (λr1 a w'=>K (.tuple ⟨[.pointer r1,.int .i64 a]⟩) w') w
def s99:=HY 99 g5 (F.TP env) func99 call99 ⟨[],[(2,[(9,.one (.bool))])]⟩
def zG:=HY 100 g4 (F.Mu env) func100 call100
def g6(c:Y6):Sem [.one (.ptr)]:=λx K Kp w=>c x.1 (λr1 w'=>K (.pointer r1) w') w
def aC:=mk 54 g6 (F.IY env) [s97,s98,s99,zG] (T0.IY env) func54 call54 ⟨[(4,[(18,.one (.int .i64))])],[]⟩
def yQ:=HY 56 g4 (F.Ql env) func56 call56
def VK:=HY 57 g4 (F.Ly env) func57 call57
def s58:=HY 58 g4 (F.Ot env) func58 call58
def g7(c:Y7):Sem [.one (.ptr),.one (.ptr),.one (.ptr)]:=λx K Kp w=>c x.1 x.2.1 x.2.2.1 (λr1 w'=>K (.pointer r1) w') w
def s59:=HY 59 g7 (F.Ou env) func59 call59
def s60:=HY 60 g6 (F.Ov env) func60 call60 ⟨[(3,[(9,.one (.int .i64))])],[]⟩
def s61:=HY 61 g6 (F.Lz env) func61 call61
def g8(c:Y8):Sem [.one (.ptr),.one (.int .i64)]:=λx K Kp w=>c x.1 x.2.1 (λr1 w'=>K (.pointer r1) w') w
def s62:=HY 62 g8 (F.Ow env) func62 call62
def g9(c:Y9):Sem [.agg [.sl,.sl,.sl],.one (.int .i64),.one (.int .i64)]:=λx K Kp w=>c x.1.1 x.1.2.1 x.1.2.2.1 x.2.1 x.2.2.1 (λr1 a w'=>K (.tuple ⟨[.pointer r1,.int .i64 a]⟩) w') w
def Kr:=mk 29 g9 (F.IM env) [fM,aC,yQ,VK,s58,s59,s60,s61,s62] (T0.IM env) func29 call29 ⟨[(8,[(57,.one (.int .i64))])],[(2,[(16,.one (.bool))])]⟩
def g10(c:Y8):Sem [.one (.ptr),.one (.int .u64)]:=λx K Kp w=>c x.1 x.2.1 (λr1 w'=>K (.pointer r1) w') w
def lS:=HY 30 g10 (F.UF env) func30 call30
def g11(c:Y10):Sem []:=λx K Kp w=>c (λr1 w'=>K (.map r1) w') w
def s31:=HY 31 g11 (F.Ox env) func31 call31
def Er:=mk 12 g9 (F.Kx env) [Kr,lS,s31] (T0.Kx env) func12 call12 ⟨[(6,[(35,.one (.int .i64))])],[(5,[(10,.one (.ptr))])]⟩
def g12(c:Y11):Sem [.one (.ptr),.one (.bool),.one (.bool)]:=λx K Kp w=>c x.1 x.2.1 x.2.2.1 (λw'=>K (.tuple ⟨[]⟩) w') w
def Mt:=HY 14 g12 (F.JD env) func14 call14
def g13(c:Y12):Sem [.agg [.sl,.sl,.sl],.one (.int .i64),.one (.int .i64),.one (.int .i64)]:=λx K Kp w=>c x.1.1 x.1.2.1 x.1.2.2.1 x.2.1 x.2.2.1 x.2.2.2.1 (λr1 w'=>K (.pointer r1) w') w
def s4:=mk 4 g13 (F.EI env) [IZ,Er,Mt] (T0.EI env) func4 call4 ⟨[],[(3,[(24,.one (.bool))])]⟩
def XB(c:PM):Sem [.one (.ptr)]:=λx K Kp w=>c x.1 (λr1 w'=>K (.bool r1) w') w
noncomputable def C16:Entry:=JU (XB (F.A4 env))
def nX:CG 16 (XB (F.A4 env)):=OB 16 XB (F.A4 env) func16 call16
def UG:Slot:=⟨16,_,λc=>JU (XB c),F.A4 env,nX.any⟩
def g15(c:Y14):Sem [.one (.ptr),.agg [.int .i64,.int .i64,.int .u64,.int .u64,.int .i64,.int .u64,.bool,.int .i64,.sl,.sl]]:=λx K Kp w=>c x.1 x.2.1.1 x.2.1.2.1 x.2.1.2.2.1 x.2.1.2.2.2.1 x.2.1.2.2.2.2.1 x.2.1.2.2.2.2.2.1 x.2.1.2.2.2.2.2.2.1 x.2.1.2.2.2.2.2.2.2.1 x.2.1.2.2.2.2.2.2.2.2.1 x.2.1.2.2.2.2.2.2.2.2.2.1 (λr1 a w'=>K (.tuple ⟨[.int .i64 r1,.int .i64 a]⟩) w') w
def X3:=mk 15 g15 (F.Es env) [UG,W8,UJ] (T0.Es env) func15 call15 ⟨[],[(4,[(13,.one (.bool))])]⟩
def g16(c:Y15):Sem [.one (.ptr),.agg [.int .i64,.int .i64,.int .u64,.int .u64,.int .i64,.int .u64,.bool,.int .i64,.sl,.sl],.one (.int .u64)]:=λx K Kp w=>c x.1 x.2.1.1 x.2.1.2.1 x.2.1.2.2.1 x.2.1.2.2.2.1 x.2.1.2.2.2.2.1 x.2.1.2.2.2.2.2.1 x.2.1.2.2.2.2.2.2.1 x.2.1.2.2.2.2.2.2.2.1 x.2.1.2.2.2.2.2.2.2.2.1 x.2.1.2.2.2.2.2.2.2.2.2.1 x.2.2.1 (λr1 w'=>K (.bool r1) w') w
def s5:=mk 5 g16 (F.Ce env) [X3,UG] (T0.Ce env) func5 call5
def g17(c:Y16):Sem [.one (.sl),.one (.any)]:=λx K Kp w=>c x.1 x.2.1 (λr1 w'=>K (.int .i64 r1) w') w
def s121:=HY 121 g17 (F.DC env) func121 call121 ⟨[(2,[(8,.one (.int .i64))])],[]⟩
def g18(c:yZ):Sem [.one (.sl),.one (.any)]:=λx K Kp w=>c x.1 x.2.1 (λr1 w'=>K (.bool r1) w') w
def s79:=mk 79 g18 (F.Aq env) [s121] (T0.Aq env) func79 call79
noncomputable def C34:Entry:=JU (XB (F.Bl env))
def nY:CG 34 (XB (F.Bl env)):=NY 34 XB (F.Bl env) [s79] (T0.Bl env) func34 call34
def sS:Slot:=⟨34,_,λc=>JU (XB c),F.Bl env,nY.any⟩
def s81:=HY 81 g17 (F.Cn env) func81 call81 ⟨[(2,[(8,.one (.int .i64))])],[]⟩
def s35:=mk 35 g18 (F.Am env) [s81] (T0.Am env) func35 call35
def aX:=mk 17 XB (F.Dz env) [sS,s35] (T0.Dz env) func17 call17
def g19(c:Y18):Sem [.one (.ptr),.one (.ptr),.one (.int .i64)]:=λx K Kp w=>c x.1 x.2.1 x.2.2.1 (λr1 w'=>K (.bool r1) w') w
def s122:=HY 122 g19 (F.KL env) func122 call122 ⟨[(6,[(24,.one (.int .i64))])],[(9,[(55,.one (.bool))])]⟩
def s83:=HY 83 g6 (F.FA env) func83 call83
def g20(c:fL):Sem [.one (.ptr)]:=λx K Kp w=>c x.1 (λr1 a w'=>K (.tuple ⟨[.int .i64 r1,.bool a]⟩) w') w
def s123:=HY 123 g20 (F.GF env) func123 call123 ⟨[(3,[(4,.one (.ptr))])],[(4,[(13,.one (.bool))]),(6,[(41,.one (.bool))])]⟩
def s84:=HY 84 g6 (F.GN env) func84 call84
def g21(c:O7):Sem [.one (.ptr)]:=λx K Kp w=>c x.1 (λr1 w'=>K (.int .u64 r1) w') w
def s282:=HY 282 g21 (F.Ko env) func282 call282
def s238:=mk 238 g21 (F.FG env) [s282] (T0.FG env) func238 call238
def zS:=HY 254 XB (F.EZ env) func254 call254
def g22(c:y7):Sem [.one (.ptr)]:=λx K Kp w=>c x.1 (λr1 a d w'=>K (.tuple ⟨[.int .u64 r1,.int .u64 a,.int .u64 d]⟩) w') w
def s239:=mk 239 g22 (F.GO env) [zS] (T0.GO env) func239 call239
def s240:=mk 240 g21 (F.He env) [s282] (T0.He env) func240 call240
def s179:=mk 179 g22 (F.Gv env) [s238,s239,s240] (T0.Gv env) func179 call179 ⟨[(3,[(5,.one (.int .u64)),(20,.one (.int .i64))]),(6,[(5,.one (.int .u64)),(10,.one (.int .u64))])],[]⟩
noncomputable def C202:Entry:=λargs w K Kp=>unArgs [.one (.int .u64)] args.toList λx=>F.GP env x.1 (λr1 w'=>K (.float .f64 r1) w') w
def tY:E7 Tryz.prog 202 C202:=
 Tr Tryz.func202 (by kernel_rfl) (by kernel_rfl) (by kernel_rfl) (e:=Extern.MathFloatBits.float64frombits) (by kernel_rfl) (Wj rfl)
def g23(c:Rp):Sem [.one (.int .u64),.one (.int .u64)]:=λx K Kp w=>c x.1 x.2.1 (λr1 w'=>K (.int .u64 r1) w') w
def g24(c:Y22):Sem [.one (.int .u64)]:=λx K Kp w=>c x.1 (λr1 w'=>K (.float .f64 r1) w') w
def s202:Slot:=⟨202,_,λc=>JU (g24 c),F.GP env,tY⟩
def nP:=mk 154 g23 (F.Fb env) [s202] (T0.Fb env) func154 call154
def s124:=mk 124 g21 (F.Hf env) [s179,nP] (T0.Hf env) func124 call124
def g25(c:Qg):Sem [.one (.int .i64)]:=λx K Kp w=>c x.1 (λr1 w'=>K (.int .i64 r1) w') w
def s85:=HY 85 g25 (F.Ho env) func85 call85 ⟨[],[(6,[(6,.one (.bool))])]⟩
def g26(c:Y25):Sem [.one (.ptr),.one (.ptr)]:=λx K Kp w=>c x.1 x.2.1 (λr1 w'=>K (.bool r1) w') w
def tU:=mk 82 g26 (F.EJ env) [s122,s83,s123,s84,s124,s85] (T0.EJ env) func82 call82
def xV(c:W4):Sem [.one (.ptr)]:=λx K Kp w=>c x.1 (λr1 w'=>K (.slice r1.base r1.len r1.cap) w') w
noncomputable def C37:Entry:=JU (xV (F.Bm env))
def nZ:CG 37 (xV (F.Bm env)):=NY 37 xV (F.Bm env) [UG,tU] (T0.Bm env) func37 call37 ⟨[(3,[(3,.one (.sl)),(11,.one (.int .i64))])],[(6,[(25,.one (.bool))])]⟩
def s37:Slot:=⟨37,_,λc=>JU (xV c),F.Bm env,nZ.any⟩
def g28(c:jN):Sem [.one (.ptr),.one (.int .i64)]:=λx K Kp w=>c x.1 x.2.1 (λr1 a w'=>K (.tuple ⟨[.int .i64 r1,.bool a]⟩) w') w
def xP:=mk 18 g28 (F.D9 env) [s37] (T0.D9 env) func18 call18 ⟨[(3,[(7,.one (.int .i64))])],[]⟩
def g29(c:xO):Sem [.one (.ptr),.one (.ptr)]:=λx K Kp w=>c x.1 x.2.1 (λr1 e m u v J O T d a w'=>K (.agg ⟨[.int .i64 r1,.int .i64 e,.int .u64 m,.int .u64 u,.int .i64 v,.int .u64 J,.bool O,.int .i64 T,.slice d.base d.len d.cap,.slice a.base a.len a.cap]⟩) w') w
def s86:=HY 86 g29 (F.FP env) func86 call86
def QJ(c:VJ):Sem [.one (.ptr),.one (.ptr)]:=λx K Kp w=>c x.1 x.2.1 (λw'=>K (.tuple ⟨[]⟩) w') w
noncomputable def C41:Entry:=JU (QJ (F.DW env))
def zT:CG 41 (QJ (F.DW env)):=NY 41 QJ (F.DW env) [s83,s84,s86,s85] (T0.DW env) func41 call41
noncomputable def C39:Entry:=JU (g3 (F.Ea env))
def n8:CG 39 (g3 (F.Ea env)):=OB 39 g3 (F.Ea env) func39 call39
def s39:Slot:=⟨39,_,λc=>JU (g3 c),F.Ea env,n8.any⟩
def g31(c:y8):Sem [.one (.ptr),.one (.ptr),.agg [.int .u64,.int .u64,.int .i64]]:=λx K Kp w=>c x.1 x.2.1 x.2.2.1.1 x.2.2.1.2.1 x.2.2.1.2.2.1 (λw'=>K (.tuple ⟨[]⟩) w') w
noncomputable def C40:Entry:=JU (g31 (F.C6 env))
def n9:CG 40 (g31 (F.C6 env)):=OB 40 g31 (F.C6 env) func40 call40
def aB:Slot:=⟨40,_,λc=>JU (g31 c),F.C6 env,n9.any⟩
noncomputable def D38:LG:=λargs pv w K=>unArgs [.one (.ptr),.one (.ptr),.one (.ptr)] args.toList λx=>F.FQ env x.1 x.2.1 x.2.2.1 (pv.getD .nilIface) (λw'=>K pv.isSome w') w
noncomputable def oA:Code:=(Tryz.f38.body).getD .skip
def oB:QI:={loops:=[],MQ:=[]}
noncomputable def a9:Code:=((recOf oA).map (·.2)).getD .skip
def zU(a: ∀(a0:(Option Addr)) (K:World->Prop) (w:World),Prop)(d: ∀(a0:(Option Addr)) (a1:(Option Addr)) (e:Int) (m:Int) (u:Int) (K:World->Prop) (w:World),Prop)(x:Fo [.one (.ptr),.one (.ptr),.one (.ptr)])(v:Value)(K:World->Prop)(w:World):T0.FQ env a d x.1 x.2.1 x.2.2.1 v K w=
 ev Tryz.prog (tabC [(39,λargs w K Kp=>unArgs [.one (.ptr)] args.toList λx=>a x.1 (λw'=>K (.tuple ⟨[]⟩) w') w),(40,λargs w K Kp=>unArgs [.one (.ptr),.one (.ptr),.agg [.int .u64,.int .u64,.int .i64]] args.toList λx=>d x.1 x.2.1 x.2.2.1.1 x.2.2.1.2.1 x.2.2.1.2.2.1 (λw'=>K (.tuple ⟨[]⟩) w') w)]) (ground Tryz.prog) oB a9 (finQ Tryz.prog Tryz.f38 (λ_ w'=>K w') EW) ((FZ (mkArgs [.one (.ptr),.one (.ptr),.one (.ptr)] x)).put 6 v) w:=by kernel_rfl
def tie38(x:Fo [.one (.ptr),.one (.ptr),.one (.ptr)])(v:Value)(K:World->Prop)(w:World):F.FQ env x.1 x.2.1 x.2.2.1 v K w=
 ev Tryz.prog (tabC [(39,C39),(40,C40)]) (ground Tryz.prog) oB a9 (finQ Tryz.prog Tryz.f38 (λ_ w'=>K w') EW) ((FZ (mkArgs [.one (.ptr),.one (.ptr),.one (.ptr)] x)).put 6 v) w:=zU (F.Ea env) (F.C6 env) x v K w
def tZ:HZ Tryz.prog 38 D38:=
 Rk (T:=[(39,C39),(40,C40)]) (A:=oB) (fn:=Tryz.f38) (c:=oA) (y:=a9) (d:=6) (l:=[.one (.ptr),.one (.ptr),.one (.ptr)]) (F:=λ(x:Fo [.one (.ptr),.one (.ptr),.one (.ptr)]) v K w=>F.FQ env x.1 x.2.1 x.2.2.1 v K w) (BP n8 (BP n9 IE)) mixed Tryz.func38 Tryz.call38 (by kernel_rfl) (by kernel_rfl) (by kernel_rfl) (by kernel_rfl) (by kernel_rfl) tie38
noncomputable def C19:Entry:=λargs w K Kp=>unArgs [.one (.ptr),.one (.int .i64)] args.toList λx=>F.FB env x.1 x.2.1 (λr1 a w'=>K (.tuple ⟨[.int .i64 r1,.int .i64 a]⟩) w') w
noncomputable def bA:Code:=(Tryz.f19.body).getD .skip
def oC:QI:={loops:=[],MQ:=[(5,[(16,.one (.bool))]),(12,[])]}
def zV(d: ∀(a0:(Option Addr)) (K:AW->World->Prop) (w:World),Prop)(a: ∀(a0:(Option Addr)) (K:Bool->World->Prop) (w:World),Prop)(e: ∀(a0:(Option Addr)) (K:Bool->World->Prop) (w:World),Prop)(m: ∀(a0:(Option Addr)) (a1:(Option Addr)) (K:World->Prop) (w:World),Prop)(x:Fo [.one (.ptr),.one (.int .i64)])(K:Value->World->Prop)(w:World):T0.FB env d a e m x.1 x.2.1 (λr1 u w'=>K (.tuple ⟨[.int .i64 r1,.int .i64 u]⟩) w') w=
 evD Tryz.prog (tabC [(37,λargs w K Kp=>unArgs [.one (.ptr)] args.toList λx=>d x.1 (λr1 w'=>K (.slice r1.base r1.len r1.cap) w') w),(16,λargs w K Kp=>unArgs [.one (.ptr)] args.toList λx=>a x.1 (λr1 w'=>K (.bool r1) w') w),(34,λargs w K Kp=>unArgs [.one (.ptr)] args.toList λx=>e x.1 (λr1 w'=>K (.bool r1) w') w),(41,λargs w K Kp=>unArgs [.one (.ptr),.one (.ptr)] args.toList λx=>m x.1 x.2.1 (λw'=>K (.tuple ⟨[]⟩) w') w)]) (ground Tryz.prog) oC (finQ Tryz.prog Tryz.f19 K EW) (finD Tryz.prog Tryz.f19 (tabD [(38,D38)]) K EW) bA (FZ (mkArgs [.one (.ptr),.one (.int .i64)] x)) w:=by kernel_rfl
def tie19(x:Fo [.one (.ptr),.one (.int .i64)])(K:Value->World->Prop)(w:World):F.FB env x.1 x.2.1 (λr1 a w'=>K (.tuple ⟨[.int .i64 r1,.int .i64 a]⟩) w') w=
 evD Tryz.prog (tabC [(37,C37),(16,C16),(34,C34),(41,C41)]) (ground Tryz.prog) oC (finQ Tryz.prog Tryz.f19 K EW) (finD Tryz.prog Tryz.f19 (tabD [(38,D38)]) K EW) bA (FZ (mkArgs [.one (.ptr),.one (.int .i64)] x)) w:=zV (F.Bm env) (F.A4 env) (F.Bl env) (F.DW env) x K w
def zW:HK Tryz.prog 19 C19:=
 JY (T:=[(37,C37),(16,C16),(34,C34),(41,C41)]) (TD:=[(38,D38)]) (A:=oC) (fn:=Tryz.f19) (c:=bA) (BP nZ (BP nX (BP nY (BP zT IE)))) (LH tZ MR) mixed Tryz.func19 Tryz.call19 (by kernel_rfl) (by kernel_rfl) (by kernel_rfl) tie19
def g32(c:Y33):Sem [.one (.ptr),.one (.sl)]:=λx K Kp w=>c x.1 x.2.1 (λr1 w'=>K (.bool r1) w') w
def g33(c:UD):Sem [.one (.ptr),.one (.int .i64)]:=λx K Kp w=>c x.1 x.2.1 (λr1 a w'=>K (.tuple ⟨[.int .i64 r1,.int .i64 a]⟩) w') w
def JF:Slot:=⟨19,_,λc=>JU (g33 c),F.FB env,zW.any⟩
def s6:=mk 6 g32 (F.BG env) [aX,UG,xP,JF] (T0.BG env) func6 call6 ⟨[(3,[(5,.one (.int .i64)),(6,.one (.int .i64))])],[(6,[(23,.one (.bool))]),(12,[(7,.one (.int .i64))])]⟩
def aY:=HY 42 g1 (F.Gw env) func42 call42
def fN:=mk 20 xV (F.Fc env) [aY] (T0.Fc env) func20 call20
def g34(c:Y34):Sem [.one (.ptr),.one (.int .i64)]:=λx K Kp w=>c x.1 x.2.1 (λr1 a d e w'=>K (.tuple ⟨[.agg ⟨[.int .u64 r1,.int .u64 a,.int .i64 d]⟩,.bool e]⟩) w') w
def s9:=HY 9 g34 (F.Ht env) func9 call9 ⟨[],[(2,[(29,.one (.bool))])]⟩
def g35(c:sN):Sem [.one (.int .u64),.one (.int .u64)]:=λx K Kp w=>c x.1 x.2.1 (λr1 a w'=>K (.tuple ⟨[.int .u64 r1,.bool a]⟩) w') w
def s125:=HY 125 g35 (F.UH env) func125 call125
noncomputable def C126:Entry:=λargs w K Kp=>unArgs [.one (.int .u64),.one (.int .u64),.one (.int .u64)] args.toList λx=>F.EK env x.1 x.2.1 x.2.2.1 (λr1 a w'=>K (.tuple ⟨[.int .u64 r1,.int .u64 a]⟩) w') w
def uA:E7 Tryz.prog 126 C126:=
 Tr Tryz.func126 (by kernel_rfl) (by kernel_rfl) (by kernel_rfl) (e:=add64Entry) (by kernel_rfl) (jE rfl)
def g36(c:Y36):Sem [.one (.int .u64),.one (.int .u64),.one (.int .u64)]:=λx K Kp w=>c x.1 x.2.1 x.2.2.1 (λr1 a w'=>K (.tuple ⟨[.int .u64 r1,.int .u64 a]⟩) w') w
def nO:Slot:=⟨126,_,λc=>JU (g36 c),F.EK env,uA⟩
def s87:=mk 87 g35 (F.Pm env) [s125,nO] (T0.Pm env) func87 call87
def g37(c:nG):Sem [.one (.int .u64)]:=λx K Kp w=>c x.1 (λr1 w'=>K (.bool r1) w') w
def tS:=HY 180 g37 (F.Qm env) func180 call180
def g38(c:Rp):Sem [.one (.int .i64),.one (.int .i64)]:=λx K Kp w=>c x.1 x.2.1 (λr1 w'=>K (.int .i64 r1) w') w
def s181:=mk 181 g38 (F.IN env) [tS] (T0.IN env) func181 call181
def zM:=HY 182 g38 (F.L0 env) func182 call182 ⟨[(2,[(5,.one (.int .i64))])],[]⟩
def g39(c:Qg):Sem [.one (.int .u32)]:=λx K Kp w=>c x.1 (λr1 w'=>K (.int .u32 r1) w') w
def s183:=HY 183 g39 (F.Oy env) func183 call183
def g40(c:Y38):Sem [.one (.int .i64),.one (.int .i64)]:=λx K Kp w=>c x.1 x.2.1 (λr1 a w'=>K (.tuple ⟨[.slice r1.base r1.len r1.cap,.int .i64 a]⟩) w') w
def s129:=mk 129 g40 (F.JE env) [tS,s181,zM,s183] (T0.JE env) func129 call129 ⟨[(6,[(6,.one (.sl)),(7,.one (.int .i64)),(8,.one (.int .i64))]),(15,[(107,.one (.int .i64))])],[(2,[(42,.one (.bool))]),(12,[(91,.one (.bool))]),(22,[])]⟩
def g41(c:sO):Sem []:=λx K Kp w=>c (λr1 w'=>K (.slice r1.base r1.len r1.cap) w') w
def zX:=mk 89 g41 (F.DM env) [s129] (T0.DM env) func89 call89
def g42(c:Y40):Sem [.one (.int .i64),.one (.any)]:=λx K Kp w=>c x.1 x.2.1 (λr1 w'=>K (.int .i64 r1) w') w
def uB:=HY 127 g42 (F.IP env) func127 call127 ⟨[(2,[(5,.one (.int .i64)),(6,.one (.int .i64))])],[]⟩
def g43(c:tI):Sem [.one (.int .i64)]:=λx K Kp w=>c x.1 (λr1 a w'=>K (.tuple ⟨[.int .i64 r1,.int .i64 a]⟩) w') w
def s88:=mk 88 g43 (F.Jf env) [zX,uB] (T0.Jf env) func88 call88 ⟨[],[(2,[(10,.one (.bool))])]⟩
def g44(c:tI):Sem [.one (.int .u64)]:=λx K Kp w=>c x.1 (λr1 a w'=>K (.tuple ⟨[.int .u64 r1,.int .i64 a]⟩) w') w
def s43:=mk 43 g44 (F.HB env) [s87,s88,zX] (T0.HB env) func43 call43
def g45(c:nH):Sem [.one (.ptr),.one (.int .u64),.one (.int .u64)]:=λx K Kp w=>c x.1 x.2.1 x.2.2.1 (λr1 w'=>K (.bool r1) w') w
def sR:=HY 22 g45 (F.DS env) func22 call22 ⟨[(2,[(7,.one (.int .i64))])],[(5,[(49,.one (.bool))])]⟩
def uC(c:Kh):Sem [.one (.ptr),.one (.int .u64)]:=λx K Kp w=>c x.1 x.2.1 (λr1 w'=>K (.int .i64 r1) w') w
def s241:=HY 241 uC (F.Hg env) func241 call241 ⟨[(2,[(12,.one (.int .i64))])],[(5,[(25,.one (.bool))])]⟩
def s184:=mk 184 uC (F.FR env) [s241] (T0.FR env) func184 call184
def s131:=mk 131 uC (F.D0 env) [s184] (T0.D0 env) func131 call131
def g47(c:y9):Sem [.one (.ptr),.one (.int .i64)]:=λx K Kp w=>c x.1 x.2.1 (λr1 a w'=>K (.tuple ⟨[.pointer r1,.int .i64 a]⟩) w') w
def Oz:=HY 51 g47 (F.De env) func51 call51
def g48(c:lR):Sem [.one (.ptr)]:=λx K Kp w=>c x.1 (λr1 d e m u v J O T a w'=>K (.agg ⟨[.int .u64 r1,.int .i64 d,.int .i64 e,.int .i64 m,.bool u,.int .i64 v,.int .i64 J,.int .i64 O,.bool T,.bool a]⟩) w') w
noncomputable def C26:Entry:=JU (g48 (F.Ax env))
def oD:CG 26 (g48 (F.Ax env)):=OB 26 g48 (F.Ax env) func26 call26
def O8:Slot:=⟨26,_,λc=>JU (g48 c),F.Ax env,oD.any⟩
def g49(c:Y46):Sem [.one (.ptr),.one (.int .i64)]:=λx K Kp w=>c x.1 x.2.1 (λr1 a w'=>K (.tuple ⟨[.pointer r1,.bool a]⟩) w') w
def X4:=mk 25 g49 (F.Bx env) [Oz,O8] (T0.Bx env) func25 call25 ⟨[],[(3,[(24,.one (.bool))])]⟩
def g50(c:Rp):Sem [.one (.int .u32),.one (.int .u32)]:=λx K Kp w=>c x.1 x.2.1 (λr1 w'=>K (.int .u32 r1) w') w
def s185:=HY 185 g50 (F.UI env) func185 call185
def g51(c:UD):Sem [.one (.ptr),.one (.int .u64)]:=λx K Kp w=>c x.1 x.2.1 (λr1 a w'=>K (.tuple ⟨[.int .i64 r1,.int .i64 a]⟩) w') w
def s132:=mk 132 g51 (F.C7 env) [s185] (T0.C7 env) func132 call132 ⟨[],[(2,[(36,.one (.bool))])]⟩
def g52(c:Vv):Sem [.one (.ptr),.one (.int .i64)]:=λx K Kp w=>c x.1 x.2.1 (λr1 w'=>K (.bool r1) w') w
def tC:=HY 52 g52 (F.EL env) func52 call52
def g53(c:Y48):Sem [.one (.sl),.one (.int .i64)]:=λx K Kp w=>c x.1 x.2.1 (λr1 w'=>K (.bool r1) w') w
def s53:=HY 53 g53 (F.Iz env) func53 call53
def xS:=mk 27 g52 (F.Cx env) [tC,s53] (T0.Cx env) func27 call27
def g54(c:UD):Sem [.one (.ptr),.one (.int .i64)]:=λx K Kp w=>c x.1 x.2.1 (λr1 a w'=>K (.tuple ⟨[.int .u64 r1,.int .i64 a]⟩) w') w
def Rb:=mk 28 g54 (F.CR env) [tC] (T0.CR env) func28 call28
def g55(c:Y49):Sem [.one (.ptr),.one (.int .u64)]:=λx K Kp w=>c x.1 x.2.1 (λr1 a d w'=>K (.tuple ⟨[.int .u64 r1,.int .u64 a,.bool d]⟩) w') w
def s91:=mk 91 g55 (F.B7 env) [s131,X4,s132,xS,Rb,O8] (T0.B7 env) func91 call91 ⟨[],[(6,[(39,.one (.bool))])]⟩
def s45:=mk 45 uC (F.B8 env) [s91] (T0.B8 env) func45 call45
def X2:=HY 46 g6 (F.Et env) func46 call46
def oE:=mk 186 uC (F.CT env) [uB] (T0.CT env) func186 call186
def g56(c:Vv):Sem [.one (.ptr),.one (.int .u64)]:=λx K Kp w=>c x.1 x.2.1 (λr1 w'=>K (.bool r1) w') w
def s133:=mk 133 g56 (F.Df env) [oE] (T0.Df env) func133 call133
def g57(c:Y50):Sem [.one (.ptr),.one (.int .u64)]:=λx K Kp w=>c x.1 x.2.1 (λr1 a w'=>K (.tuple ⟨[.int .u64 r1,.int .u64 a]⟩) w') Kp w
noncomputable def C93:Entry:=JU (g57 (F.Dn env))
def oF:CG 93 (g57 (F.Dn env)):=NY 93 g57 (F.Dn env) [s133] (T0.Dn env) func93 call93
noncomputable def C130:Entry:=JU (g10 (F.Dg env))
def fP:CG 130 (g10 (F.Dg env)):=OB 130 g10 (F.Dg env) func130 call130 ⟨[(5,[(16,.one (.int .i64))])],[]⟩
def s130:Slot:=⟨130,_,λc=>JU (g10 c),F.Dg env,fP.any⟩
noncomputable def zY:LG:=λargs pv w K=>unArgs [.one (.ptr)] args.toList λx=>F.Dp env x.1 (pv.getD .nilIface) (λw'=>K pv.isSome w') w
noncomputable def oG:Code:=(Tryz.f92.body).getD .skip
def xW:QI:={loops:=[],MQ:=[]}
noncomputable def oH:Code:=((recOf oG).map (·.2)).getD .skip
def tie92(x:Fo [.one (.ptr)])(v:Value)(K:World->Prop)(w:World):F.Dp env x.1 v K w=
 ev Tryz.prog (tabC []) (ground Tryz.prog) xW oH (finQ Tryz.prog Tryz.f92 (λ_ w'=>K w') EW) ((FZ (mkArgs [.one (.ptr)] x)).put 5 v) w:=by kernel_rfl
def fQ:HZ Tryz.prog 92 zY:=
 Rk (T:=[]) (A:=xW) (fn:=Tryz.f92) (c:=oG) (y:=oH) (d:=5) (l:=[.one (.ptr)]) (F:=λ(x:Fo [.one (.ptr)]) v K w=>F.Dp env x.1 v K w) IE mixed Tryz.func92 Tryz.call92 (by kernel_rfl) (by kernel_rfl) (by kernel_rfl) (by kernel_rfl) (by kernel_rfl) tie92
end
end Go.Sh

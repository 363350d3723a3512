/- Each shallow form is what the code of its function comes to, piece 1. No further condition. -/
import Derived.Test.YtgeilojialbgdaaGreatDoorF
import Derived.Test.YtgeilojialbgdaaGreatDoorProg
import Derived.KernelRfl
set_option linter.all false
set_option maxRecDepth 100000
set_option maxHeartbeats 4000000
namespace Go.Sh
open Go.Proofs Go.Proofs.Tryz
noncomputable section
def mixed:Tryz.prog.follows .mixedOrders=true:=by kernel_rfl
noncomputable def env:Env:={call:=ground Tryz.prog,pT:=Gh Tryz.prog,seq:=V4 Tryz.prog,Ek:=29,AF:=22,Be:=4,Bs:=193,Es:=291,Qy:=172,Sq:=178,LD:=248,Ft:=174,Ab:=124,Et:=198,C8:=201,GV:=204,DI:=127,Jc:=134,A5:=206,GW:=211,Cn:=78,Gn:=157,El:=160,I3:=23,Ee:=52,LR:=103,CR:=99,EI:=40,BN:=34,Mo:=108,LS:=106,Ar:=3,Db:=26,JQ:=269,CT:=92,PE:=112,C9:=36,Hg:=286,A9:=69,BD:=86,Fa:=42,AB:=235,Ag:=167,DA:=250,Pe:=251,Bt:=101,BF:=370,ON:=233,Ue:=378,LU:=76,Co:=349,Kz:=302,dH:=32,V8:=351,Uf:=353,OO:=267,Hv:=271,DP:=272,Am:=336,Gp:=311,Qz:=118,Bn:=56,Eu:=147,GJ:=368,Fb:=246,Td:=373,Mp:=338,As:=181,Ug:=383,V9:=386,Uh:=388,Hw:=63,HM:=64,Nk:=65,Hx:=66,OP:=67,Fu:=68,Hy:=69,IP:=70,OQ:=71,Gq:=72,Ir:=73,Hz:=74,IA:=75,HO:=76,L4:=77,IB:=78,Ik:=80,Jd:=37,GK:=50,Dv:=91,K0:=180,JC:=276,LW:=277,Il:=241,GL:=265,Nq:=267,Gr:=124,Mq:=286,Ls:=287,NL:=288,Mr:=289,AH:=1}
abbrev ti:VT:=.one (.int .i64)
abbrev tu:VT:=.one (.int .u64)
abbrev tb:VT:=.one (.bool)
abbrev tp:VT:=.one (.ptr)
abbrev tl:VT:=.one (.sl)
abbrev ta:VT:=.one (.any)
def wJ:Ni:={loops:=[],L1:=[]}
abbrev Sem(l:List VT):=Fq l->(Value->World->Prop)->(Value->World->Prop)->World->Prop
def JJ{l:List VT}(F:Sem l):Entry:=λargs w K Kp=>unArgs l args.toList λx=>F x K Kp w
noncomputable def qB(T:List (Nat×Entry))(A:Ni)(fn:Func){l:List VT}:Sem l:=λx K Kp w=>ev Tryz.prog (tabC T) (ground Tryz.prog) A (fn.body.getD .skip) (finQ Tryz.prog fn K Kp) (FA (mkArgs l x)) w
abbrev C5(f:FuncId){l:List VT}(F:Sem l):Prop:=Dn Tryz.prog f (JJ F)
def wK{T:List (Nat×Entry)}{A:Ni}{f:FuncId}{fn:Func}{l:List VT}{F:Sem l}
 (hT: ∀p∈T,EZ Tryz.prog p.1 p.2)(J:Tryz.prog.funcs[f]? =some fn)(a: ∀args w,(callFunc f args).run Tryz.prog w= .ok (.enter f args) w)
 (e:F=qB T A fn)(v:fn.body=some (fn.body.getD .skip):=by kernel_rfl)(j:Nat.ble l.length fn.ntmps=true:=by kernel_rfl)(u:withinB fn.ntmps (written (fn.body.getD .skip))=true:=by kernel_rfl):C5 f F:=
 Sl hT mixed J a v j u λ_ _ _ _=>congrFun (congrFun (congrFun (congrFun e _) _) _) _
structure Slot where
 f:Nat
 Y:Type
 G:Y->Entry
 v:Y
 ok:EZ Tryz.prog f (G v)
def Cs:List Slot->Type->Type
 | [],R=>R
 | s::l,R=>s.Y->Cs l R
def apC{R:Type}:(l:List Slot)->Cs l R->R
 | [],t=>t
 | s::l,t=>apC l (t s.v)
def mpC{R Q:Type}(g:R->Q):(l:List Slot)->Cs l R->Cs l Q
 | [],t=>g t
 | _::l,t=>λc=>mpC g l (t c)
def tbC{sh:List VT}(A:Ni)(fn:Func):(l:List Slot)->List (Nat×Entry)->Cs l (Sem sh)
 | [],T=>qB T A fn
 | s::l,T=>λc=>tbC A fn l ((s.f,s.G c)::T)
def slotT{sh:List VT}{Y:Type}{G:Y->Sem sh}{A:Ni}{fn:Func}: ∀(l:List Slot) (T:List (Nat×Entry)) (t:Cs l Y),mpC G l t=tbC A fn l T->(∀p∈T,EZ Tryz.prog p.1 p.2)-> ∃a,(∀p∈a,EZ Tryz.prog p.1 p.2)/\G (apC l t)=qB a A fn
 | [],T,_,h,hT=>⟨T,hT,h⟩
 | s::l,_,t,h,hT=>slotT l _ (t s.v) (congrFun h s.v) (UJ s.ok hT)
def P7(f:Nat){sh:List VT}{Y:Type}(G:Y->Sem sh)(v:Y)(l:List Slot)(t:Cs l Y){fn:Func}(K:Tryz.prog.funcs[f]? =some fn)(a: ∀args w,(callFunc f args).run Tryz.prog w= .ok (.enter f args) w)(A:Ni:=wJ)
 (O:apC l t=v:=by kernel_rfl)(h:mpC G l t=tbC A fn l []:=by kernel_rfl)(J:fn.body=some (fn.body.getD .skip):=by kernel_rfl)(e:Nat.ble sh.length fn.ntmps=true:=by kernel_rfl)(u:withinB fn.ntmps (written (fn.body.getD .skip))=true:=by kernel_rfl):C5 f (G v):=by
 obtain⟨T,h1,j⟩:=slotT l [] t h Ho;rw[O]at j;exact wK h1 K a j J e u
def PV(f:Nat){sh:List VT}{Y:Type}(G:Y->Sem sh)(v:Y){fn:Func}(J:Tryz.prog.funcs[f]? =some fn)(a: ∀args w,(callFunc f args).run Tryz.prog w= .ok (.enter f args) w)(A:Ni:=wJ)
 (h:G v=qB [] A fn:=by kernel_rfl)(u:fn.body=some (fn.body.getD .skip):=by kernel_rfl)(e:Nat.ble sh.length fn.ntmps=true:=by kernel_rfl)(j:withinB fn.ntmps (written (fn.body.getD .skip))=true:=by kernel_rfl):C5 f (G v):=P7 f G v [] v J a A rfl h u e j
def mk(f:Nat){sh:List VT}{Y:Type}(G:Y->Sem sh)(v:Y)(l:List Slot)(t:Cs l Y){fn:Func}(J:Tryz.prog.funcs[f]? =some fn)(a: ∀args w,(callFunc f args).run Tryz.prog w= .ok (.enter f args) w)(A:Ni:=wJ)
 (K:apC l t=v:=by kernel_rfl)(h:mpC G l t=tbC A fn l []:=by kernel_rfl)(u:fn.body=some (fn.body.getD .skip):=by kernel_rfl)(e:Nat.ble sh.length fn.ntmps=true:=by kernel_rfl)(j:withinB fn.ntmps (written (fn.body.getD .skip))=true:=by kernel_rfl):Slot:=⟨f,Y,λc=>JJ (G c),v,(P7 f G v l t J a A K h u e j).any⟩
def IL(f:Nat){sh:List VT}{Y:Type}(G:Y->Sem sh)(v:Y){fn:Func}(J:Tryz.prog.funcs[f]? =some fn)(a: ∀args w,(callFunc f args).run Tryz.prog w= .ok (.enter f args) w)(A:Ni:=wJ)
 (h:G v=qB [] A fn:=by kernel_rfl)(u:fn.body=some (fn.body.getD .skip):=by kernel_rfl)(e:Nat.ble sh.length fn.ntmps=true:=by kernel_rfl)(j:withinB fn.ntmps (written (fn.body.getD .skip))=true:=by kernel_rfl):Slot:=mk f G v [] v J a A rfl h u e j
def g0(c:Y0):Sem [.agg [.sl,.sl,.sl]]:=λx K Kp=>c x.1.1 x.1.2.1 x.1.2.2.1 (λr1 a e=>K (.agg ⟨[.slice r1.base r1.len r1.cap,.slice a.base a.len a.cap,.slice e.base e.len e.cap]⟩))
def Fj:=IL 12 g0 (F.I4 env) func12 call12
def g1(c:Y1):Sem [tl]:=λx K Kp=>c x.1 (λr1=>K (.slice r1.base r1.len r1.cap))
def pV:=IL 34 g1 (F.Ap env) func34 call34
def oF:=IL 33 g1 (F.CX env) func33 call33
def g2(c:Y2):Sem [.agg [.sl,.sl,.sl]]:=λx K Kp=>c x.1.1 x.1.2.1 x.1.2.2.1 (λr1=>K (.pointer r1))
def jA:=mk 55 g2 (F.KV env) [pV,oF] (T0.KV env) func55 call55
def g3(c:Y3):Sem [tp]:=λx K Kp=>c x.1 (λw'=>K (.tuple ⟨[]⟩) w')
def wL:=IL 135 g3 (F.DB env) func135 call135 ⟨[(2,[(5,ti)])],[]⟩
def g4(c:Y4):Sem []:=λx K Kp=>c (λr1=>K (.pointer r1))
def s96:=mk 96 g4 (F.HZ env) [wL] (T0.HZ env) func96 call96
def s97:=IL 97 g4 (F.Ms env) func97 call97
def g5(c:Y5):Sem [ti]:=λx K Kp=>c x.1 (λr1 a=>K (.tuple ⟨[.pointer r1,.int .i64 a]⟩))
def s98:=IL 98 g5 (F.Ts env) func98 call98 ⟨[],[(2,[(9,tb)])]⟩
def s99:=IL 99 g4 (F.NM env) func99 call99
def g6(c:Y6):Sem [tp]:=λx K Kp=>c x.1 (λr1=>K (.pointer r1))
def vA:=mk 54 g6 (F.IQ env) [s96,s97,s98,s99] (T0.IQ env) func54 call54 ⟨[(4,[(18,ti)])],[]⟩
def s56:=IL 56 g4 (F.Q3 env) func56 call56
def Uj:=IL 57 g4 (F.L5 env) func57 call57
def s58:=IL 58 g4 (F.PF env) func58 call58
def g7(c:Y7):Sem [tp,tp,tp]:=λx K Kp=>c x.1 x.2.1 x.2.2.1 (λr1=>K (.pointer r1))
def s59:=IL 59 g7 (F.PG env) func59 call59
def s60:=IL 60 g6 (F.PH env) func60 call60 ⟨[(3,[(9,ti)])],[]⟩
def s61:=IL 61 g6 (F.L6 env) func61 call61
def g8(c:Y8):Sem [tp,ti]:=λx K Kp=>c x.1 x.2.1 (λr1=>K (.pointer r1))
def s62:=IL 62 g8 (F.PI env) func62 call62
def g9(c:Y9):Sem [.agg [.sl,.sl,.sl],ti,ti]:=λx K Kp=>c x.1.1 x.1.2.1 x.1.2.2.1 x.2.1 x.2.2.1 (λr1 a=>K (.tuple ⟨[.pointer r1,.int .i64 a]⟩))
def oE:=mk 30 g9 (F.IC env) [jA,vA,s56,Uj,s58,s59,s60,s61,s62] (T0.IC env) func30 call30 ⟨[(8,[(57,ti)])],[(2,[(16,tb)])]⟩
def g10(c:Y8):Sem [tp,tu]:=λx K Kp=>c x.1 x.2.1 (λr1=>K (.pointer r1))
def s31:=IL 31 g10 (F.Ui env) func31 call31
def g11(c:Y10):Sem []:=λx K Kp=>c (λr1=>K (.map r1))
def cG:=IL 32 g11 (F.PJ env) func32 call32
def vC:=mk 11 g9 (F.K1 env) [oE,s31,cG] (T0.K1 env) func11 call11 ⟨[(6,[(35,ti)])],[(5,[(10,tp)])]⟩
def g12(c:Y11):Sem [tp,tb,tb]:=λx K Kp=>c x.1 x.2.1 x.2.2.1 (λw'=>K (.tuple ⟨[]⟩) w')
def IS:=IL 13 g12 (F.JD env) func13 call13
def g13(c:Y12):Sem [.agg [.sl,.sl,.sl],ti,ti,ti]:=λx K Kp=>c x.1.1 x.1.2.1 x.1.2.2.1 x.2.1 x.2.2.1 x.2.2.2.1 (λr1=>K (.pointer r1))
def s4:=mk 4 g13 (F.EO env) [Fj,vC,IS] (T0.EO env) func4 call4 ⟨[],[(3,[(24,tb)])]⟩
def dL(c:Tr):Sem [tp]:=λx K Kp=>c x.1 (λr1=>K (.bool r1))
noncomputable def C15:Entry:=JJ (dL (F.BE env))
def qC:C5 15 (dL (F.BE env)):=PV 15 dL (F.BE env) func15 call15
def Sr:Slot:=⟨15,_,λc=>JJ (dL c),F.BE env,qC.any⟩
def g15(c:Y14):Sem [tp,.agg [.int .i64,.int .i64,.int .u64,.int .u64,.int .i64,.int .u64,.bool,.int .i64,.sl,.sl]]:=λx K Kp=>c x.1 x.2.1.1 x.2.1.2.1 x.2.1.2.2.1 x.2.1.2.2.2.1 x.2.1.2.2.2.2.1 x.2.1.2.2.2.2.2.1 x.2.1.2.2.2.2.2.2.1 x.2.1.2.2.2.2.2.2.2.1 x.2.1.2.2.2.2.2.2.2.2.1 x.2.1.2.2.2.2.2.2.2.2.2.1 (λr1 a=>K (.tuple ⟨[.int .i64 r1,.int .i64 a]⟩))
def M6:=mk 14 g15 (F.Ev env) [Sr,oF,pV] (T0.Ev env) func14 call14 ⟨[],[(4,[(13,tb)])]⟩
def g16(c:Y15):Sem [tp,.agg [.int .i64,.int .i64,.int .u64,.int .u64,.int .i64,.int .u64,.bool,.int .i64,.sl,.sl],tu]:=λx K Kp=>c x.1 x.2.1.1 x.2.1.2.1 x.2.1.2.2.1 x.2.1.2.2.2.1 x.2.1.2.2.2.2.1 x.2.1.2.2.2.2.2.1 x.2.1.2.2.2.2.2.2.1 x.2.1.2.2.2.2.2.2.2.1 x.2.1.2.2.2.2.2.2.2.2.1 x.2.1.2.2.2.2.2.2.2.2.2.1 x.2.2.1 (λr1=>K (.bool r1))
def s5:=mk 5 g16 (F.Ct env) [M6,Sr] (T0.Ct env) func5 call5
def g17(c:Y16):Sem [tl,ta]:=λx K Kp=>c x.1 x.2.1 (λr1=>K (.int .i64 r1))
def s120:=IL 120 g17 (F.DQ env) func120 call120 ⟨[(2,[(8,ti)])],[]⟩
def g18(c:Y17):Sem [tl,ta]:=λx K Kp=>c x.1 x.2.1 (λr1=>K (.bool r1))
def s79:=mk 79 g18 (F.An env) [s120] (T0.An env) func79 call79
noncomputable def C35:Entry:=JJ (dL (F.Bg env))
def qD:C5 35 (dL (F.Bg env)):=P7 35 dL (F.Bg env) [s79] (T0.Bg env) func35 call35
def s35:Slot:=⟨35,_,λc=>JJ (dL c),F.Bg env,qD.any⟩
def s81:=IL 81 g17 (F.C4 env) func81 call81 ⟨[(2,[(8,ti)])],[]⟩
def Wo:=mk 36 g18 (F.Al env) [s81] (T0.Al env) func36 call36
def Zf:=mk 16 dL (F.Em env) [s35,Wo] (T0.Em env) func16 call16
def g19(c:Y18):Sem [tp,tp,ti]:=λx K Kp=>c x.1 x.2.1 x.2.2.1 (λr1=>K (.bool r1))
def s121:=IL 121 g19 (F.KK env) func121 call121 ⟨[(6,[(24,ti)])],[(9,[(55,tb)])]⟩
def s83:=IL 83 g6 (F.FG env) func83 call83
def g20(c:lL):Sem [tp]:=λx K Kp=>c x.1 (λr1 a=>K (.tuple ⟨[.int .i64 r1,.bool a]⟩))
def s122:=IL 122 g20 (F.GD env) func122 call122 ⟨[(3,[(4,tp)])],[(4,[(13,tb)]),(6,[(41,tb)])]⟩
def s84:=IL 84 g6 (F.FD env) func84 call84
def g21(c:OM):Sem [tp]:=λx K Kp=>c x.1 (λr1=>K (.int .u64 r1))
def s87:=IL 87 g21 (F.HP env) func87 call87
def s43:=mk 43 g21 (F.Ba env) [s87] (T0.Ba env) func43 call43
def s88:=IL 88 dL (F.Ef env) func88 call88
def g22(c:Y21):Sem [tp]:=λx K Kp=>c x.1 (λr1 a e=>K (.tuple ⟨[.int .u64 r1,.int .u64 a,.int .u64 e]⟩))
def vB:=mk 44 g22 (F.C2 env) [s88] (T0.C2 env) func44 call44
def s45:=mk 45 g21 (F.EP env) [s87] (T0.EP env) func45 call45
def wI:=mk 20 g22 (F.DR env) [s43,vB,s45] (T0.DR env) func20 call20 ⟨[(3,[(5,tu),(20,ti)]),(6,[(5,tu),(10,tu)])],[]⟩
noncomputable def C194:Entry:=λargs w K Kp=>unArgs [tu] args.toList λx=>F.Ew env x.1 (λr1=>K (.float .f64 r1)) w
def wM:EZ Tryz.prog 194 C194:=
 UH Tryz.func194 (by kernel_rfl) (by kernel_rfl) (by kernel_rfl) (e:=Extern.MathFloatBits.float64frombits) (by kernel_rfl) (Xd rfl)
def g23(c:SC):Sem [tu,tu]:=λx K Kp=>c x.1 x.2.1 (λr1=>K (.int .u64 r1))
def g24(c:Y22):Sem [tu]:=λx K Kp=>c x.1 (λr1=>K (.float .f64 r1))
def s194:Slot:=⟨194,_,λc=>JJ (g24 c),F.Ew env,wM⟩
def pU:=mk 150 g23 (F.Dw env) [s194] (T0.Dw env) func150 call150
def s123:=mk 123 g21 (F.DJ env) [wI,pU] (T0.DJ env) func123 call123
def g25(c:Sp):Sem [ti]:=λx K Kp=>c x.1 (λr1=>K (.int .i64 r1))
def s85:=IL 85 g25 (F.HX env) func85 call85 ⟨[],[(6,[(6,tb)])]⟩
def g26(c:Y25):Sem [tp,tp]:=λx K Kp=>c x.1 x.2.1 (λr1=>K (.bool r1))
def s82:=mk 82 g26 (F.ER env) [s121,s83,s122,s84,s123,s85] (T0.ER env) func82 call82
def wO(c:Tc):Sem [tp]:=λx K Kp=>c x.1 (λr1=>K (.slice r1.base r1.len r1.cap))
noncomputable def C38:Entry:=JJ (wO (F.Bh env))
def qE:C5 38 (wO (F.Bh env)):=P7 38 wO (F.Bh env) [Sr,s82] (T0.Bh env) func38 call38 ⟨[(3,[(3,tl),(11,ti)])],[(6,[(25,tb)])]⟩
def s38:Slot:=⟨38,_,λc=>JJ (wO c),F.Bh env,qE.any⟩
def g28(c:oD):Sem [tp,ti]:=λx K Kp=>c x.1 x.2.1 (λr1 a=>K (.tuple ⟨[.int .i64 r1,.bool a]⟩))
def Ul:=mk 17 g28 (F.Ey env) [s38] (T0.Ey env) func17 call17 ⟨[(3,[(7,ti)])],[]⟩
def g29(c:vW):Sem [tp,tp]:=λx K Kp=>c x.1 x.2.1 (λr1 j u v J O T Y e a=>K (.agg ⟨[.int .i64 r1,.int .i64 j,.int .u64 u,.int .u64 v,.int .i64 J,.int .u64 O,.bool T,.int .i64 Y,.slice e.base e.len e.cap,.slice a.base a.len a.cap]⟩))
def s86:=IL 86 g29 (F.En env) func86 call86
def P8(c:Vy):Sem [tp,tp]:=λx K Kp=>c x.1 x.2.1 (λw'=>K (.tuple ⟨[]⟩) w')
noncomputable def C42:Entry:=JJ (P8 (F.Bu env))
def qF:C5 42 (P8 (F.Bu env)):=P7 42 P8 (F.Bu env) [s83,s84,s86,s85] (T0.Bu env) func42 call42
def oG:Slot:=⟨42,_,λc=>JJ (P8 c),F.Bu env,qF.any⟩
noncomputable def C40:Entry:=λargs w K Kp=>unArgs [tp] args.toList λx=>F.JE env x.1 (λw'=>K (.tuple ⟨[]⟩) w') w
def fits40:Dn Tryz.prog 40 C40:=λ_ _ _ _ h=>let⟨_,_,h2⟩:=CE h;(show False from h2).elim
def g31(c:Y30):Sem [tp,tp,.agg [.int .u64,.int .u64,.int .i64]]:=λx K Kp=>c x.1 x.2.1 x.2.2.1.1 x.2.2.1.2.1 x.2.2.1.2.2.1 (λw'=>K (.tuple ⟨[]⟩) w')
noncomputable def C41:Entry:=JJ (g31 (F.Cp env))
def qG:C5 41 (g31 (F.Cp env)):=PV 41 g31 (F.Cp env) func41 call41
def s41:Slot:=⟨41,_,λc=>JJ (g31 c),F.Cp env,qG.any⟩
noncomputable def D39:MT:=λargs pv w K=>unArgs [tp,tp,tp] args.toList λx=>F.FR env x.1 x.2.1 x.2.2.1 (pv.getD .nilIface) (λw'=>K pv.isSome w') w
noncomputable def qH:Code:=(Tryz.f39.body).getD .skip
def qI:Ni:={loops:=[],L1:=[]}
noncomputable def dM:Code:=((recOf qH).map (·.2)).getD .skip
def tieZ39(a: ∀(a0:(Option Addr)) (K:World->Prop) (w:World),Prop)(e: ∀(a0:(Option Addr)) (a1:(Option Addr)) (j:Int) (u:Int) (J:Int) (K:World->Prop) (w:World),Prop)(x:Fq [tp,tp,tp])(v:Value)(K:World->Prop)(w:World):T0.FR env a e x.1 x.2.1 x.2.2.1 v K w=
 ev Tryz.prog (tabC [(40,λargs w K Kp=>unArgs [tp] args.toList λx=>a x.1 (λw'=>K (.tuple ⟨[]⟩) w') w),(41,λargs w K Kp=>unArgs [tp,tp,.agg [.int .u64,.int .u64,.int .i64]] args.toList λx=>e x.1 x.2.1 x.2.2.1.1 x.2.2.1.2.1 x.2.2.1.2.2.1 (λw'=>K (.tuple ⟨[]⟩) w') w)]) (ground Tryz.prog) qI dM (finQ Tryz.prog Tryz.f39 (λ_ w'=>K w') Fi) ((FA (mkArgs [tp,tp,tp] x)).put 6 v) w:=by kernel_rfl
def tie39(x:Fq [tp,tp,tp])(v:Value)(K:World->Prop)(w:World):F.FR env x.1 x.2.1 x.2.2.1 v K w=
 ev Tryz.prog (tabC [(40,C40),(41,C41)]) (ground Tryz.prog) qI dM (finQ Tryz.prog Tryz.f39 (λ_ w'=>K w') Fi) ((FA (mkArgs [tp,tp,tp] x)).put 6 v) w:=tieZ39 (F.JE env) (F.Cp env) x v K w
def wP:Hp Tryz.prog 39 D39:=
 Wf (T:=[(40,C40),(41,C41)]) (A:=qI) (fn:=Tryz.f39) (c:=qH) (y:=dM) (d:=6) (l:=[tp,tp,tp]) (F:=λ(x:Fq [tp,tp,tp]) v K w=>F.FR env x.1 x.2.1 x.2.2.1 v K w) (BU fits40 (BU qG Ho)) mixed Tryz.func39 Tryz.call39 (by kernel_rfl) (by kernel_rfl) (by kernel_rfl) (by kernel_rfl) (by kernel_rfl) tie39
noncomputable def C18:Entry:=λargs w K Kp=>unArgs [tp,ti] args.toList λx=>F.Fv env x.1 x.2.1 (λr1 a=>K (.tuple ⟨[.int .i64 r1,.int .i64 a]⟩)) w
noncomputable def dN:Code:=(Tryz.f18.body).getD .skip
def qJ:Ni:={loops:=[],L1:=[(5,[(16,tb)]),(12,[])]}
def tieZ18(e: ∀(a0:(Option Addr)) (K:AY->World->Prop) (w:World),Prop)(a: ∀(a0:(Option Addr)) (K:Bool->World->Prop) (w:World),Prop)(j: ∀(a0:(Option Addr)) (K:Bool->World->Prop) (w:World),Prop)(u: ∀(a0:(Option Addr)) (a1:(Option Addr)) (K:World->Prop) (w:World),Prop)(x:Fq [tp,ti])(K:Value->World->Prop)(w:World):T0.Fv env e a j u x.1 x.2.1 (λr1 v=>K (.tuple ⟨[.int .i64 r1,.int .i64 v]⟩)) w=
 evD Tryz.prog (tabC [(38,λargs w K Kp=>unArgs [tp] args.toList λx=>e x.1 (λr1=>K (.slice r1.base r1.len r1.cap)) w),(15,λargs w K Kp=>unArgs [tp] args.toList λx=>a x.1 (λr1=>K (.bool r1)) w),(35,λargs w K Kp=>unArgs [tp] args.toList λx=>j x.1 (λr1=>K (.bool r1)) w),(42,λargs w K Kp=>unArgs [tp,tp] args.toList λx=>u x.1 x.2.1 (λw'=>K (.tuple ⟨[]⟩) w') w)]) (ground Tryz.prog) qJ (finQ Tryz.prog Tryz.f18 K Fi) (finD Tryz.prog Tryz.f18 (tabD [(39,D39)]) K Fi) dN (FA (mkArgs [tp,ti] x)) w:=by kernel_rfl
def tie18(x:Fq [tp,ti])(K:Value->World->Prop)(w:World):F.Fv env x.1 x.2.1 (λr1 a=>K (.tuple ⟨[.int .i64 r1,.int .i64 a]⟩)) w=
 evD Tryz.prog (tabC [(38,C38),(15,C15),(35,C35),(42,C42)]) (ground Tryz.prog) qJ (finQ Tryz.prog Tryz.f18 K Fi) (finD Tryz.prog Tryz.f18 (tabD [(39,D39)]) K Fi) dN (FA (mkArgs [tp,ti] x)) w:=tieZ18 (F.Bh env) (F.BE env) (F.Bg env) (F.Bu env) x K w
def fits18:Dn Tryz.prog 18 C18:=
 NB (T:=[(38,C38),(15,C15),(35,C35),(42,C42)]) (TD:=[(39,D39)]) (A:=qJ) (fn:=Tryz.f18) (c:=dN) (BU qE (BU qC (BU qD (BU qF Ho)))) (Pw wP Rx) mixed Tryz.func18 Tryz.call18 (by kernel_rfl) (by kernel_rfl) (by kernel_rfl) tie18
def g32(c:Y33):Sem [tp,tl]:=λx K Kp=>c x.1 x.2.1 (λr1=>K (.bool r1))
def g33(c:Wn):Sem [tp,ti]:=λx K Kp=>c x.1 x.2.1 (λr1 a=>K (.tuple ⟨[.int .i64 r1,.int .i64 a]⟩))
def s18:Slot:=⟨18,_,λc=>JJ (g33 c),F.Fv env,fits18.any⟩
def s6:=mk 6 g32 (F.CN env) [Zf,Sr,Ul,s18] (T0.CN env) func6 call6 ⟨[(3,[(5,ti),(6,ti)])],[(6,[(23,tb)]),(12,[(7,ti)])]⟩
def g34(c:Sp):Sem [.one (.int .u32)]:=λx K Kp=>c x.1 (λr1=>K (.int .i64 r1))
def s133:=IL 133 g34 (F.Te env) func133 call133 ⟨[],[(4,[(0,.one (.int .u32)),(2,ti)]),(7,[(0,.one (.int .u32)),(2,ti)])]⟩
def g35(c:Sp):Sem [tu]:=λx K Kp=>c x.1 (λr1=>K (.int .i64 r1))
def s134:=IL 134 g35 (F.I6 env) func134 call134 ⟨[],[(4,[(0,tu),(2,ti)]),(7,[(0,tu),(2,ti)]),(10,[(0,tu),(2,ti)])]⟩
def s94:=mk 94 g35 (F.Eo env) [s134,s133] (λc0 _=>T0.Eo env c0) func94 call94
def lQ(c:Y34):Sem [tl,ti,ti,ta]:=λx K Kp=>c x.1 x.2.1 x.2.2.1 x.2.2.2.1 (λw'=>K (.tuple ⟨[]⟩) w')
noncomputable def C125:Entry:=JJ (lQ (F.BL env))
def wQ:C5 125 (lQ (F.BL env)):=PV 125 lQ (F.BL env) func125 call125 ⟨[(1,[(8,ti)]),(4,[(9,ti)])],[]⟩
def g37(c:Y35):Sem [tl,ti,ti,ti,ta]:=λx K Kp=>c x.1 x.2.1 x.2.2.1 x.2.2.2.1 x.2.2.2.2.1 (λw'=>K (.tuple ⟨[]⟩) w')
def s174:=IL 174 g37 (F.D9 env) func174 call174 ⟨[(1,[(10,ti)])],[(4,[(40,tb)]),(5,[(11,ti)])]⟩
noncomputable def C126:Entry:=JJ (lQ (F.Ao env))
def jC:C5 126 (lQ (F.Ao env)):=P7 126 lQ (F.Ao env) [s174] (T0.Ao env) func126 call126 ⟨[(4,[(11,ti)]),(8,[(12,ti)])],[]⟩
def s126:Slot:=⟨126,_,λc=>JJ (lQ c),F.Ao env,jC.any⟩
def g38(c:Sp):Sem [ti]:=λx K Kp=>c x.1 (λr1=>K (.int .u64 r1))
def s175:=mk 175 g38 (F.CF env) [s94] (T0.CF env) func175 call175
def s176:=IL 176 g21 (F.GN env) func176 call176
noncomputable def C127:Entry:=JJ (lQ (F.Ai env))
def wR:C5 127 (lQ (F.Ai env)):=P7 127 lQ (F.Ai env) [s175,s176] (T0.Ai env) func127 call127 ⟨[(5,[(11,ti)])],[(10,[(12,ti)])]⟩
def g39(c:Y36):Sem [tl,ti,ti,tp,ta]:=λx K Kp=>c x.1 x.2.1 x.2.2.1 x.2.2.2.1 x.2.2.2.2.1 (λr1 a=>K (.tuple ⟨[.int .i64 r1,.int .i64 a]⟩))
def s230:=IL 230 g39 (F.Ea env) func230 call230
def g40(c:Y37):Sem [tl,ti,ti,ti,tp,ta]:=λx K Kp=>c x.1 x.2.1 x.2.2.1 x.2.2.2.1 x.2.2.2.2.1 x.2.2.2.2.2.1 (λr1=>K (.int .i64 r1))
def wF:=mk 178 g40 (F.BA env) [s230] (T0.BA env) func178 call178
def g41(c:Y38):Sem [tl,ti,tp,ta]:=λx K Kp=>c x.1 x.2.1 x.2.2.1 x.2.2.2.1 (λr1=>K (.int .i64 r1))
def s177:=mk 177 g41 (F.A2 env) [wF] (T0.A2 env) func177 call177
def g42(c:Y39):Sem [tl,ti,ti,ta]:=λx K Kp=>c x.1 x.2.1 x.2.2.1 x.2.2.2.1 (λr1 a=>K (.tuple ⟨[.int .i64 r1,.int .i64 a]⟩))
noncomputable def C128:Entry:=JJ (g42 (F.Ah env))
def jD:C5 128 (g42 (F.Ah env)):=P7 128 g42 (F.Ah env) [s177,wF] (T0.Ah env) func128 call128 ⟨[],[(11,[(12,ti),(13,ti),(14,ti)]),(12,[(13,ti)])]⟩
def s128:Slot:=⟨128,_,λc=>JJ (g42 c),F.Ah env,jD.any⟩
noncomputable def C129:Entry:=JJ (lQ (F.BS env))
def wS:C5 129 (lQ (F.BS env)):=PV 129 lQ (F.BS env) func129 call129 ⟨[(2,[(8,ti),(9,ti)])],[]⟩
def g43(c:Y40):Sem [tl,ti,ti,ta]:=λx K Kp=>c x.1 x.2.1 x.2.2.1 x.2.2.2.1 (λr1=>K (.bool r1))
noncomputable def C130:Entry:=JJ (g43 (F.Aw env))
def wT:C5 130 (g43 (F.Aw env)):=PV 130 g43 (F.Aw env) func130 call130 ⟨[(3,[(9,ti),(10,ti)]),(5,[(9,ti)]),(14,[(11,ti)]),(20,[(12,ti)])],[(7,[(9,ti)]),(18,[])]⟩
def g44(c:Y41):Sem [tl,ti,ti,ti,ta]:=λx K Kp=>c x.1 x.2.1 x.2.2.1 x.2.2.2.1 x.2.2.2.2.1 (λr1=>K (.int .i64 r1))
noncomputable def C131:Entry:=JJ (g44 (F.BH env))
def wU:C5 131 (g44 (F.BH env)):=PV 131 g44 (F.BH env) func131 call131 ⟨[(3,[(11,ti),(12,ti)]),(5,[(12,ti)])],[(5,[(11,ti)]),(7,[(12,ti)])]⟩
def g45(c:Y42):Sem [tl,ti,ti,ti,ta]:=λx K Kp=>c x.1 x.2.1 x.2.2.1 x.2.2.2.1 x.2.2.2.2.1 (λr1 a=>K (.tuple ⟨[.int .i64 r1,.bool a]⟩))
noncomputable def C132:Entry:=JJ (g45 (F.Bi env))
def wV:C5 132 (g45 (F.Bi env)):=PV 132 g45 (F.Bi env) func132 call132 ⟨[(3,[(12,ti)]),(5,[(13,ti)]),(13,[(12,ti),(13,ti)]),(15,[(13,ti)])],[(5,[(12,ti)]),(7,[(13,ti)]),(15,[(12,ti)]),(17,[(13,ti)])]⟩
noncomputable def wW(n:Nat):Entry:=λargs w K Kp=>unArgs [tl,ti,ti,ti,ta] args.toList λx=>F.slices_pdqsortCmpFunc_int_ env n x.1 x.2.1 x.2.2.1 x.2.2.2.1 x.2.2.2.2.1 (λw'=>K (.tuple ⟨[]⟩) w') w
noncomputable def C93:Entry:=λargs w K Kp=> ∃n,wW n args w K Kp
noncomputable def qK:Code:=(Tryz.f93.body).getD .skip
def ann93:Ni:={loops:=[(2,[(1,ti),(2,ti),(3,ti),(10,tb),(11,tb)])],L1:=[(10,[(3,ti)]),(15,[(13,ti),(14,ti)]),(16,[(75,tb)]),(17,[]),(18,[(97,tb)])]}
def tie93(n:Nat)(x:Fq [tl,ti,ti,ti,ta])(K Kp:Value->World->Prop)(w:World):F.slices_pdqsortCmpFunc_int_ env (n+1) x.1 x.2.1 x.2.2.1 x.2.2.2.1 x.2.2.2.2.1 (λw'=>K (.tuple ⟨[]⟩) w') w=
 ev Tryz.prog (tabC [(125,C125),(126,C126),(127,C127),(128,C128),(129,C129),(130,C130),(131,C131),(132,C132),(93,wW n)]) (ground Tryz.prog) ann93 qK (finQ Tryz.prog Tryz.f93 K Kp) (FA (mkArgs [tl,ti,ti,ti,ta] x)) w:=by kernel_rfl
def wX(n:Nat):Dn Tryz.prog 93 (wW n):=by
 induction n with
 | zero=>intro args w K Kp h;obtain⟨x,_,h⟩:=CE h;exact h.elim
 | succ n ih=>exact Sl (T:=[(125,C125),(126,C126),(127,C127),(128,C128),(129,C129),(130,C130),(131,C131),(132,C132),(93,wW n)]) (A:=ann93) (fn:=Tryz.f93) (c:=qK) (BU wQ (BU jC (BU wR (BU jD (BU wS (BU wT (BU wU (BU wV (BU ih Ho))))))))) mixed Tryz.func93 Tryz.call93 (by kernel_rfl) (by kernel_rfl) (by kernel_rfl) (tie93 n)
def fits93:Dn Tryz.prog 93 C93:=lB wX
def g46(c:Y43):Sem [tl,ta]:=λx K Kp=>c x.1 x.2.1 (λw'=>K (.tuple ⟨[]⟩) w')
def s93:Slot:=⟨93,Unit,λ_=>C93,(),fits93.any⟩
def s49:=mk 49 g46 (F.BI env) [s94,s93] (λc0 _=>T0.BI env c0) func49 call49
def pW:=mk 24 wO (F.Cq env) [s49] (T0.Cq env) func24 call24 ⟨[(3,[(3,tl)])],[(4,[(11,tb)])]⟩
def g47(c:Y44):Sem [tp,ti]:=λx K Kp=>c x.1 x.2.1 (λr1 a=>K (.tuple ⟨[.pointer r1,.int .i64 a]⟩))
def Wp:=IL 46 g47 (F.Dp env) func46 call46
def g48(c:lM):Sem [tp]:=λx K Kp=>c x.1 (λr1 e j u v J O T Y a=>K (.agg ⟨[.int .u64 r1,.int .i64 e,.int .i64 j,.int .i64 u,.bool v,.int .i64 J,.int .i64 O,.int .i64 T,.bool Y,.bool a]⟩))
noncomputable def C26:Entry:=JJ (g48 (F.Av env))
def qL:C5 26 (g48 (F.Av env)):=PV 26 g48 (F.Av env) func26 call26
def Nl:Slot:=⟨26,_,λc=>JJ (g48 c),F.Av env,qL.any⟩
def g49(c:Y46):Sem [tp,ti]:=λx K Kp=>c x.1 x.2.1 (λr1 a=>K (.tuple ⟨[.pointer r1,.bool a]⟩))
def Yw:=mk 25 g49 (F.Bv env) [Wp,Nl] (T0.Bv env) func25 call25 ⟨[],[(3,[(24,tb)])]⟩
def g50(c:u6):Sem [tp]:=λx K Kp=>c x.1 (λr1 a=>K (.tuple ⟨[.int .u64 r1,.int .u64 a]⟩))
def JR:=mk 19 g50 (F.CY env) [pW,Yw,Nl] (T0.CY env) func19 call19 ⟨[(2,[(2,tu),(3,tu),(15,ti)])],[]⟩
def s21:=IL 21 g21 (F.Im env) func21 call21
def wH:=mk 22 g21 (F.CZ env) [pW,Wp,Nl] (T0.CZ env) func22 call22 ⟨[(3,[(3,tu),(15,ti)])],[]⟩
def g51(c:Y48):Sem [tp]:=λx K Kp=>c x.1 (λr1 j u v J O T Y r9 a e=>K (.agg ⟨[.int .u64 r1,.int .u64 j,.int .u64 u,.int .u64 v,.int .u64 J,.int .u64 O,.int .u64 T,.int .u64 Y,.int .u64 r9,.int .u64 a,.int .u64 e]⟩))
def s7:=mk 7 g51 (F.CU env) [JR,wI,s21,wH] (T0.CU env) func7 call7 ⟨[],[(4,[(8,tp)])]⟩
def s90:=IL 90 wO (F.Dq env) func90 call90
def g52(c:Y49):Sem [tp]:=λx K Kp=>c x.1 (λr1=>K (r1))
def s48:=mk 48 g52 (F.Dx env) [s90] (T0.Dx env) func48 call48
noncomputable def C89:Entry:=λargs w K Kp=>unArgs [tl,ta] args.toList λx=>F.Bd env x.1 x.2.1 (λr1=>K (.slice r1.base r1.len r1.cap)) w
noncomputable def qM:Code:=(Tryz.f89.body).getD .skip
def ann89:Ni:={loops:=[],L1:=[]}
def tie89(x:Fq [tl,ta])(K Kp:Value->World->Prop)(w:World):F.Bd env x.1 x.2.1 (λr1=>K (.slice r1.base r1.len r1.cap)) w=
 evM Tryz.prog (tabC []) (ground Tryz.prog) (Gh Tryz.prog) (V4 Tryz.prog) ann89 qM (finM Tryz.prog Tryz.f89 K Kp) (FA (mkArgs [tl,ta] x)) w:=by kernel_rfl
def fits89:Dn Tryz.prog 89 C89:=
 Qu (T:=[]) (A:=ann89) (fn:=Tryz.f89) (c:=qM) Ho mixed Tryz.func89 Tryz.call89 (by kernel_rfl) (by kernel_rfl) (by kernel_rfl) tie89
end
end Go.Sh

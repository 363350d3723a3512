/- Each shallow form is what the code of its function comes to, piece 1. No further condition. -/
import Derived.Test.YtcnbbdhhgcbjmaaGreatDoorF
import Derived.Test.YtcnbbdhhgcbjmaaGreatDoorProg
import Derived.KernelRfl
set_option linter.all false
set_option maxRecDepth 100000
set_option maxHeartbeats 4000000
namespace Go.Sh
open Go.Proofs Go.Proofs.Tryz
noncomputable section
def mixed:Tryz.prog.follows .mixedOrders=true:=by kernel_rfl
noncomputable def env:Env:={call:=ground Tryz.prog,AD:=44,AY:=4,IH:=25,Cc:=171,Fa:=282,Qr:=235,Sk:=241,Lr:=248,GW:=237,Al:=161,Fb:=181,Dj:=184,Dt:=133,Bb:=131,Ay:=107,KQ:=186,Cy:=96,Ab:=103,A5:=87,BU:=89,Aw:=73,FU:=111,GX:=38,Ep:=3,Ah:=218,At:=194,AN:=151,AZ:=125,Dk:=127,As:=311,Jh:=280,A0:=244,Bl:=137,Js:=212,Oj:=213,Im:=215,Dy:=210,HF:=141,Ol:=271,BV:=267,Qt:=155,AE:=296,CM:=50,Bi:=37,CF:=46,Io:=41,JP:=199,Cw:=201,Fc:=223,DN:=66,Gr:=273,GM:=246,Ui:=297,IL:=38,JE:=163,Ji:=222,Gs:=170,Fu:=98,FE:=99,GF:=100,Fv:=101,AG:=0,Mx:=0,IV:=0}
def uZ:Tj:={loops:=[],UK:=[]}
abbrev Sem(l:List VT):=KJ l->(Value->World->Prop)->(Value->World->Prop)->World->Prop
def Sn{l:List VT}(F:Sem l):Entry:=λargs w K Kp=>unArgs l args.toList λx=>F x K Kp w
noncomputable def pJ(T:List (Nat×Entry))(A:Tj)(fn:Func){l:List VT}:Sem l:=λx K Kp w=>ev Tryz.prog (tabC T) (ground Tryz.prog) A (fn.body.getD .skip) (finQ Tryz.prog fn K Kp) (JC (mkArgs l x)) w
abbrev Ir(f:FuncId){l:List VT}(F:Sem l):Prop:=MK Tryz.prog f (Sn F)
def u0{T:List (Nat×Entry)}{A:Tj}{f:FuncId}{fn:Func}{l:List VT}{F:Sem l}
 (J: ∀p∈T,GB Tryz.prog p.1 p.2)(hf:Tryz.prog.funcs[f]? =some fn)(j: ∀args w,(callFunc f args).run Tryz.prog w= .ok (.enter f args) w)
 (v:F=pJ T A fn)(O:fn.body=some (fn.body.getD .skip):=by kernel_rfl)(y:Nat.ble l.length fn.ntmps=true:=by kernel_rfl)(K:withinB fn.ntmps (written (fn.body.getD .skip))=true:=by kernel_rfl):Ir f F:=
 ZV J mixed hf j O y K λ_ _ _ _=>congrFun (congrFun (congrFun (congrFun v _) _) _) _
structure Slot where
 f:Nat
 Y:Type
 G:Y->Entry
 v:Y
 ok:GB Tryz.prog f (G v)
def Cs:List Slot->Type->Type
 | [],R=>R
 | s::l,R=>s.Y->Cs l R
def apC{R:Type}:(l:List Slot)->Cs l R->R
 | [],t=>t
 | s::l,t=>apC l (t s.v)
def mpC{R Q:Type}(g:R->Q):(l:List Slot)->Cs l R->Cs l Q
 | [],t=>g t
 | _::l,t=>λc=>mpC g l (t c)
def tbC{sh:List VT}(A:Tj)(fn:Func):(l:List Slot)->List (Nat×Entry)->Cs l (Sem sh)
 | [],T=>pJ T A fn
 | s::l,T=>λc=>tbC A fn l ((s.f,s.G c)::T)
def xX{sh:List VT}{Y:Type}{G:Y->Sem sh}{A:Tj}{fn:Func}: ∀(l:List Slot) (T:List (Nat×Entry)) (t:Cs l Y),mpC G l t=tbC A fn l T->(∀p∈T,GB Tryz.prog p.1 p.2)-> ∃j,(∀p∈j,GB Tryz.prog p.1 p.2)/\G (apC l t)=pJ j A fn
 | [],T,_,h,hT=>⟨T,hT,h⟩
 | s::l,_,t,h,hT=>xX l _ (t s.v) (congrFun h s.v) (UN s.ok hT)
def Xy(f:Nat){sh:List VT}{Y:Type}(G:Y->Sem sh)(v:Y)(l:List Slot)(t:Cs l Y){fn:Func}(hf:Tryz.prog.funcs[f]? =some fn)(j: ∀args w,(callFunc f args).run Tryz.prog w= .ok (.enter f args) w)(A:Tj:=uZ)
 (O:apC l t=v:=by kernel_rfl)(h:mpC G l t=tbC A fn l []:=by kernel_rfl)(K:fn.body=some (fn.body.getD .skip):=by kernel_rfl)(y:Nat.ble sh.length fn.ntmps=true:=by kernel_rfl)(J:withinB fn.ntmps (written (fn.body.getD .skip))=true:=by kernel_rfl):Ir f (G v):=by
 obtain⟨T,h1,h2⟩:=xX l [] t h OV;rw[O]at h2;exact u0 h1 hf j h2 K y J
def zY(f:Nat){sh:List VT}{Y:Type}(G:Y->Sem sh)(v:Y){fn:Func}(hf:Tryz.prog.funcs[f]? =some fn)(j: ∀args w,(callFunc f args).run Tryz.prog w= .ok (.enter f args) w)(A:Tj:=uZ)
 (h:G v=pJ [] A fn:=by kernel_rfl)(K:fn.body=some (fn.body.getD .skip):=by kernel_rfl)(y:Nat.ble sh.length fn.ntmps=true:=by kernel_rfl)(J:withinB fn.ntmps (written (fn.body.getD .skip))=true:=by kernel_rfl):Ir f (G v):=Xy f G v [] v hf j A rfl h K y J
def mk(f:Nat){sh:List VT}{Y:Type}(G:Y->Sem sh)(v:Y)(l:List Slot)(t:Cs l Y){fn:Func}(hf:Tryz.prog.funcs[f]? =some fn)(j: ∀args w,(callFunc f args).run Tryz.prog w= .ok (.enter f args) w)(A:Tj:=uZ)
 (O:apC l t=v:=by kernel_rfl)(h:mpC G l t=tbC A fn l []:=by kernel_rfl)(K:fn.body=some (fn.body.getD .skip):=by kernel_rfl)(y:Nat.ble sh.length fn.ntmps=true:=by kernel_rfl)(J:withinB fn.ntmps (written (fn.body.getD .skip))=true:=by kernel_rfl):Slot:=⟨f,Y,λc=>Sn (G c),v,(Xy f G v l t hf j A O h K y J).any⟩
def HT(f:Nat){sh:List VT}{Y:Type}(G:Y->Sem sh)(v:Y){fn:Func}(hf:Tryz.prog.funcs[f]? =some fn)(j: ∀args w,(callFunc f args).run Tryz.prog w= .ok (.enter f args) w)(A:Tj:=uZ)
 (h:G v=pJ [] A fn:=by kernel_rfl)(K:fn.body=some (fn.body.getD .skip):=by kernel_rfl)(y:Nat.ble sh.length fn.ntmps=true:=by kernel_rfl)(J:withinB fn.ntmps (written (fn.body.getD .skip))=true:=by kernel_rfl):Slot:=mk f G v [] v hf j A rfl h K y J
def g0(c:Y0):Sem [.one (.sl)]:=λx K Kp w=>c x.1 (λj w'=>K (.slice j.base j.len j.cap) w') w
def s85:=HT 85 g0 (F.ED env) func85 call85
def zN:=HT 86 g0 (F.FF env) func86 call86
def g1(c:Y1):Sem [.agg [.sl,.sl,.sl]]:=λx K Kp w=>c x.1.1 x.1.2.1 x.1.2.2.1 (λj w'=>K (.pointer j) w') w
def KD:=mk 29 g1 (F.KR env) [s85,zN] (T0.KR env) func29 call29
def g2(c:Y2):Sem [.one (.ptr)]:=λx K Kp w=>c x.1 (λw'=>K (.tuple ⟨[]⟩) w') w
def lI:=HT 144 g2 (F.Dl env) func144 call144 ⟨[(2,[(5,.one (.int .i64))])],[]⟩
def g3(c:Y3):Sem []:=λx K Kp w=>c (λj w'=>K (.pointer j) w') w
def s87:=mk 87 g3 (F.II env) [lI] (T0.II env) func87 call87
def s88:=HT 88 g3 (F.My env) func88 call88
def g4(c:Y4):Sem [.one (.int .i64)]:=λx K Kp w=>c x.1 (λj r2 w'=>K (.tuple ⟨[.pointer j,.int .i64 r2]⟩) w') w
def s89:=HT 89 g4 (F.Tp env) func89 call89 ⟨[],[(2,[(9,.one (.bool))])]⟩
def s90:=HT 90 g3 (F.NX env) func90 call90
def g5(c:Y5):Sem [.one (.ptr)]:=λx K Kp w=>c x.1 (λj w'=>K (.pointer j) w') w
def uW:=mk 30 g5 (F.I6 env) [s87,s88,s89,s90] (T0.I6 env) func30 call30 ⟨[(4,[(18,.one (.int .i64))])],[]⟩
def s31:=HT 31 g3 (F.Qu env) func31 call31
def Zj:=HT 32 g3 (F.MS env) func32 call32
def g6(c:Y6):Sem [.one (.ptr),.one (.ptr),.one (.ptr)]:=λx K Kp w=>c x.1 x.2.1 x.2.2.1 (λj w'=>K (.pointer j) w') w
def QC:=HT 33 g6 (F.PN env) func33 call33
def Wo:=HT 34 g5 (F.MT env) func34 call34
def s4:=mk 4 g1 (F.Cz env) [KD,uW,s31,Zj,QC,Wo] (T0.Cz env) func4 call4 ⟨[],[(2,[(3,.one (.ptr))]),(6,[(37,.one (.bool))])]⟩
def s7:=HT 7 g1 (F.KT env) func7 call7
def s35:=HT 35 g4 (F.JY env) func35 call35 ⟨[],[(2,[(9,.one (.bool))])]⟩
def s6:=mk 6 g5 (F.E6 env) [s35] (T0.E6 env) func6 call6
def s5:=HT 5 g5 (F.JZ env) func5 call5
def g7(c:Y7):Sem [.one (.ptr),.one (.int .i64)]:=λx K Kp w=>c x.1 x.2.1 (λj w'=>K (.pointer j) w') w
def s8:=HT 8 g7 (F.Mz env) func8 call8
def g8(c:Y8):Sem [.one (.int .i64)]:=λx K Kp w=>c x.1 (λj w'=>K (.bool j) w') w
def Qv:=HT 36 g8 (F.LI env) func36 call36
def Tq:=HT 16 g5 (F.A6 env) func16 call16
def dH:=HT 25 g5 (F.EW env) func25 call25
def g9(c:Y9):Sem [.one (.bool)]:=λx K Kp w=>c x.1 (λj w'=>K (.int .i64 j) w') w
def s80:=HT 80 g9 (F.L0 env) func80 call80
def zZ(c:Xu):Sem [.one (.ptr),.one (.int .i64),.one (.bool)]:=λx K Kp w=>c x.1 x.2.1 x.2.2.1 (λj w'=>K (.int .i64 j) w') w
def lK:=mk 23 zZ (F.Cx env) [Qv,s80] (T0.Cx env) func23 call23
def g11(c:Y11):Sem [.one (.ptr),.one (.int .i64)]:=λx K Kp w=>c x.1 x.2.1 (λj r2 w'=>K (.tuple ⟨[.pointer j,.int .i64 r2]⟩) w') w
def s91:=HT 91 g11 (F.F3 env) func91 call91
def g12(c:Xv):Sem [.one (.int .u64)]:=λx K Kp w=>c x.1 (λj w'=>K (.int .i64 j) w') w
def z3:=HT 127 g12 (F.Bm env) func127 call127
def g13(c:Y13):Sem [.one (.sl),.one (.int .i64)]:=λx K Kp w=>c x.1 x.2.1 (λj w'=>K (.int .i64 j) w') w
def zH:=mk 145 g13 (F.Fe env) [z3] (T0.Fe env) func145 call145 ⟨[(2,[(5,.one (.int .i64))])],[(7,[(6,.one (.int .u64))])]⟩
def g14(c:Zi):Sem [.one (.ptr),.one (.int .i64)]:=λx K Kp w=>c x.1 x.2.1 (λw'=>K (.tuple ⟨[]⟩) w') w
def s146:=HT 146 g14 (F.KU env) func146 call146 ⟨[(0,[])],[]⟩
def g15(c:yV):Sem [.one (.ptr)]:=λx K Kp w=>c x.1 (λj r2 w'=>K (.tuple ⟨[.int .i64 j,.int .i64 r2]⟩) w') w
def s92:=mk 92 g15 (F.Er env) [zH,s146] (T0.Er env) func92 call92
def z4(c:Uh):Sem [.one (.ptr),.one (.int .i64)]:=λx K Kp w=>c x.1 x.2.1 (λj w'=>K (.bool j) w') w
def lF:=HT 147 z4 (F.E7 env) func147 call147
def g17(c:eF):Sem [.one (.ptr),.one (.int .i64)]:=λx K Kp w=>c x.1 x.2.1 (λj r2 w'=>K (.tuple ⟨[.int .u64 j,.int .i64 r2]⟩) w') w
def s93:=mk 93 g17 (F.EL env) [lF] (T0.EL env) func93 call93
def g18(c:yW):Sem [.one (.ptr),.one (.int .i64),.one (.bool)]:=λx K Kp w=>c x.1 x.2.1 x.2.2.1 (λj r2 w'=>K (.tuple ⟨[.int .u64 j,.bool r2]⟩) w') w
def pC:=mk 37 g18 (F.Dz env) [Tq,dH,lK,s91,s92,s93] (T0.Dz env) func37 call37
def g19(c:tI):Sem [.one (.ptr),.one (.int .i64),.one (.bool)]:=λx K Kp w=>c x.1 x.2.1 x.2.2.1 (λj r2 w'=>K (.tuple ⟨[.int .u64 j,.int .i64 r2]⟩) w') w
def s9:=mk 9 g19 (F.CN env) [Qv,pC] (T0.CN env) func9 call9
def SB:=HT 51 g9 (F.Fw env) func51 call51
def OH:=mk 24 zZ (F.Br env) [SB] (T0.Br env) func24 call24 ⟨[],[(2,[(12,.one (.bool))])]⟩
def iY(c:Jg):Sem [.one (.ptr),.one (.int .i64)]:=λx K Kp w=>c x.1 x.2.1 (λj w'=>K (.int .i64 j) w') w
def uL:=HT 133 iY (F.FK env) func133 call133 ⟨[(2,[(5,.one (.int .i64))])],[]⟩
def s71:=mk 71 g7 (F.Aq env) [uL] (T0.Aq env) func71 call71
def g21(c:uC):Sem [.one (.sl),.one (.int .i64)]:=λx K Kp w=>c x.1 x.2.1 (λj w'=>K (.bool j) w') w
def lE:=HT 109 g21 (F.GY env) func109 call109
def g22(c:Y22):Sem [.one (.sl),.one (.int .i64),.one (.bool)]:=λx K Kp w=>c x.1 x.2.1 x.2.2.1 (λj w'=>K (.slice j.base j.len j.cap) w') w
def s135:=HT 135 g22 (F.Hu env) func135 call135 ⟨[(1,[(0,.one (.sl))])],[]⟩
def s102:=mk 102 g15 (F.Cj env) [lE,s135] (T0.Cj env) func102 call102 ⟨[(4,[(4,.one (.int .i64))])],[]⟩
def Rp:=HT 57 g17 (F.Ck env) func57 call57 ⟨[],[(2,[(15,.one (.bool))])]⟩
def s45:=mk 45 g18 (F.Cl env) [OH,s71,s102,Rp] (T0.Cl env) func45 call45
def pK(c:LY):Sem [.one (.ptr)]:=λx K Kp w=>c x.1 (λj w'=>K (.int .i64 j) w') w
def iV:=HT 77 pK (F.BW env) func77 call77 ⟨[(3,[(3,.one (.int .i64)),(4,.one (.int .i64))])],[]⟩
def g24(c:Y24):Sem [.one (.ptr),.agg [.int .i64,.int .u64,.int .i64,.bool,.bool,.bool]]:=λx K Kp w=>c x.1 x.2.1.1 x.2.1.2.1 x.2.1.2.2.1 x.2.1.2.2.2.1 x.2.1.2.2.2.2.1 x.2.1.2.2.2.2.2.1 (λj w'=>K (.int .i64 j) w') w
def Xw:=HT 140 g24 (F.Gt env) func140 call140 ⟨[(4,[(5,.one (.int .i64))])],[(2,[(18,.one (.bool))]),(7,[(51,.one (.bool))])]⟩
def xV:=mk 79 zZ (F.BJ env) [s71,iV,Xw] (T0.BJ env) func79 call79
def zE:=mk 103 iY (F.Bt env) [xV] (T0.Bt env) func103 call103
def g25(c:uD):Sem [.one (.ptr),.one (.int .i64),.one (.bool)]:=λx K Kp w=>c x.1 x.2.1 x.2.2.1 (λw'=>K (.tuple ⟨[]⟩) w') w
def V2:=mk 46 g25 (F.Bs env) [SB,zE] (T0.Bs env) func46 call46
def g26(c:Y8):Sem [.one (.int .u64)]:=λx K Kp w=>c x.1 (λj w'=>K (.bool j) w') w
def zU:=HT 154 g26 (F.KV env) func154 call154 ⟨[(1,[(0,.one (.int .u64))])],[]⟩
def g27(c:Xv):Sem [.one (.int .u32)]:=λx K Kp w=>c x.1 (λj w'=>K (.int .u32 j) w') w
def zJ:=HT 155 g27 (F.I7 env) func155 call155
def g28(c:uE):Sem [.one (.int .i64),.one (.int .i64)]:=λx K Kp w=>c x.1 x.2.1 (λj r2 w'=>K (.tuple ⟨[.slice j.base j.len j.cap,.int .i64 r2]⟩) w') w
def z5:=mk 104 g28 (F.Du env) [zU,zJ] (T0.Du env) func104 call104 ⟨[(6,[(6,.one (.sl)),(7,.one (.int .i64)),(8,.one (.int .i64))]),(16,[(9,.one (.int .i64))]),(23,[(11,.one (.int .i64))])],[(2,[(41,.one (.bool))]),(15,[(7,.one (.int .i64))]),(20,[(99,.one (.bool))]),(29,[])]⟩
def g29(c:Xv):Sem [.one (.int .i64)]:=λx K Kp w=>c x.1 (λj w'=>K (.int .u64 j) w') w
def iW:=mk 48 g29 (F.EE env) [z5] (T0.EE env) func48 call48
def g30(c:Zi):Sem [.one (.ptr),.one (.int .u64)]:=λx K Kp w=>c x.1 x.2.1 (λw'=>K (.tuple ⟨[]⟩) w') w
def s47:=HT 47 g30 (F.Es env) func47 call47
noncomputable def C183:Entry:=λargs w K Kp=>unArgs [.one (.int .u64)] args.toList λx=>F.Ea env x.1 (λj w'=>K (.float .f64 j) w') w
def u5:GB Tryz.prog 183 C183:=
 ZU Tryz.func183 (by kernel_rfl) (by kernel_rfl) (by kernel_rfl) (e:=Extern.MathFloatBits.float64frombits) (by kernel_rfl) (Xd rfl)
def g31(c:yX):Sem [.one (.int .u64)]:=λx K Kp w=>c x.1 (λj w'=>K (.float .f64 j) w') w
def s183:Slot:=⟨183,_,λc=>Sn (g31 c),F.Ea env,u5⟩
def s188:=mk 188 g31 (F.Et env) [s183] (T0.Et env) func188 call188
def g32(c:dE):Sem [.one (.int .u64),.one (.int .u64)]:=λx K Kp w=>c x.1 x.2.1 (λj w'=>K (.int .u64 j) w') w
def s156:=mk 156 g32 (F.Eb env) [s188] (T0.Eb env) func156 call156
def g33(c:LY):Sem [.one (.ptr)]:=λx K Kp w=>c x.1 (λj w'=>K (.int .u64 j) w') w
def s105:=mk 105 g33 (F.Bu env) [s156] (T0.Bu env) func105 call105
def g34(c:V1):Sem [.one (.ptr)]:=λx K Kp w=>c x.1 (λj r2 w'=>K (.tuple ⟨[.int .i64 j,.bool r2]⟩) w') w
def s62:=HT 62 g34 (F.GG env) func62 call62 ⟨[(3,[(4,.one (.int .i64)),(5,.one (.int .i64))])],[(6,[(46,.one (.bool))])]⟩
def s120:=HT 120 g14 (F.Ff env) func120 call120
def xN:=mk 63 iY (F.CC env) [s120] (T0.CC env) func63 call63 ⟨[(2,[(5,.one (.int .i64))])],[]⟩
def Wp:=mk 18 g34 (F.A2 env) [s62,xN] (T0.A2 env) func18 call18
def s72:=mk 72 z4 (F.BK env) [lE] (T0.BK env) func72 call72
def oR:=mk 56 z4 (F.A7 env) [lE] (T0.A7 env) func56 call56
def g35(c:Yw):Sem [.one (.ptr),.one (.int .u64),.one (.int .i64)]:=λx K Kp w=>c x.1 x.2.1 x.2.2.1 (λj r2 w'=>K (.tuple ⟨[.int .i64 j,.bool r2]⟩) w') w
def s134:=HT 134 g35 (F.FG env) func134 call134 ⟨[(2,[(8,.one (.int .i64))])],[(3,[]),(4,[(8,.one (.int .i64))])]⟩
def g36(c:Oi):Sem [.one (.ptr),.one (.int .u64),.one (.int .i64)]:=λx K Kp w=>c x.1 x.2.1 x.2.2.1 (λj r2 w'=>K (.tuple ⟨[.int .u64 j,.int .i64 r2]⟩) w') w
def s73:=mk 73 g36 (F.Az env) [s134] (T0.Az env) func73 call73
def s74:=mk 74 iY (F.BC env) [s135] (T0.BC env) func74 call74 ⟨[],[(4,[(19,.one (.bool))])]⟩
def g37(c:nT):Sem [.one (.ptr),.one (.int .u64)]:=λx K Kp w=>c x.1 x.2.1 (λj w'=>K (.slice j.base j.len j.cap) w') w
def s136:=HT 136 g37 (F.Fx env) func136 call136 ⟨[(3,[(5,.one (.sl)),(6,.one (.int .i64))])],[]⟩
def xW:=mk 75 g37 (F.BM env) [s136,s73] (T0.BM env) func75 call75 ⟨[(3,[(6,.one (.int .i64))])],[]⟩
def g38(c:yY):Sem [.one (.ptr)]:=λx K Kp w=>c x.1 (λj r2 w'=>K (.tuple ⟨[.slice j.base j.len j.cap,.int .i64 r2]⟩) w') w
def s76:=mk 76 g38 (F.CO env) [lE] (T0.CO env) func76 call76 ⟨[(4,[(4,.one (.int .i64))]),(10,[(5,.one (.sl)),(6,.one (.int .i64))])],[(7,[(36,.one (.bool))]),(13,[(61,.one (.bool))])]⟩
def s137:=mk 137 pK (F.C6 env) [iV] (T0.C6 env) func137 call137 ⟨[],[(2,[(12,.one (.bool))])]⟩
def g39(c:TU):Sem [.one (.ptr),.one (.int .u64)]:=λx K Kp w=>c x.1 x.2.1 (λj r2 w'=>K (.tuple ⟨[.int .i64 j,.bool r2]⟩) w') w
def u6:=HT 203 g39 (F.Dm env) func203 call203 ⟨[(2,[(6,.one (.int .i64))])],[(4,[(6,.one (.int .i64))])]⟩
def g40(c:nU):Sem [.one (.ptr),.one (.int .u64),.one (.int .u64)]:=λx K Kp w=>c x.1 x.2.1 x.2.2.1 (λj w'=>K (.bool j) w') w
def s174:=mk 174 g40 (F.CP env) [u6] (T0.CP env) func174 call174 ⟨[(5,[(7,.one (.int .i64)),(9,.one (.int .u64))])],[(2,[(21,.one (.bool))]),(8,[(58,.one (.bool))])]⟩
def g41(c:Y36):Sem [.one (.ptr),.one (.int .u64)]:=λx K Kp w=>c x.1 x.2.1 (λj r2 v w'=>K (.tuple ⟨[.bool j,.bool r2,.bool v]⟩) w') w
def s204:=mk 204 g41 (F.Bj env) [u6] (T0.Bj env) func204 call204
def g42(c:Oi):Sem [.one (.ptr),.one (.int .u64),.one (.int .u64)]:=λx K Kp w=>c x.1 x.2.1 x.2.2.1 (λj r2 w'=>K (.tuple ⟨[.int .u64 j,.int .u64 r2]⟩) w') w
def s175:=mk 175 g42 (F.B6 env) [s204] (T0.B6 env) func175 call175 ⟨[(3,[(8,.one (.int .u64)),(9,.one (.int .u64)),(10,.one (.int .u64))])],[(8,[(8,.one (.int .u64))])]⟩
def g43(c:Y37):Sem [.one (.ptr),.one (.int .u64),.one (.int .u64),.one (.bool),.one (.bool)]:=λx K Kp w=>c x.1 x.2.1 x.2.2.1 x.2.2.2.1 x.2.2.2.2.1 (λw'=>K (.tuple ⟨[]⟩) w') w
def s176:=mk 176 g43 (F.Cp env) [u6] (T0.Cp env) func176 call176 ⟨[(1,[(10,.one (.int .u64))])],[]⟩
def g44(c:uF):Sem [.one (.ptr),.one (.int .u64),.one (.int .u64),.one (.bool)]:=λx K Kp w=>c x.1 x.2.1 x.2.2.1 x.2.2.2.1 (λj w'=>K (.int .i64 j) w') w
def uQ:=mk 138 g44 (F.Ba env) [s174,s175,s176] (T0.Ba env) func138 call138
def s177:=HT 177 z4 (F.Ip env) func177 call177
def s139:=mk 139 iY (F.C7 env) [s177] (T0.C7 env) func139 call139
def s78:=mk 78 iY (F.B7 env) [uL,s137,uQ,s139] (T0.B7 env) func78 call78
def g45(c:lC):Sem [.one (.ptr),.one (.int .i64),.one (.bool)]:=λx K Kp w=>c x.1 x.2.1 x.2.2.1 (λj r2 v w'=>K (.tuple ⟨[.int .i64 j,.bool r2,.int .i64 v]⟩) w') w
def Uj:=mk 20 g45 (F.Av env) [s71,s72,oR,Rp,s73,s74,xW,s76,iV,s78,xV] (T0.Av env) func20 call20 ⟨[(7,[(10,.one (.int .i64))]),(12,[(11,.one (.int .i64))])],[(10,[(47,.one (.bool))]),(25,[(148,.one (.bool))])]⟩
def zD:=mk 49 pK (F.Bn env) [s105,Wp,Uj] (T0.Bn env) func49 call49 ⟨[(1,[])],[]⟩
def g46(c:xS):Sem [.one (.ptr),.one (.int .i64),.one (.bool),.one (.bool),.one (.bool)]:=λx K Kp w=>c x.1 x.2.1 x.2.2.1 x.2.2.2.1 x.2.2.2.2.1 (λj r2 w'=>K (.tuple ⟨[.int .i64 j,.bool r2]⟩) w') w
def zO:=mk 106 g46 (F.Bk env) [s120] (T0.Bk env) func106 call106 ⟨[(3,[(12,.one (.int .i64)),(13,.one (.int .i64))])],[(7,[(70,.one (.bool))])]⟩
def g47(c:nV):Sem [.one (.int .u64),.one (.int .u64)]:=λx K Kp w=>c x.1 x.2.1 (λj w'=>K (.bool j) w') w
def s189:=HT 189 g47 (F.IW env) func189 call189
def g48(c:yZ):Sem [.one (.int .u64),.one (.int .u64),.one (.int .i64),.one (.bool)]:=λx K Kp w=>c x.1 x.2.1 x.2.2.1 x.2.2.2.1 (λj r2 w'=>K (.tuple ⟨[.pointer j,.int .i64 r2]⟩) w') w
def zK:=mk 157 g48 (F.E8 env) [s189,z5] (T0.E8 env) func157 call157 ⟨[],[(2,[(24,.one (.bool))]),(10,[])]⟩
def g49(c:dF):Sem [.one (.ptr)]:=λx K Kp w=>c x.1 (λj w'=>K (.bool j) w') w
def s190:=HT 190 g49 (F.Ec env) func190 call190 ⟨[(2,[(3,.one (.int .i64))])],[]⟩
def g50(c:TU):Sem [.one (.ptr),.one (.int .u64)]:=λx K Kp w=>c x.1 x.2.1 (λj r2 w'=>K (.tuple ⟨[.int .u64 j,.bool r2]⟩) w') w
def s215:=HT 215 g50 (F.Fg env) func215 call215 ⟨[(3,[(6,.one (.int .u64)),(7,.one (.int .u64)),(8,.one (.int .i64))]),(9,[(6,.one (.int .u64)),(9,.one (.int .u64))])],[(6,[(37,.one (.bool))]),(7,[(6,.one (.int .u64))]),(14,[(6,.one (.int .u64))])]⟩
def g51(c:V1):Sem [.one (.ptr)]:=λx K Kp w=>c x.1 (λj r2 w'=>K (.tuple ⟨[.int .u64 j,.bool r2]⟩) w') w
def s213:=mk 213 g51 (F.B8 env) [s215] (T0.B8 env) func213 call213
end
end Go.Sh

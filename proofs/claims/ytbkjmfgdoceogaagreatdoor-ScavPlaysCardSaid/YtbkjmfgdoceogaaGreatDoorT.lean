/- Each shallow form is what the code of its function comes to, piece 1. No further condition. -/
import Derived.Test.YtbkjmfgdoceogaaGreatDoorF
import Derived.Test.YtbkjmfgdoceogaaGreatDoorProg
import Derived.KernelRfl
set_option linter.all false
set_option maxRecDepth 100000
set_option maxHeartbeats 4000000
namespace Go.Sh
open Go.Proofs
theorem mixed:Tryz.prog.follows .mixedOrders=true:=by kernel_rfl
noncomputable def env:Env:={call:=ground Tryz.prog,AH:=26,Ai:=4,E5:=25,Bd:=113,De:=213,La:=161,Mp:=152,HR:=166,EE:=174,Aa:=95,Ac:=75,GF:=125,Bq:=71,AV:=49,ES:=77,Al:=130,Gt:=133,AD:=184,Jn:=158,CE:=30,C1:=38,ET:=168,D0:=163,EF:=98,A3:=154,Lb:=89,PZ:=3,Da:=105,AX:=115,Fv:=205,Ah:=177,AS:=52,D9:=203,Cm:=223,EU:=29,OI:=200,Fw:=145,EV:=78,AQ:=1,MT:=0}
def CX:Ed:={loops:=[],Aw:=[]}
abbrev Sem(l:List VT):=Hy l->(Value->World->Prop)->(Value->World->Prop)->World->Prop
def A2{l:List VT}(F:Sem l):Entry:=fun args w K Kp=>unArgs l args.toList fun x=>F x K Kp w
noncomputable def Ad(T:List (Nat×Entry))(A:Ed)(fn:Func){l:List VT}:Sem l:=fun x K Kp w=>ev Tryz.prog (tabC T) (ground Tryz.prog) A (fn.body.getD .skip) (finQ Tryz.prog fn K Kp) (HY (mkArgs l x)) w
abbrev AP(f:FuncId){l:List VT}(F:Sem l):Prop:=It Tryz.prog f (A2 F)
theorem AJ{T:List (Nat×Entry)}{A:Ed}{f:FuncId}{fn:Func}{l:List VT}{F:Sem l}
 (K: ∀p∈T,FC Tryz.prog p.1 p.2)(hf:Tryz.prog.funcs[f]? =some fn)(d: ∀args w,(callFunc f args).run Tryz.prog w= .ok (.enter f args) w)
 (j:F=Ad T A fn)(J:fn.body=some (fn.body.getD .skip):=by kernel_rfl)(v:Nat.ble l.length fn.ntmps=true:=by kernel_rfl)(C:withinB fn.ntmps (written (fn.body.getD .skip))=true:=by kernel_rfl):AP f F:=
 Re K mixed hf d J v C fun _ _ _ _=>congrFun (congrFun (congrFun (congrFun j _) _) _) _
def nR(c:Y0):Sem [.one (.sl)]:=fun x K Kp w=>c x.1 (fun d w'=>K (.slice d.base d.len d.cap) w') w
theorem tH:nR (F.Bt env)=Ad [] CX Tryz.f51:=by kernel_rfl
theorem cE:AP 51 (nR (F.Bt env)):=AJ AF Tryz.func51 Tryz.call51 (tH)
def nS(c:Y0):Sem [.one (.sl)]:=fun x K Kp w=>c x.1 (fun d w'=>K (.slice d.base d.len d.cap) w') w
theorem tI:nS (F.Ck env)=Ad [] CX Tryz.f52:=by kernel_rfl
theorem cG:AP 52 (nS (F.Ck env)):=AJ AF Tryz.func52 Tryz.call52 (tI)
def nT(c:Y1):Sem [.agg [.sl,.sl,.sl]]:=fun x K Kp w=>c x.1.1 x.1.2.1 x.1.2.2.1 (fun d w'=>K (.pointer d) w') w
theorem tJ(c0:Y0)(c1:Y0):nT (T0.GG env c0 c1)=Ad [(51,A2 (nR c0)),(52,A2 (nS c1))] CX Tryz.f24:=by kernel_rfl
theorem cH:AP 24 (nT (F.GG env)):=AJ (AB cE (AB cG AF)) Tryz.func24 Tryz.call24 (tJ _ _)
def iW(c:Y2):Sem [.one (.ptr)]:=fun x K Kp w=>c x.1 (fun w'=>K (.tuple ⟨[]⟩) w') w
def jN:Ed:={loops:=[(2,[(5,.one (.int .i64))])],Aw:=[]}
theorem tK:iW (F.B2 env)=Ad [] jN Tryz.f95:=by kernel_rfl
theorem Qc:AP 95 (iW (F.B2 env)):=AJ AF Tryz.func95 Tryz.call95 (tK)
def nU(c:Y3):Sem []:=fun x K Kp w=>c (fun d w'=>K (.pointer d) w') w
theorem tL(c0:Y2):nU (T0.E6 env c0)=Ad [(95,A2 (iW c0))] CX Tryz.f53:=by kernel_rfl
theorem cI:AP 53 (nU (F.E6 env)):=AJ (AB Qc AF) Tryz.func53 Tryz.call53 (tL _)
def nV(c:Y3):Sem []:=fun x K Kp w=>c (fun d w'=>K (.pointer d) w') w
theorem tM:nV (F.HT env)=Ad [] CX Tryz.f54:=by kernel_rfl
theorem cJ:AP 54 (nV (F.HT env)):=AJ AF Tryz.func54 Tryz.call54 (tM)
def nW(c:Y4):Sem [.one (.int .i64)]:=fun x K Kp w=>c x.1 (fun j d w'=>K (.tuple ⟨[.pointer j,.int .i64 d]⟩) w') w
def jO:Ed:={loops:=[],Aw:=[(2,[(9,.one (.bool))])]}
theorem tN:nW (F.Lc env)=Ad [] jO Tryz.f55:=by kernel_rfl
theorem cK:AP 55 (nW (F.Lc env)):=AJ AF Tryz.func55 Tryz.call55 (tN)
def nX(c:Y3):Sem []:=fun x K Kp w=>c (fun d w'=>K (.pointer d) w') w
theorem tO:nX (F.Hh env)=Ad [] CX Tryz.f56:=by kernel_rfl
theorem cL:AP 56 (nX (F.Hh env)):=AJ AF Tryz.func56 Tryz.call56 (tO)
def nY(c:Y5):Sem [.one (.ptr)]:=fun x K Kp w=>c x.1 (fun d w'=>K (.pointer d) w') w
def jP:Ed:={loops:=[(4,[(18,.one (.int .i64))])],Aw:=[]}
theorem tP(c0:Y3)(c1:Y3)(c2:Y4)(c3:Y3):nY (T0.FU env c0 c1 c2 c3)=Ad [(53,A2 (nU c0)),(54,A2 (nV c1)),(55,A2 (nW c2)),(56,A2 (nX c3))] jP Tryz.f25:=by kernel_rfl
theorem cM:AP 25 (nY (F.FU env)):=AJ (AB cI (AB cJ (AB cK (AB cL AF)))) Tryz.func25 Tryz.call25 (tP _ _ _ _)
def G4(c:Y1):Sem [.agg [.sl,.sl,.sl]]:=fun x K Kp w=>c x.1.1 x.1.2.1 x.1.2.2.1 (fun d w'=>K (.pointer d) w') w
def nZ:Ed:={loops:=[],Aw:=[(2,[(3,.one (.ptr))])]}
theorem Z4(c0:Y1)(c1:Y5):G4 (T0.Br env c0 c1)=Ad [(24,A2 (nT c0)),(25,A2 (nY c1))] nZ Tryz.f4:=by kernel_rfl
theorem bB:AP 4 (G4 (F.Br env)):=AJ (AB cH (AB cM AF)) Tryz.func4 Tryz.call4 (Z4 _ _)
def G6(c:Y1):Sem [.agg [.sl,.sl,.sl]]:=fun x K Kp w=>c x.1.1 x.1.2.1 x.1.2.2.1 (fun d w'=>K (.pointer d) w') w
theorem Z6:G6 (F.FG env)=Ad [] CX Tryz.f6:=by kernel_rfl
theorem jQ:AP 6 (G6 (F.FG env)):=AJ AF Tryz.func6 Tryz.call6 (Z6)
def n8(c:Y4):Sem [.one (.int .i64)]:=fun x K Kp w=>c x.1 (fun j d w'=>K (.tuple ⟨[.pointer j,.int .i64 d]⟩) w') w
def jR:Ed:={loops:=[],Aw:=[(2,[(9,.one (.bool))])]}
theorem tQ:n8 (F.Eu env)=Ad [] jR Tryz.f26:=by kernel_rfl
theorem cO:AP 26 (n8 (F.Eu env)):=AJ AF Tryz.func26 Tryz.call26 (tQ)
def G5(c:Y5):Sem [.one (.ptr)]:=fun x K Kp w=>c x.1 (fun d w'=>K (.pointer d) w') w
theorem Z5(c0:Y4):G5 (T0.DM env c0)=Ad [(26,A2 (n8 c0))] CX Tryz.f5:=by kernel_rfl
theorem jS:AP 5 (G5 (F.DM env)):=AJ (AB cO AF) Tryz.func5 Tryz.call5 (Z5 _)
def G7(c:ZG):Sem [.one (.ptr),.one (.int .u64)]:=fun x K Kp w=>c x.1 x.2.1 (fun d w'=>K (.pointer d) w') w
theorem Z7:G7 (F.Ic env)=Ad [] CX Tryz.f7:=by kernel_rfl
theorem bC:AP 7 (G7 (F.Ic env)):=AJ AF Tryz.func7 Tryz.call7 (Z7)
def ZI(c:Y6):Sem [.one (.int .u64)]:=fun x K Kp w=>c x.1 (fun d w'=>K (.bool d) w') w
theorem n9:ZI (F.KP env)=Ad [] CX Tryz.f135:=by kernel_rfl
theorem Uu:AP 135 (ZI (F.KP env)):=AJ AF Tryz.func135 Tryz.call135 (n9)
def cQ(c:Y7):Sem [.one (.int .i64),.one (.int .i64)]:=fun x K Kp w=>c x.1 x.2.1 (fun d w'=>K (.int .i64 d) w') w
theorem oA(c0:Y6):cQ (T0.FH env c0)=Ad [(135,A2 (ZI c0))] CX Tryz.f136:=by kernel_rfl
theorem ZJ:AP 136 (cQ (F.FH env)):=AJ (AB Uu AF) Tryz.func136 Tryz.call136 (oA _)
def cR(c:Y7):Sem [.one (.int .i64),.one (.int .i64)]:=fun x K Kp w=>c x.1 x.2.1 (fun d w'=>K (.int .i64 d) w') w
def cS:Ed:={loops:=[(2,[(5,.one (.int .i64))])],Aw:=[]}
theorem oB:cR (F.Gu env)=Ad [] cS Tryz.f137:=by kernel_rfl
theorem ZK:AP 137 (cR (F.Gu env)):=AJ AF Tryz.func137 Tryz.call137 (oB)
def cT(c:Y8):Sem [.one (.int .u32)]:=fun x K Kp w=>c x.1 (fun d w'=>K (.int .u32 d) w') w
theorem oC:cT (F.Ie env)=Ad [] CX Tryz.f138:=by kernel_rfl
theorem ZL:AP 138 (cT (F.Ie env)):=AJ AF Tryz.func138 Tryz.call138 (oC)
def oD(c:Y9):Sem [.one (.int .i64),.one (.int .i64)]:=fun x K Kp w=>c x.1 x.2.1 (fun d j w'=>K (.tuple ⟨[.slice d.base d.len d.cap,.int .i64 j]⟩) w') w
def jT:Ed:={loops:=[(6,[(6,.one (.sl)),(7,.one (.int .i64)),(8,.one (.int .i64))]),(15,[(107,.one (.int .i64))])],Aw:=[(2,[(42,.one (.bool))]),(12,[(91,.one (.bool))]),(22,[])]}
theorem tR(c0:Y6)(c1:Y7)(c2:Y7)(c3:Y8):oD (T0.Fx env c0 c1 c2 c3)=Ad [(135,A2 (ZI c0)),(136,A2 (cQ c1)),(137,A2 (cR c2)),(138,A2 (cT c3))] jT Tryz.f96:=by kernel_rfl
theorem cU:AP 96 (oD (F.Fx env)):=AJ (AB Uu (AB ZJ (AB ZK (AB ZL AF)))) Tryz.func96 Tryz.call96 (tR _ _ _ _)
def oE(c:mQ):Sem []:=fun x K Kp w=>c (fun d w'=>K (.slice d.base d.len d.cap) w') w
theorem tS(c0:Y9):oE (T0.En env c0)=Ad [(96,A2 (oD c0))] CX Tryz.f57:=by kernel_rfl
theorem cV:AP 57 (oE (F.En env)):=AJ (AB cU AF) Tryz.func57 Tryz.call57 (tS _)
def oF(c:a9):Sem [.one (.int .u64),.one (.int .u64),.one (.int .i64),.one (.bool)]:=fun x K Kp w=>c x.1 x.2.1 x.2.2.1 x.2.2.2.1 (fun j d w'=>K (.tuple ⟨[.pointer j,.int .i64 d]⟩) w') w
def jU:Ed:={loops:=[],Aw:=[(3,[(56,.one (.bool))])]}
theorem tT(c0:mQ):oF (T0.Gv env c0)=Ad [(57,A2 (oE c0))] jU Tryz.f27:=by kernel_rfl
theorem cW:AP 27 (oF (F.Gv env)):=AJ (AB cV AF) Tryz.func27 Tryz.call27 (tT _)
def oG(c:Y6):Sem [.one (.int .i64)]:=fun x K Kp w=>c x.1 (fun d w'=>K (.bool d) w') w
theorem tU:oG (F.Jo env)=Ad [] CX Tryz.f97:=by kernel_rfl
theorem cX:AP 97 (oG (F.Jo env)):=AJ AF Tryz.func97 Tryz.call97 (tU)
def jV(c:Rt):Sem [.one (.ptr)]:=fun x K Kp w=>c x.1 (fun d w'=>K (.bool d) w') w
theorem tV:jV (F.Cx env)=Ad [] CX Tryz.f91:=by kernel_rfl
theorem Tb:AP 91 (jV (F.Cx env)):=AJ AF Tryz.func91 Tryz.call91 (tV)
def XU(c:cD):Sem [.one (.ptr)]:=fun x K Kp w=>c x.1 (fun d w'=>K (.slice d.base d.len d.cap) w') w
theorem oH:XU (F.DN env)=Ad [] CX Tryz.f129:=by kernel_rfl
theorem Qd:AP 129 (XU (F.DN env)):=AJ AF Tryz.func129 Tryz.call129 (oH)
def ZM(c:KO):Sem [.one (.ptr),.one (.int .u64)]:=fun x K Kp w=>c x.1 x.2.1 (fun j d w'=>K (.tuple ⟨[.int .u64 j,.bool d]⟩) w') w
def cY:Ed:={loops:=[(4,[(15,.one (.int .i64))])],Aw:=[]}
theorem oI(c0:cD):ZM (T0.B8 env c0)=Ad [(129,A2 (XU c0))] cY Tryz.f103:=by kernel_rfl
theorem Uv:AP 103 (ZM (F.B8 env)):=AJ (AB Qd AF) Tryz.func103 Tryz.call103 (oI _)
def cZ(c:nQ):Sem [.one (.int .i64),.one (.any)]:=fun x K Kp w=>c x.1 x.2.1 (fun d w'=>K (.int .i64 d) w') w
def dA:Ed:={loops:=[(2,[(5,.one (.int .i64)),(6,.one (.int .i64))])],Aw:=[]}
theorem oJ:cZ (F.Gw env)=Ad [] dA Tryz.f144:=by kernel_rfl
theorem ZN:AP 144 (cZ (F.Gw env)):=AJ AF Tryz.func144 Tryz.call144 (oJ)
def Vp(c:El):Sem [.one (.ptr),.one (.int .u64)]:=fun x K Kp w=>c x.1 x.2.1 (fun d w'=>K (.int .i64 d) w') w
theorem oK(c0:nQ):Vp (T0.CV env c0)=Ad [(144,A2 (cZ c0))] CX Tryz.f126:=by kernel_rfl
theorem Nc:AP 126 (Vp (F.CV env)):=AJ (AB ZN AF) Tryz.func126 Tryz.call126 (oK _)
def Yv(c:GD):Sem [.one (.ptr),.one (.int .u64),.one (.int .u64)]:=fun x K Kp w=>c x.1 x.2.1 x.2.2.1 (fun d w'=>K (.int .u64 d) w') w
def jW:Ed:={loops:=[(3,[(7,.one (.int .u64)),(8,.one (.int .i64))])],Aw:=[]}
theorem tW(c0:El):Yv (T0.An env c0)=Ad [(126,A2 (Vp c0))] jW Tryz.f76:=by kernel_rfl
theorem Jv:AP 76 (Yv (F.An env)):=AJ (AB Nc AF) Tryz.func76 Tryz.call76 (tW _)
def ZO(c:iP):Sem [.one (.ptr),.one (.int .u64),.one (.int .u64),.one (.bool),.one (.int .i64)]:=fun x K Kp w=>c x.1 x.2.1 x.2.2.1 x.2.2.2.1 x.2.2.2.2.1 (fun d w'=>K (.int .i64 d) w') w
def dB:Ed:={loops:=[],Aw:=[(4,[(11,.one (.int .u64))]),(5,[(14,.one (.bool))])]}
theorem oL(c0:GD):ZO (T0.CM env c0)=Ad [(76,A2 (Yv c0))] dB Tryz.f128:=by kernel_rfl
theorem Uw:AP 128 (ZO (F.CM env)):=AJ (AB Jv AF) Tryz.func128 Tryz.call128 (oL _)
def Tc(c:IH):Sem [.one (.ptr),.one (.int .u64),.one (.int .u64)]:=fun x K Kp w=>c x.1 x.2.1 x.2.2.1 (fun w'=>K (.tuple ⟨[]⟩) w') w
def dC:Ed:={loops:=[(5,[(7,.one (.int .i64)),(8,.one (.sl))])],Aw:=[(10,[(8,.one (.sl))]),(12,[(7,.one (.int .i64)),(8,.one (.sl))])]}
theorem oM(c0:GD)(c1:El):Tc (T0.BJ env c0 c1)=Ad [(76,A2 (Yv c0)),(126,A2 (Vp c1))] dC Tryz.f111:=by kernel_rfl
theorem Lg:AP 111 (Tc (F.BJ env)):=AJ (AB Jv (AB Nc AF)) Tryz.func111 Tryz.call111 (oM _ _)
def ZP(c:JL):Sem [.one (.ptr),.one (.int .u64),.one (.int .u64)]:=fun x K Kp w=>c x.1 x.2.1 x.2.2.1 (fun j d w'=>K (.tuple ⟨[.int .u64 j,.int .i64 d]⟩) w') w
theorem oN(c0:iP)(c1:GD)(c2:IH)(c3:Y2):ZP (T0.B9 env c0 c1 c2 c3)=Ad [(128,A2 (ZO c0)),(76,A2 (Yv c1)),(111,A2 (Tc c2)),(95,A2 (iW c3))] CX Tryz.f104:=by kernel_rfl
theorem Ux:AP 104 (ZP (F.B9 env)):=AJ (AB Uw (AB Jv (AB Lg (AB Qc AF)))) Tryz.func104 Tryz.call104 (oN _ _ _ _)
def oO(c:TF):Sem [.one (.ptr),.one (.ptr)]:=fun x K Kp w=>c x.1 x.2.1 (fun d w'=>K (.int .i64 d) w') w
def jX:Ed:={loops:=[(8,[(28,.one (.int .u64))])],Aw:=[]}
theorem tX(c0:KO)(c1:Rt)(c2:JL):oO (T0.Cn env c0 c1 c2)=Ad [(103,A2 (ZM c0)),(91,A2 (jV c1)),(104,A2 (ZP c2))] jX Tryz.f98:=by kernel_rfl
theorem dD:AP 98 (oO (F.Cn env)):=AJ (AB Uv (AB Tb (AB Ux AF))) Tryz.func98 Tryz.call98 (tX _ _ _)
def dE(c:Y8):Sem [.one (.int .u64)]:=fun x K Kp w=>c x.1 (fun d w'=>K (.int .i64 d) w') w
theorem oP:dE (F.Cl env)=Ad [] CX Tryz.f149:=by kernel_rfl
theorem ZQ:AP 149 (dE (F.Cl env)):=AJ AF Tryz.func149 Tryz.call149 (oP)
def dF(c:mR):Sem [.one (.int .u64),.one (.int .i64)]:=fun x K Kp w=>c x.1 x.2.1 (fun j d w'=>K (.tuple ⟨[.int .i64 j,.bool d]⟩) w') w
def dG:Ed:={loops:=[(2,[(0,.one (.int .u64)),(1,.one (.int .i64)),(6,.one (.int .i64))])],Aw:=[]}
theorem oQ(c0:Y8):dF (T0.Eo env c0)=Ad [(149,A2 (dE c0))] dG Tryz.f139:=by kernel_rfl
theorem ZR:AP 139 (dF (F.Eo env)):=AJ (AB ZQ AF) Tryz.func139 Tryz.call139 (oQ _)
def dH(c:Y8):Sem [.one (.int .u64)]:=fun x K Kp w=>c x.1 (fun d w'=>K (.int .i64 d) w') w
theorem oR:dH (F.DV env)=Ad [] CX Tryz.f140:=by kernel_rfl
theorem ZS:AP 140 (dH (F.DV env)):=AJ AF Tryz.func140 Tryz.call140 (oR)
def oS(c:TG):Sem [.one (.ptr),.one (.int .i64)]:=fun x K Kp w=>c x.1 x.2.1 (fun v j d w'=>K (.tuple ⟨[.int .u64 v,.int .i64 j,.int .i64 d]⟩) w') w
def jY:Ed:={loops:=[],Aw:=[(2,[(16,.one (.bool))])]}
theorem tY(c0:mR)(c1:Y8):oS (T0.B3 env c0 c1)=Ad [(139,A2 (dF c0)),(140,A2 (dH c1))] jY Tryz.f99:=by kernel_rfl
theorem dI:AP 99 (oS (F.B3 env)):=AJ (AB ZR (AB ZS AF)) Tryz.func99 Tryz.call99 (tY _ _)
def mT(c:TG):Sem [.one (.ptr),.one (.int .u64)]:=fun x K Kp w=>c x.1 x.2.1 (fun v j d w'=>K (.tuple ⟨[.int .u64 v,.int .u64 j,.int .i64 d]⟩) w') w
noncomputable def sM:Entry:=A2 (mT (F.A1 env))
theorem tZ(c0:KO)(c1:JL):mT (T0.A1 env c0 c1)=Ad [(103,A2 (ZM c0)),(104,A2 (ZP c1))] CX Tryz.f60:=by kernel_rfl
theorem XV:AP 60 (mT (F.A1 env)):=AJ (AB Uv (AB Ux AF)) Tryz.func60 Tryz.call60 (tZ _ _)
def oT(c:Ru):Sem [.one (.ptr),.one (.int .i64),.one (.int .u64)]:=fun x K Kp w=>c x.1 x.2.1 x.2.2.1 (fun j d w'=>K (.tuple ⟨[.int .u64 j,.bool d]⟩) w') w
noncomputable def sO:Entry:=A2 (oT (F.Cr env))
def jZ:Ed:={loops:=[],Aw:=[(2,[(20,.one (.bool))]),(5,[]),(8,[])]}
theorem uA(c0:Y6)(c1:Rt)(c2:TF)(c3:TG)(d:TG):oT (T0.Cr env c0 c1 c2 c3 d)=Ad [(97,A2 (oG c0)),(91,A2 (jV c1)),(98,A2 (oO c2)),(99,A2 (oS c3)),(60,A2 (mT d))] jZ Tryz.f58:=by kernel_rfl
theorem dJ:AP 58 (oT (F.Cr env)):=AJ (AB cX (AB Tb (AB dD (AB dI (AB XV AF))))) Tryz.func58 Tryz.call58 (uA _ _ _ _ _)
def ZT(c:jL):Sem [.one (.ptr)]:=fun x K Kp w=>c x.1 (fun j d w'=>K (.tuple ⟨[.bool j,.bool d]⟩) w') w
theorem oU:ZT (F.EO env)=Ad [] CX Tryz.f108:=by kernel_rfl
theorem Uy:AP 108 (ZT (F.EO env)):=AJ AF Tryz.func108 Tryz.call108 (oU)
def ZU(c:ZF):Sem [.one (.ptr)]:=fun x K Kp w=>c x.1 (fun j d w'=>K (.tuple ⟨[.int .u64 j,.bool d]⟩) w') w
theorem oV:ZU (F.Co env)=Ad [] CX Tryz.f110:=by kernel_rfl
theorem Uz:AP 110 (ZU (F.Co env)):=AJ AF Tryz.func110 Tryz.call110 (oV)
def ZV(c:Wq):Sem [.one (.ptr),.one (.int .u64),.one (.int .u64)]:=fun x K Kp w=>c x.1 x.2.1 x.2.2.1 (fun d w'=>K (.bool d) w') w
theorem oW(c0:GD):ZV (T0.DC env c0)=Ad [(76,A2 (Yv c0))] CX Tryz.f141:=by kernel_rfl
theorem U0:AP 141 (ZV (F.DC env)):=AJ (AB Jv AF) Tryz.func141 Tryz.call141 (oW _)
def dK(c:Ru):Sem [.one (.ptr),.one (.int .u64),.one (.int .u64)]:=fun x K Kp w=>c x.1 x.2.1 x.2.2.1 (fun j d w'=>K (.tuple ⟨[.int .u64 j,.bool d]⟩) w') w
def dL:Ed:={loops:=[(5,[(8,.one (.int .u64)),(24,.one (.int .i64))])],Aw:=[(9,[]),(11,[(8,.one (.int .u64))])]}
theorem oX(c0:cD)(c1:Wq):dK (T0.Cs env c0 c1)=Ad [(129,A2 (XU c0)),(141,A2 (ZV c1))] dL Tryz.f142:=by kernel_rfl
theorem ZW:AP 142 (dK (F.Cs env)):=AJ (AB Qd (AB U0 AF)) Tryz.func142 Tryz.call142 (oX _ _)
def Qe(c:IH):Sem [.one (.ptr),.one (.int .u64),.one (.int .u64)]:=fun x K Kp w=>c x.1 x.2.1 x.2.2.1 (fun w'=>K (.tuple ⟨[]⟩) w') w
def dM:Ed:={loops:=[],Aw:=[(7,[(51,.one (.bool))]),(9,[(8,.one (.int .i64))]),(10,[(77,.one (.bool))]),(12,[(6,.one (.int .i64))])]}
theorem oY(c0:IH)(c1:El):Qe (T0.Aq env c0 c1)=Ad [(111,A2 (Tc c0)),(126,A2 (Vp c1))] dM Tryz.f112:=by kernel_rfl
theorem I1:AP 112 (Qe (F.Aq env)):=AJ (AB Lg (AB Nc AF)) Tryz.func112 Tryz.call112 (oY _ _)
def dN(c:JL):Sem [.one (.ptr),.one (.int .u64),.one (.int .u64)]:=fun x K Kp w=>c x.1 x.2.1 x.2.2.1 (fun j d w'=>K (.tuple ⟨[.int .u64 j,.int .i64 d]⟩) w') w
def dO:Ed:={loops:=[(9,[(10,.one (.int .u64)),(11,.one (.bool)),(52,.one (.int .i64))])],Aw:=[(2,[(24,.one (.bool))]),(8,[(11,.one (.bool))])]}
theorem oZ(c0:jL)(c1:ZF)(c2:Wq)(c3:Ru)(d:IH):dN (T0.C2 env c0 c1 c2 c3 d)=Ad [(108,A2 (ZT c0)),(110,A2 (ZU c1)),(141,A2 (ZV c2)),(142,A2 (dK c3)),(112,A2 (Qe d))] dO Tryz.f100:=by kernel_rfl
theorem ZX:AP 100 (dN (F.C2 env)):=AJ (AB Uy (AB Uz (AB U0 (AB ZW (AB I1 AF))))) Tryz.func100 Tryz.call100 (oZ _ _ _ _ _)
def dP(c:GD):Sem [.one (.ptr),.one (.int .u64),.one (.int .u64)]:=fun x K Kp w=>c x.1 x.2.1 x.2.2.1 (fun d w'=>K (.int .i64 d) w') w
def dQ:Ed:={loops:=[],Aw:=[(2,[(24,.one (.bool))])]}
theorem o5(c0:GD)(c1:IH)(c2:Y2):dP (T0.CY env c0 c1 c2)=Ad [(76,A2 (Yv c0)),(112,A2 (Qe c1)),(95,A2 (iW c2))] dQ Tryz.f101:=by kernel_rfl
theorem ZY:AP 101 (dP (F.CY env)):=AJ (AB Jv (AB I1 (AB Qc AF))) Tryz.func101 Tryz.call101 (o5 _ _ _)
def dR(c:IH):Sem [.one (.ptr),.one (.int .u64),.one (.int .u64)]:=fun x K Kp w=>c x.1 x.2.1 x.2.2.1 (fun w'=>K (.tuple ⟨[]⟩) w') w
theorem o6(c0:IH):dR (T0.Df env c0)=Ad [(112,A2 (Qe c0))] CX Tryz.f102:=by kernel_rfl
theorem ZZ:AP 102 (dR (F.Df env)):=AJ (AB I1 AF) Tryz.func102 Tryz.call102 (o6 _)
def o7(c:El):Sem [.one (.ptr),.one (.int .u64)]:=fun x K Kp w=>c x.1 x.2.1 (fun d w'=>K (.int .i64 d) w') w
noncomputable def sQ:Entry:=A2 (o7 (F.CZ env))
theorem uB(c0:JL)(c1:GD)(c2:IH):o7 (T0.CZ env c0 c1 c2)=Ad [(100,A2 (dN c0)),(101,A2 (dP c1)),(102,A2 (dR c2))] CX Tryz.f59:=by kernel_rfl
theorem dS:AP 59 (o7 (F.CZ env)):=AJ (AB ZX (AB ZY (AB ZZ AF))) Tryz.func59 Tryz.call59 (uB _ _ _)
def Za(c:PX):Sem [.one (.int .u64),.one (.int .u64)]:=fun x K Kp w=>c x.1 x.2.1 (fun d w'=>K (.bool d) w') w
theorem o8:Za (F.Ga env)=Ad [] CX Tryz.f107:=by kernel_rfl
theorem U1:AP 107 (Za (F.Ga env)):=AJ AF Tryz.func107 Tryz.call107 (o8)
def Zb(c:Yt):Sem [.one (.ptr),.one (.int .u64),.one (.int .u64)]:=fun x K Kp w=>c x.1 x.2.1 x.2.2.1 (fun d w'=>K (.slice d.base d.len d.cap) w') w
def dT:Ed:={loops:=[(3,[(7,.one (.sl)),(8,.one (.int .i64))])],Aw:=[]}
theorem o9(c0:El):Zb (T0.BK env c0)=Ad [(126,A2 (Vp c0))] dT Tryz.f109:=by kernel_rfl
theorem U2:AP 109 (Zb (F.BK env)):=AJ (AB Nc AF) Tryz.func109 Tryz.call109 (o9 _)
def pA(c:GD):Sem [.one (.ptr),.one (.int .u64),.one (.int .u64)]:=fun x K Kp w=>c x.1 x.2.1 x.2.2.1 (fun d w'=>K (.int .i64 d) w') w
noncomputable def sR:Entry:=A2 (pA (F.CA env))
def j0:Ed:={loops:=[(12,[(56,.one (.int .i64))]),(15,[(12,.one (.int .u64))])],Aw:=[(22,[])]}
theorem uC(c0:PX)(c1:GD)(c2:jL)(c3:Yt)(j:ZF)(d:IH)(v:IH):pA (T0.CA env c0 c1 c2 c3 j d v)=Ad [(107,A2 (Za c0)),(76,A2 (Yv c1)),(108,A2 (ZT c2)),(109,A2 (Zb c3)),(110,A2 (ZU j)),(111,A2 (Tc d)),(112,A2 (Qe v))] j0 Tryz.f63:=by kernel_rfl
theorem dU:AP 63 (pA (F.CA env)):=AJ (AB U1 (AB Jv (AB Uy (AB U2 (AB Uz (AB Lg (AB I1 AF))))))) Tryz.func63 Tryz.call63 (uC _ _ _ _ _ _ _)
def dV(c:Yt):Sem [.one (.ptr),.one (.int .u64),.one (.int .u64)]:=fun x K Kp w=>c x.1 x.2.1 x.2.2.1 (fun d w'=>K (.slice d.base d.len d.cap) w') w
theorem pB(c0:Yt):dV (T0.EG env c0)=Ad [(109,A2 (Zb c0))] CX Tryz.f105:=by kernel_rfl
theorem Zc:AP 105 (dV (F.EG env)):=AJ (AB U2 AF) Tryz.func105 Tryz.call105 (pB _)
def mU(c:iQ):Sem [.one (.ptr),.one (.int .u64),.one (.int .u64),.one (.ptr)]:=fun x K Kp w=>c x.1 x.2.1 x.2.2.1 x.2.2.2.1 (fun d w'=>K (.int .i64 d) w') w
theorem uD(c0:iP)(c1:IH)(c2:Y2):mU (T0.Ce env c0 c1 c2)=Ad [(128,A2 (ZO c0)),(112,A2 (Qe c1)),(95,A2 (iW c2))] CX Tryz.f80:=by kernel_rfl
theorem XW:AP 80 (mU (F.Ce env)):=AJ (AB Uw (AB I1 (AB Qc AF))) Tryz.func80 Tryz.call80 (uD _ _ _)
def dW(c:GD):Sem [.one (.ptr),.one (.int .u64),.one (.int .u64)]:=fun x K Kp w=>c x.1 x.2.1 x.2.2.1 (fun d w'=>K (.int .i64 d) w') w
theorem pC(c0:iQ):dW (T0.Ca env c0)=Ad [(80,A2 (mU c0))] CX Tryz.f106:=by kernel_rfl
theorem Zd:AP 106 (dW (F.Ca env)):=AJ (AB XW AF) Tryz.func106 Tryz.call106 (pC _)
def mV(c:GD):Sem [.one (.ptr),.one (.int .u64),.one (.int .u64)]:=fun x K Kp w=>c x.1 x.2.1 x.2.2.1 (fun d w'=>K (.int .i64 d) w') w
theorem uE(c0:iQ):mV (T0.CB env c0)=Ad [(80,A2 (mU c0))] CX Tryz.f36:=by kernel_rfl
theorem XX:AP 36 (mV (F.CB env)):=AJ (AB XW AF) Tryz.func36 Tryz.call36 (uE _)
def pD(c:IH):Sem [.one (.ptr),.one (.int .u64),.one (.int .u64)]:=fun x K Kp w=>c x.1 x.2.1 x.2.2.1 (fun w'=>K (.tuple ⟨[]⟩) w') w
noncomputable def sS:Entry:=A2 (pD (F.Cb env))
def j5:Ed:={loops:=[(2,[(6,.one (.int .u64)),(20,.one (.int .i64))])],Aw:=[]}
theorem uF(c0:Yt)(c1:GD)(c2:GD):pD (T0.Cb env c0 c1 c2)=Ad [(105,A2 (dV c0)),(106,A2 (dW c1)),(36,A2 (mV c2))] j5 Tryz.f62:=by kernel_rfl
theorem dX:AP 62 (pD (F.Cb env)):=AJ (AB Zc (AB Zd (AB XX AF))) Tryz.func62 Tryz.call62 (uF _ _ _)
noncomputable def Td:Code:=(Tryz.f61.body).getD .skip
def XY:Ed:={loops:=[],Aw:=[]}
theorem dY(d: ∀(a0:(Option Addr)) (a1:Int) (a2:Int) (K:World->Prop) (w:World),Prop)(x:Hy [.one (.ptr),.one (.ptr),.one (.ptr),.one (.ptr)])(K Kp:Value->World->Prop)(w:World):T0.At env d x.1 x.2.1 x.2.2.1 x.2.2.2.1 (fun w'=>K (.tuple ⟨[]⟩) w') w=
 ev Tryz.prog (tabC [(62,fun args w K Kp=>unArgs [.one (.ptr),.one (.int .u64),.one (.int .u64)] args.toList fun x=>d x.1 x.2.1 x.2.2.1 (fun w'=>K (.tuple ⟨[]⟩) w') w)]) (ground Tryz.prog) XY Td (finQ Tryz.prog Tryz.f61 K Kp) (HY (mkArgs [.one (.ptr),.one (.ptr),.one (.ptr),.one (.ptr)] x)) w:=by kernel_rfl
theorem j6(x:Hy [.one (.ptr),.one (.ptr),.one (.ptr),.one (.ptr)])(K Kp:Value->World->Prop)(w:World):F.At env x.1 x.2.1 x.2.2.1 x.2.2.2.1 (fun w'=>K (.tuple ⟨[]⟩) w') w=
 ev Tryz.prog (tabC [(62,sS)]) (ground Tryz.prog) XY Td (finQ Tryz.prog Tryz.f61 K Kp) (HY (mkArgs [.one (.ptr),.one (.ptr),.one (.ptr),.one (.ptr)] x)) w:=dY (F.Cb env) x K Kp w
noncomputable def mW:JY:=fun args d w K=>unArgs [.one (.ptr),.one (.ptr),.one (.ptr),.one (.ptr)] args.toList fun x=>F.At env x.1 x.2.1 x.2.2.1 x.2.2.2.1 (fun w'=>K false w') w
theorem Ze:Gq Tryz.prog 61 mW:=
 Rf (T:=[(62,sS)]) (A:=XY) (fn:=Tryz.f61) (c:=Td) (l:=[.one (.ptr),.one (.ptr),.one (.ptr),.one (.ptr)]) (F:=fun(x:Hy [.one (.ptr),.one (.ptr),.one (.ptr),.one (.ptr)]) K w=>F.At env x.1 x.2.1 x.2.2.1 x.2.2.2.1 K w) (AB dX AF) mixed Tryz.func61 Tryz.call61 (by kernel_rfl) (by kernel_rfl) (by kernel_rfl) (fun x K w=>j6 x (fun _ w'=>K w') Ns w)
noncomputable def uG:Entry:=fun args w K Kp=>unArgs [.one (.ptr),.one (.int .i64),.one (.int .u64)] args.toList fun x=>F.Cu env x.1 x.2.1 x.2.2.1 (fun j d w'=>K (.tuple ⟨[.int .u64 j,.int .i64 d]⟩) w') w
noncomputable def Te:Code:=(Tryz.f28.body).getD .skip
def XZ:Ed:={loops:=[],Aw:=[(7,[(6,.one (.int .u64))])]}
theorem dZ(C: ∀(a0:(Option Addr)) (a1:Int) (a2:Int) (K:Int->Bool->World->Prop) (w:World),Prop)(j: ∀(a0:(Option Addr)) (a1:Int) (K:Int->World->Prop) (w:World),Prop)(d: ∀(a0:(Option Addr)) (a1:Int) (K:Int->Int->Int->World->Prop) (w:World),Prop)(v: ∀(a0:(Option Addr)) (a1:Int) (a2:Int) (K:Int->World->Prop) (w:World),Prop)(x:Hy [.one (.ptr),.one (.int .i64),.one (.int .u64)])(K:Value->World->Prop)(w:World):T0.Cu env C j d v x.1 x.2.1 x.2.2.1 (fun J N w'=>K (.tuple ⟨[.int .u64 J,.int .i64 N]⟩) w') w=
 evD Tryz.prog (tabC [(58,fun args w K Kp=>unArgs [.one (.ptr),.one (.int .i64),.one (.int .u64)] args.toList fun x=>C x.1 x.2.1 x.2.2.1 (fun J N w'=>K (.tuple ⟨[.int .u64 J,.bool N]⟩) w') w),(59,fun args w K Kp=>unArgs [.one (.ptr),.one (.int .u64)] args.toList fun x=>j x.1 x.2.1 (fun J w'=>K (.int .i64 J) w') w),(60,fun args w K Kp=>unArgs [.one (.ptr),.one (.int .u64)] args.toList fun x=>d x.1 x.2.1 (fun J N O w'=>K (.tuple ⟨[.int .u64 J,.int .u64 N,.int .i64 O]⟩) w') w),(63,fun args w K Kp=>unArgs [.one (.ptr),.one (.int .u64),.one (.int .u64)] args.toList fun x=>v x.1 x.2.1 x.2.2.1 (fun J w'=>K (.int .i64 J) w') w)]) (ground Tryz.prog) XZ (finQ Tryz.prog Tryz.f28 K Ns) (finD Tryz.prog Tryz.f28 (tabD [(61,mW)]) K Ns) Te (HY (mkArgs [.one (.ptr),.one (.int .i64),.one (.int .u64)] x)) w:=by kernel_rfl
theorem j7(x:Hy [.one (.ptr),.one (.int .i64),.one (.int .u64)])(K:Value->World->Prop)(w:World):F.Cu env x.1 x.2.1 x.2.2.1 (fun d j w'=>K (.tuple ⟨[.int .u64 d,.int .i64 j]⟩) w') w=
 evD Tryz.prog (tabC [(58,sO),(59,sQ),(60,sM),(63,sR)]) (ground Tryz.prog) XZ (finQ Tryz.prog Tryz.f28 K Ns) (finD Tryz.prog Tryz.f28 (tabD [(61,mW)]) K Ns) Te (HY (mkArgs [.one (.ptr),.one (.int .i64),.one (.int .u64)] x)) w:=dZ (F.Cr env) (F.CZ env) (F.A1 env) (F.CA env) x K w
theorem eA:It Tryz.prog 28 uG:=
 QR (T:=[(58,sO),(59,sQ),(60,sM),(63,sR)]) (TD:=[(61,mW)]) (A:=XZ) (fn:=Tryz.f28) (c:=Te) (AB dJ (AB dS (AB XV (AB dU AF)))) (TO Ze Vi) mixed Tryz.func28 Tryz.call28 (by kernel_rfl) (by kernel_rfl) (by kernel_rfl) j7
def pE(c:Hg):Sem [.one (.ptr)]:=fun x K Kp w=>c x.1 (fun d w'=>K (.int .i64 d) w') w
def j8:Ed:={loops:=[],Aw:=[(6,[(3,.one (.ptr))])]}
theorem uH:pE (F.GH env)=Ad [] j8 Tryz.f64:=by kernel_rfl
theorem eB:AP 64 (pE (F.GH env)):=AJ AF Tryz.func64 Tryz.call64 (uH)
def mX(c:jM):Sem [.one (.ptr)]:=fun x K Kp w=>c x.1 (fun C O J v r5 T N Y j d w'=>K (.agg ⟨[.int .u64 C,.int .i64 O,.int .i64 J,.int .i64 v,.bool r5,.int .i64 T,.int .i64 N,.int .i64 Y,.bool j,.bool d]⟩) w') w
theorem uI:mX (F.EH env)=Ad [] CX Tryz.f34:=by kernel_rfl
theorem Xa:AP 34 (mX (F.EH env)):=AJ AF Tryz.func34 Tryz.call34 (uI)
def mY(c:IH):Sem [.one (.ptr),.one (.int .u64),.one (.int .u64)]:=fun x K Kp w=>c x.1 x.2.1 x.2.2.1 (fun w'=>K (.tuple ⟨[]⟩) w') w
def j9:Ed:={loops:=[(2,[(6,.one (.sl)),(16,.one (.int .i64))]),(14,[]),(19,[(10,.one (.int .u64))])],Aw:=[(5,[(29,.one (.bool))]),(8,[(6,.one (.sl))]),(15,[(81,.one (.bool))]),(17,[(91,.one (.bool))])]}
theorem uJ:mY (F.E7 env)=Ad [] j9 Tryz.f77:=by kernel_rfl
theorem Xb:AP 77 (mY (F.E7 env)):=AJ AF Tryz.func77 Tryz.call77 (uJ)
def mZ(c:iR):Sem [.one (.ptr),.one (.int .u64),.one (.int .u64),.one (.int .i64)]:=fun x K Kp w=>c x.1 x.2.1 x.2.2.1 x.2.2.2.1 (fun d w'=>K (.int .i64 d) w') w
def kA:Ed:={loops:=[],Aw:=[(2,[(20,.one (.bool))]),(4,[(28,.one (.bool))]),(14,[])]}
theorem uK(c0:GD)(c1:IH):mZ (T0.Ct env c0 c1)=Ad [(76,A2 (Yv c0)),(77,A2 (mY c1))] kA Tryz.f35:=by kernel_rfl
theorem Xc:AP 35 (mZ (F.Ct env)):=AJ (AB Jv (AB Xb AF)) Tryz.func35 Tryz.call35 (uK _ _)
def pF(c:TF):Sem [.one (.ptr),.one (.ptr)]:=fun x K Kp w=>c x.1 x.2.1 (fun d w'=>K (.int .i64 d) w') w
theorem uL(c0:Hg)(c1:jM)(c2:iR):pF (T0.DO env c0 c1 c2)=Ad [(64,A2 (pE c0)),(34,A2 (mX c1)),(35,A2 (mZ c2))] CX Tryz.f29:=by kernel_rfl
theorem eC:AP 29 (pF (F.DO env)):=AJ (AB eB (AB Xa (AB Xc AF))) Tryz.func29 Tryz.call29 (uL _ _ _)
def G8(c:Yu):Sem [.one (.ptr),.one (.int .i64),.one (.int .u64),.one (.int .i64),.one (.bool)]:=fun x K Kp w=>c x.1 x.2.1 x.2.2.1 x.2.2.2.1 x.2.2.2.2.1 (fun j d w'=>K (.tuple ⟨[.int .i64 j,.int .i64 d]⟩) w') w
theorem Z8(c0:a9)(c1:JL)(c2:TF):G8 (T0.Bp env c0 c1 c2)=Ad [(27,A2 (oF c0)),(28,fun args w K Kp=>unArgs [.one (.ptr),.one (.int .i64),.one (.int .u64)] args.toList fun x=>c1 x.1 x.2.1 x.2.2.1 (fun j d w'=>K (.tuple ⟨[.int .u64 j,.int .i64 d]⟩) w') w),(29,A2 (pF c2))] CX Tryz.f8:=by kernel_rfl
theorem bD:AP 8 (G8 (F.Bp env)):=AJ (AB cW (AB eA (AB eC AF))) Tryz.func8 Tryz.call8 (Z8 _ _ _)
def pG(c:PX):Sem [.one (.int .u64),.one (.int .u64)]:=fun x K Kp w=>c x.1 x.2.1 (fun d w'=>K (.bool d) w') w
theorem uM:pG (F.EW env)=Ad [] CX Tryz.f65:=by kernel_rfl
theorem eD:AP 65 (pG (F.EW env)):=AJ AF Tryz.func65 Tryz.call65 (uM)
def eE(c:Y6):Sem [.one (.int .u64)]:=fun x K Kp w=>c x.1 (fun d w'=>K (.bool d) w') w
def eF:Ed:={loops:=[(1,[(0,.one (.int .u64))])],Aw:=[]}
theorem pH:eE (F.FI env)=Ad [] eF Tryz.f113:=by kernel_rfl
theorem Zf:AP 113 (eE (F.FI env)):=AJ AF Tryz.func113 Tryz.call113 (pH)
def eG(c:Y8):Sem [.one (.int .u32)]:=fun x K Kp w=>c x.1 (fun d w'=>K (.int .u32 d) w') w
theorem pI:eG (F.Ef env)=Ad [] CX Tryz.f114:=by kernel_rfl
theorem Zg:AP 114 (eG (F.Ef env)):=AJ AF Tryz.func114 Tryz.call114 (pI)
def pJ(c:Y9):Sem [.one (.int .i64),.one (.int .i64)]:=fun x K Kp w=>c x.1 x.2.1 (fun d j w'=>K (.tuple ⟨[.slice d.base d.len d.cap,.int .i64 j]⟩) w') w
def kB:Ed:={loops:=[(6,[(6,.one (.sl)),(7,.one (.int .i64)),(8,.one (.int .i64))]),(16,[(9,.one (.int .i64))]),(23,[(11,.one (.int .i64))])],Aw:=[(2,[(41,.one (.bool))]),(15,[(7,.one (.int .i64))]),(20,[(99,.one (.bool))]),(29,[])]}
theorem uN(c0:Y6)(c1:Y8):pJ (T0.DP env c0 c1)=Ad [(113,A2 (eE c0)),(114,A2 (eG c1))] kB Tryz.f66:=by kernel_rfl
theorem eH:AP 66 (pJ (F.DP env)):=AJ (AB Zf (AB Zg AF)) Tryz.func66 Tryz.call66 (uN _ _)
end Go.Sh

/- Each shallow form is what the code of its function comes to, piece 1. No further condition. -/
import Derived.Test.YtcjamkpfbpfeoaaGreatDoorF
import Derived.Test.YtcjamkpfbpfeoaaGreatDoorProg
import Derived.KernelRfl
set_option linter.all false
set_option maxRecDepth 100000
set_option maxHeartbeats 4000000
namespace Go.Sh
open Go.Proofs
theorem mixed:Tryz.prog.follows .mixedOrders=true:=by kernel_rfl
noncomputable def env:Env:={call:=ground Tryz.prog,Eg:=25,AJ:=39,Ag:=4,CE:=52,As:=71,IP:=117,CY:=60,AY:=67,Em:=178,Ni:=120,PF:=124,JT:=128,En:=130,Ae:=81,A0:=182,Eo:=152,AF:=213,Lw:=203,BE:=35,CK:=54,Fm:=205,FL:=126,E8:=138,BL:=199,Nj:=74,CV:=3,CF:=148,Ai:=170,Hy:=220,Ax:=113,AW:=115,FO:=218,BS:=172,Eh:=222,Jf:=223,Fo:=41,Gi:=255,Qm:=238,Hz:=188,Fp:=126,Fq:=98,AP:=0,Oi:=0}
def By:D6:={loops:=[],Ah:=[]}
abbrev Sem(l:List VT):=HM l->(Value->World->Prop)->(Value->World->Prop)->World->Prop
def Ao{l:List VT}(F:Sem l):Entry:=fun args w K Kp=>unArgs l args.toList fun x=>F x K Kp w
noncomputable def Ab(T:List (Nat×Entry))(A:D6)(fn:Func){l:List VT}:Sem l:=fun x K Kp w=>ev Tryz.prog (tabC T) (ground Tryz.prog) A (fn.body.getD .skip) (finQ Tryz.prog fn K Kp) (GU (mkArgs l x)) w
abbrev AO(f:FuncId){l:List VT}(F:Sem l):Prop:=HE Tryz.prog f (Ao F)
theorem AG{T:List (Nat×Entry)}{A:D6}{f:FuncId}{fn:Func}{l:List VT}{F:Sem l}
 (C: ∀p∈T,HF Tryz.prog p.1 p.2)(hf:Tryz.prog.funcs[f]? =some fn)(d: ∀args w,(callFunc f args).run Tryz.prog w= .ok (.enter f args) w)
 (j:F=Ab T A fn)(y:fn.body=some (fn.body.getD .skip):=by kernel_rfl)(v:Nat.ble l.length fn.ntmps=true:=by kernel_rfl)(J:withinB fn.ntmps (written (fn.body.getD .skip))=true:=by kernel_rfl):AO f F:=
 PA C mixed hf d y v J fun _ _ _ _=>congrFun (congrFun (congrFun (congrFun j _) _) _) _
def G4(c:xR):Sem [.agg [.sl,.sl,.sl],.one (.sl)]:=fun x K Kp w=>c x.1.1 x.1.2.1 x.1.2.2.1 x.2.1 (fun r1 w'=>K (.bool r1) w') w
def ann4:D6:={loops:=[(3,[(5,.one (.int .u64)),(6,.one (.int .i64))])],Ah:=[(6,[(26,.one (.bool))])]}
theorem Z4:G4 (F.Fs env)=Ab [] ann4 Tryz.f4:=by kernel_rfl
theorem xS:AO 4 (G4 (F.Fs env)):=AG AE Tryz.func4 Tryz.call4 (Z4)
def G6(c:Y66):Sem [.agg [.sl,.sl,.sl]]:=fun x K Kp w=>c x.1.1 x.1.2.1 x.1.2.2.1 (fun r1 d j w'=>K (.agg ⟨[.slice r1.base r1.len r1.cap,.slice d.base d.len d.cap,.slice j.base j.len j.cap]⟩) w') w
theorem Z6:G6 (F.Ft env)=Ab [] By Tryz.f6:=by kernel_rfl
theorem xT:AO 6 (G6 (F.Ft env)):=AG AE Tryz.func6 Tryz.call6 (Z6)
def G14(c:Y0):Sem [.one (.sl)]:=fun x K Kp w=>c x.1 (fun r1 w'=>K (.slice r1.base r1.len r1.cap) w') w
theorem Z14:G14 (F.Cb env)=Ab [] By Tryz.f14:=by kernel_rfl
theorem oS:AO 14 (G14 (F.Cb env)):=AG AE Tryz.func14 Tryz.call14 (Z14)
def G15(c:Y0):Sem [.one (.sl)]:=fun x K Kp w=>c x.1 (fun r1 w'=>K (.slice r1.base r1.len r1.cap) w') w
theorem Z15:G15 (F.DN env)=Ab [] By Tryz.f15:=by kernel_rfl
theorem oT:AO 15 (G15 (F.DN env)):=AG AE Tryz.func15 Tryz.call15 (Z15)
def G5(c:Y1):Sem [.agg [.sl,.sl,.sl]]:=fun x K Kp w=>c x.1.1 x.1.2.1 x.1.2.2.1 (fun r1 w'=>K (.pointer r1) w') w
theorem Z5(c0:Y0)(c1:Y0):G5 (T0.Hb env c0 c1)=Ab [(14,Ao (G14 c0)),(15,Ao (G15 c1))] By Tryz.f5:=by kernel_rfl
theorem nL:AO 5 (G5 (F.Hb env)):=AG (AA oS (AA oT AE)) Tryz.func5 Tryz.call5 (Z5 _ _)
def G8(c:Y1):Sem [.agg [.sl,.sl,.sl]]:=fun x K Kp w=>c x.1.1 x.1.2.1 x.1.2.2.1 (fun r1 w'=>K (.pointer r1) w') w
theorem Z8:G8 (F.Gr env)=Ab [] By Tryz.f8:=by kernel_rfl
theorem xU:AO 8 (G8 (F.Gr env)):=AG AE Tryz.func8 Tryz.call8 (Z8)
def G16(c:Y2):Sem [.one (.int .i64)]:=fun x K Kp w=>c x.1 (fun r1 d w'=>K (.tuple ⟨[.pointer r1,.int .i64 d]⟩) w') w
def xV:D6:={loops:=[],Ah:=[(2,[(9,.one (.bool))])]}
theorem Z16:G16 (F.GW env)=Ab [] xV Tryz.f16:=by kernel_rfl
theorem oU:AO 16 (G16 (F.GW env)):=AG AE Tryz.func16 Tryz.call16 (Z16)
def G7(c:Y3):Sem [.one (.ptr)]:=fun x K Kp w=>c x.1 (fun r1 w'=>K (.pointer r1) w') w
theorem Z7(c0:Y2):G7 (T0.EM env c0)=Ab [(16,Ao (G16 c0))] By Tryz.f7:=by kernel_rfl
theorem xW:AO 7 (G7 (F.EM env)):=AG (AA oU AE) Tryz.func7 Tryz.call7 (Z7 _)
def wW(c:Y4):Sem [.one (.ptr)]:=fun x K Kp w=>c x.1 (fun w'=>K (.tuple ⟨[]⟩) w') w
def xX:D6:={loops:=[(2,[(5,.one (.int .i64))])],Ah:=[]}
theorem Z55:wW (F.Ch env)=Ab [] xX Tryz.f55:=by kernel_rfl
theorem Th:AO 55 (wW (F.Ch env)):=AG AE Tryz.func55 Tryz.call55 (Z55)
def G17(c:Y5):Sem []:=fun x K Kp w=>c (fun r1 w'=>K (.pointer r1) w') w
theorem Z17(c0:Y4):G17 (T0.Ge env c0)=Ab [(55,Ao (wW c0))] By Tryz.f17:=by kernel_rfl
theorem oV:AO 17 (G17 (F.Ge env)):=AG (AA Th AE) Tryz.func17 Tryz.call17 (Z17 _)
def G18(c:Y5):Sem []:=fun x K Kp w=>c (fun r1 w'=>K (.pointer r1) w') w
theorem Z18:G18 (F.JU env)=Ab [] By Tryz.f18:=by kernel_rfl
theorem oX:AO 18 (G18 (F.JU env)):=AG AE Tryz.func18 Tryz.call18 (Z18)
def G19(c:Y2):Sem [.one (.int .i64)]:=fun x K Kp w=>c x.1 (fun r1 d w'=>K (.tuple ⟨[.pointer r1,.int .i64 d]⟩) w') w
def xY:D6:={loops:=[],Ah:=[(2,[(9,.one (.bool))])]}
theorem Z19:G19 (F.Nk env)=Ab [] xY Tryz.f19:=by kernel_rfl
theorem oY:AO 19 (G19 (F.Nk env)):=AG AE Tryz.func19 Tryz.call19 (Z19)
def G20(c:Y5):Sem []:=fun x K Kp w=>c (fun r1 w'=>K (.pointer r1) w') w
theorem Z20:G20 (F.Jg env)=Ab [] By Tryz.f20:=by kernel_rfl
theorem oZ:AO 20 (G20 (F.Jg env)):=AG AE Tryz.func20 Tryz.call20 (Z20)
def G9(c:Y3):Sem [.one (.ptr)]:=fun x K Kp w=>c x.1 (fun r1 w'=>K (.pointer r1) w') w
def ann9:D6:={loops:=[(4,[(18,.one (.int .i64))])],Ah:=[]}
theorem Z9(c0:Y5)(c1:Y5)(c2:Y2)(c3:Y5):G9 (T0.Gf env c0 c1 c2 c3)=Ab [(17,Ao (G17 c0)),(18,Ao (G18 c1)),(19,Ao (G19 c2)),(20,Ao (G20 c3))] ann9 Tryz.f9:=by kernel_rfl
theorem nM:AO 9 (G9 (F.Gf env)):=AG (AA oV (AA oX (AA oY (AA oZ AE)))) Tryz.func9 Tryz.call9 (Z9 _ _ _ _)
def xZ(c:Y3):Sem [.one (.ptr)]:=fun x K Kp w=>c x.1 (fun r1 w'=>K (.pointer r1) w') w
theorem Z10:xZ (F.Ep env)=Ab [] By Tryz.f10:=by kernel_rfl
theorem Wx:AO 10 (xZ (F.Ep env)):=AG AE Tryz.func10 Tryz.call10 (Z10)
def iM(c:Y6):Sem [.one (.int .u64)]:=fun x K Kp w=>c x.1 (fun r1 w'=>K (.bool r1) w') w
theorem Z189:iM (F.MX env)=Ab [] By Tryz.f189:=by kernel_rfl
theorem YI:AO 189 (iM (F.MX env)):=AG AE Tryz.func189 Tryz.call189 (Z189)
def o7(c:Y7):Sem [.one (.int .i64),.one (.int .i64)]:=fun x K Kp w=>c x.1 x.2.1 (fun r1 w'=>K (.int .i64 r1) w') w
theorem Z190(c0:Y6):o7 (T0.Gs env c0)=Ab [(189,Ao (iM c0))] By Tryz.f190:=by kernel_rfl
theorem iN:AO 190 (o7 (F.Gs env)):=AG (AA YI AE) Tryz.func190 Tryz.call190 (Z190 _)
def o8(c:Y7):Sem [.one (.int .i64),.one (.int .i64)]:=fun x K Kp w=>c x.1 x.2.1 (fun r1 w'=>K (.int .i64 r1) w') w
def o9:D6:={loops:=[(2,[(5,.one (.int .i64))])],Ah:=[]}
theorem Z191:o8 (F.I0 env)=Ab [] o9 Tryz.f191:=by kernel_rfl
theorem iO:AO 191 (o8 (F.I0 env)):=AG AE Tryz.func191 Tryz.call191 (Z191)
def pA(c:Y8):Sem [.one (.int .u32)]:=fun x K Kp w=>c x.1 (fun r1 w'=>K (.int .u32 r1) w') w
theorem Z192:pA (F.Ka env)=Ab [] By Tryz.f192:=by kernel_rfl
theorem iP:AO 192 (pA (F.Ka env)):=AG AE Tryz.func192 Tryz.call192 (Z192)
def pB(c:Y9):Sem [.one (.int .i64),.one (.int .i64)]:=fun x K Kp w=>c x.1 x.2.1 (fun r1 d w'=>K (.tuple ⟨[.slice r1.base r1.len r1.cap,.int .i64 d]⟩) w') w
def pC:D6:={loops:=[(6,[(6,.one (.sl)),(7,.one (.int .i64)),(8,.one (.int .i64))]),(15,[(107,.one (.int .i64))])],Ah:=[(2,[(42,.one (.bool))]),(12,[(91,.one (.bool))]),(22,[])]}
theorem Z152(c0:Y6)(c1:Y7)(c2:Y7)(c3:Y8):pB (T0.IA env c0 c1 c2 c3)=Ab [(189,Ao (iM c0)),(190,Ao (o7 c1)),(191,Ao (o8 c2)),(192,Ao (pA c3))] pC Tryz.f152:=by kernel_rfl
theorem iQ:AO 152 (pB (F.IA env)):=AG (AA YI (AA iN (AA iO (AA iP AE)))) Tryz.func152 Tryz.call152 (Z152 _ _ _ _)
def pD(c:Y10):Sem []:=fun x K Kp w=>c (fun r1 w'=>K (.slice r1.base r1.len r1.cap) w') w
theorem Z105(c0:Y9):pD (T0.GJ env c0)=Ab [(152,Ao (pB c0))] By Tryz.f105:=by kernel_rfl
theorem iR:AO 105 (pD (F.GJ env)):=AG (AA iQ AE) Tryz.func105 Tryz.call105 (Z105 _)
def G56(c:nG):Sem [.one (.int .u64),.one (.int .u64),.one (.int .i64),.one (.bool)]:=fun x K Kp w=>c x.1 x.2.1 x.2.2.1 x.2.2.2.1 (fun r1 d w'=>K (.tuple ⟨[.pointer r1,.int .i64 d]⟩) w') w
def yA:D6:={loops:=[],Ah:=[(3,[(56,.one (.bool))])]}
theorem Z56(c0:Y10):G56 (T0.I1 env c0)=Ab [(105,Ao (pD c0))] yA Tryz.f56:=by kernel_rfl
theorem pE:AO 56 (G56 (F.I1 env)):=AG (AA iR AE) Tryz.func56 Tryz.call56 (Z56 _)
def G80(c:Y6):Sem [.one (.int .i64)]:=fun x K Kp w=>c x.1 (fun r1 w'=>K (.bool r1) w') w
theorem Z80:G80 (F.Kb env)=Ab [] By Tryz.f80:=by kernel_rfl
theorem cV:AO 80 (G80 (F.Kb env)):=AG AE Tryz.func80 Tryz.call80 (Z80)
def cW(c:Sb):Sem [.one (.ptr)]:=fun x K Kp w=>c x.1 (fun r1 w'=>K (.bool r1) w') w
theorem Z145:cW (F.Dn env)=Ab [] By Tryz.f145:=by kernel_rfl
theorem Ti:AO 145 (cW (F.Dn env)):=AG AE Tryz.func145 Tryz.call145 (Z145)
def cX(c:YF):Sem [.one (.ptr)]:=fun x K Kp w=>c x.1 (fun r1 w'=>K (.slice r1.base r1.len r1.cap) w') w
theorem Z135:cX (F.EN env)=Ab [] By Tryz.f135:=by kernel_rfl
theorem Tj:AO 135 (cX (F.EN env)):=AG AE Tryz.func135 Tryz.call135 (Z135)
def iS(c:Kl):Sem [.one (.ptr),.one (.int .u64)]:=fun x K Kp w=>c x.1 x.2.1 (fun r1 d w'=>K (.tuple ⟨[.int .u64 r1,.bool d]⟩) w') w
def pF:D6:={loops:=[(4,[(15,.one (.int .i64))])],Ah:=[]}
theorem Z158(c0:YF):iS (T0.Ck env c0)=Ab [(135,Ao (cX c0))] pF Tryz.f158:=by kernel_rfl
theorem YJ:AO 158 (iS (F.Ck env)):=AG (AA Tj AE) Tryz.func158 Tryz.call158 (Z158 _)
def pG(c:Y14):Sem [.one (.int .i64),.one (.any)]:=fun x K Kp w=>c x.1 x.2.1 (fun r1 w'=>K (.int .i64 r1) w') w
def pH:D6:={loops:=[(2,[(5,.one (.int .i64)),(6,.one (.int .i64))])],Ah:=[]}
theorem Z187:pG (F.I2 env)=Ab [] pH Tryz.f187:=by kernel_rfl
theorem iT:AO 187 (pG (F.I2 env)):=AG AE Tryz.func187 Tryz.call187 (Z187)
def Wy(c:Fy):Sem [.one (.ptr),.one (.int .u64)]:=fun x K Kp w=>c x.1 x.2.1 (fun r1 w'=>K (.int .i64 r1) w') w
theorem Z151(c0:Y14):Wy (T0.Cl env c0)=Ab [(187,Ao (pG c0))] By Tryz.f151:=by kernel_rfl
theorem Np:AO 151 (Wy (F.Cl env)):=AG (AA iT AE) Tryz.func151 Tryz.call151 (Z151 _)
def SA(c:HU):Sem [.one (.ptr),.one (.int .u64),.one (.int .u64)]:=fun x K Kp w=>c x.1 x.2.1 x.2.2.1 (fun r1 w'=>K (.int .u64 r1) w') w
def pI:D6:={loops:=[(3,[(7,.one (.int .u64)),(8,.one (.int .i64))])],Ah:=[]}
theorem Z124(c0:Fy):SA (T0.A4 env c0)=Ab [(151,Ao (Wy c0))] pI Tryz.f124:=by kernel_rfl
theorem Jy:AO 124 (SA (F.A4 env)):=AG (AA Np AE) Tryz.func124 Tryz.call124 (Z124 _)
def iU(c:wP):Sem [.one (.ptr),.one (.int .u64),.one (.int .u64),.one (.bool),.one (.int .i64)]:=fun x K Kp w=>c x.1 x.2.1 x.2.2.1 x.2.2.2.1 x.2.2.2.2.1 (fun r1 w'=>K (.int .i64 r1) w') w
def pJ:D6:={loops:=[],Ah:=[(4,[(11,.one (.int .u64))]),(5,[(14,.one (.bool))])]}
theorem Z173(c0:HU):iU (T0.Cx env c0)=Ab [(124,Ao (SA c0))] pJ Tryz.f173:=by kernel_rfl
theorem YK:AO 173 (iU (F.Cx env)):=AG (AA Jy AE) Tryz.func173 Tryz.call173 (Z173 _)
def Wz(c:Jw):Sem [.one (.ptr),.one (.int .u64),.one (.int .u64)]:=fun x K Kp w=>c x.1 x.2.1 x.2.2.1 (fun w'=>K (.tuple ⟨[]⟩) w') w
def pK:D6:={loops:=[(5,[(7,.one (.int .i64)),(8,.one (.sl))])],Ah:=[(10,[(8,.one (.sl))]),(12,[(7,.one (.int .i64)),(8,.one (.sl))])]}
theorem Z136(c0:HU)(c1:Fy):Wz (T0.Bk env c0 c1)=Ab [(124,Ao (SA c0)),(151,Ao (Wy c1))] pK Tryz.f136:=by kernel_rfl
theorem Nq:AO 136 (Wz (F.Bk env)):=AG (AA Jy (AA Np AE)) Tryz.func136 Tryz.call136 (Z136 _ _)
def iV(c:JS):Sem [.one (.ptr),.one (.int .u64),.one (.int .u64)]:=fun x K Kp w=>c x.1 x.2.1 x.2.2.1 (fun r1 d w'=>K (.tuple ⟨[.int .u64 r1,.int .i64 d]⟩) w') w
theorem Z159(c0:wP)(c1:HU)(c2:Jw)(c3:Y4):iV (T0.Cm env c0 c1 c2 c3)=Ab [(173,Ao (iU c0)),(124,Ao (SA c1)),(136,Ao (Wz c2)),(55,Ao (wW c3))] By Tryz.f159:=by kernel_rfl
theorem YL:AO 159 (iV (F.Cm env)):=AG (AA YK (AA Jy (AA Nq (AA Th AE)))) Tryz.func159 Tryz.call159 (Z159 _ _ _ _)
def pL(c:Sc):Sem [.one (.ptr),.one (.ptr)]:=fun x K Kp w=>c x.1 x.2.1 (fun r1 w'=>K (.int .i64 r1) w') w
def pM:D6:={loops:=[(8,[(28,.one (.int .u64))])],Ah:=[]}
theorem Z153(c0:Kl)(c1:Sb)(c2:JS):pL (T0.DV env c0 c1 c2)=Ab [(158,Ao (iS c0)),(145,Ao (cW c1)),(159,Ao (iV c2))] pM Tryz.f153:=by kernel_rfl
theorem iW:AO 153 (pL (F.DV env)):=AG (AA YJ (AA Ti (AA YL AE))) Tryz.func153 Tryz.call153 (Z153 _ _ _)
def yB(c:Y8):Sem [.one (.int .u64)]:=fun x K Kp w=>c x.1 (fun r1 w'=>K (.int .i64 r1) w') w
theorem Z75:yB (F.BF env)=Ab [] By Tryz.f75:=by kernel_rfl
theorem W0:AO 75 (yB (F.BF env)):=AG AE Tryz.func75 Tryz.call75 (Z75)
def pN(c:Y22):Sem [.one (.int .u64),.one (.int .i64)]:=fun x K Kp w=>c x.1 x.2.1 (fun r1 d w'=>K (.tuple ⟨[.int .i64 r1,.bool d]⟩) w') w
def pO:D6:={loops:=[(2,[(0,.one (.int .u64)),(1,.one (.int .i64)),(6,.one (.int .i64))])],Ah:=[]}
theorem Z193(c0:Y8):pN (T0.GK env c0)=Ab [(75,Ao (yB c0))] pO Tryz.f193:=by kernel_rfl
theorem iX:AO 193 (pN (F.GK env)):=AG (AA W0 AE) Tryz.func193 Tryz.call193 (Z193 _)
def pP(c:Y8):Sem [.one (.int .u64)]:=fun x K Kp w=>c x.1 (fun r1 w'=>K (.int .i64 r1) w') w
theorem Z194:pP (F.EZ env)=Ab [] By Tryz.f194:=by kernel_rfl
theorem iY:AO 194 (pP (F.EZ env)):=AG AE Tryz.func194 Tryz.call194 (Z194)
def pQ(c:WY):Sem [.one (.ptr),.one (.int .i64)]:=fun x K Kp w=>c x.1 x.2.1 (fun r1 d j w'=>K (.tuple ⟨[.int .u64 r1,.int .i64 d,.int .i64 j]⟩) w') w
def pR:D6:={loops:=[],Ah:=[(2,[(16,.one (.bool))])]}
theorem Z154(c0:Y22)(c1:Y8):pQ (T0.Ci env c0 c1)=Ab [(193,Ao (pN c0)),(194,Ao (pP c1))] pR Tryz.f154:=by kernel_rfl
theorem iZ:AO 154 (pQ (F.Ci env)):=AG (AA iX (AA iY AE)) Tryz.func154 Tryz.call154 (Z154 _ _)
def jA(c:WY):Sem [.one (.ptr),.one (.int .u64)]:=fun x K Kp w=>c x.1 x.2.1 (fun r1 d j w'=>K (.tuple ⟨[.int .u64 r1,.int .u64 d,.int .i64 j]⟩) w') w
noncomputable def yC:Entry:=Ao (jA (F.BJ env))
theorem Z108(c0:Kl)(c1:JS):jA (T0.BJ env c0 c1)=Ab [(158,Ao (iS c0)),(159,Ao (iV c1))] By Tryz.f108:=by kernel_rfl
theorem YM:AO 108 (jA (F.BJ env)):=AG (AA YJ (AA YL AE)) Tryz.func108 Tryz.call108 (Z108 _ _)
def pS(c:U5):Sem [.one (.ptr),.one (.int .i64),.one (.int .u64)]:=fun x K Kp w=>c x.1 x.2.1 x.2.2.1 (fun r1 d w'=>K (.tuple ⟨[.int .u64 r1,.bool d]⟩) w') w
noncomputable def yD:Entry:=Ao (pS (F.Db env))
def pT:D6:={loops:=[],Ah:=[(2,[(20,.one (.bool))]),(5,[]),(8,[])]}
theorem Z106(c0:Y6)(c1:Sb)(c2:Sc)(c3:WY)(d:WY):pS (T0.Db env c0 c1 c2 c3 d)=Ab [(80,Ao (G80 c0)),(145,Ao (cW c1)),(153,Ao (pL c2)),(154,Ao (pQ c3)),(108,Ao (jA d))] pT Tryz.f106:=by kernel_rfl
theorem jB:AO 106 (pS (F.Db env)):=AG (AA cV (AA Ti (AA iW (AA iZ (AA YM AE))))) Tryz.func106 Tryz.call106 (Z106 _ _ _ _ _)
def jC(c:xN):Sem [.one (.ptr)]:=fun x K Kp w=>c x.1 (fun r1 d w'=>K (.tuple ⟨[.bool r1,.bool d]⟩) w') w
theorem Z161:jC (F.Fj env)=Ab [] By Tryz.f161:=by kernel_rfl
theorem YN:AO 161 (jC (F.Fj env)):=AG AE Tryz.func161 Tryz.call161 (Z161)
def jD(c:iK):Sem [.one (.ptr)]:=fun x K Kp w=>c x.1 (fun r1 d w'=>K (.tuple ⟨[.int .u64 r1,.bool d]⟩) w') w
theorem Z163:jD (F.DW env)=Ab [] By Tryz.f163:=by kernel_rfl
theorem YO:AO 163 (jD (F.DW env)):=AG AE Tryz.func163 Tryz.call163 (Z163)
def jE(c:bD):Sem [.one (.ptr),.one (.int .u64),.one (.int .u64)]:=fun x K Kp w=>c x.1 x.2.1 x.2.2.1 (fun r1 w'=>K (.bool r1) w') w
theorem Z195(c0:HU):jE (T0.D7 env c0)=Ab [(124,Ao (SA c0))] By Tryz.f195:=by kernel_rfl
theorem YP:AO 195 (jE (F.D7 env)):=AG (AA Jy AE) Tryz.func195 Tryz.call195 (Z195 _)
def pU(c:U5):Sem [.one (.ptr),.one (.int .u64),.one (.int .u64)]:=fun x K Kp w=>c x.1 x.2.1 x.2.2.1 (fun r1 d w'=>K (.tuple ⟨[.int .u64 r1,.bool d]⟩) w') w
def pV:D6:={loops:=[(5,[(8,.one (.int .u64)),(24,.one (.int .i64))])],Ah:=[(9,[]),(11,[(8,.one (.int .u64))])]}
theorem Z196(c0:YF)(c1:bD):pU (T0.Dc env c0 c1)=Ab [(135,Ao (cX c0)),(195,Ao (jE c1))] pV Tryz.f196:=by kernel_rfl
theorem jF:AO 196 (pU (F.Dc env)):=AG (AA Tj (AA YP AE)) Tryz.func196 Tryz.call196 (Z196 _ _)
def Tk(c:Jw):Sem [.one (.ptr),.one (.int .u64),.one (.int .u64)]:=fun x K Kp w=>c x.1 x.2.1 x.2.2.1 (fun w'=>K (.tuple ⟨[]⟩) w') w
def pW:D6:={loops:=[],Ah:=[(7,[(51,.one (.bool))]),(9,[(8,.one (.int .i64))]),(10,[(77,.one (.bool))]),(12,[(6,.one (.int .i64))])]}
theorem Z137(c0:Jw)(c1:Fy):Tk (T0.A8 env c0 c1)=Ab [(136,Ao (Wz c0)),(151,Ao (Wy c1))] pW Tryz.f137:=by kernel_rfl
theorem K1:AO 137 (Tk (F.A8 env)):=AG (AA Nq (AA Np AE)) Tryz.func137 Tryz.call137 (Z137 _ _)
def pX(c:JS):Sem [.one (.ptr),.one (.int .u64),.one (.int .u64)]:=fun x K Kp w=>c x.1 x.2.1 x.2.2.1 (fun r1 d w'=>K (.tuple ⟨[.int .u64 r1,.int .i64 d]⟩) w') w
def pY:D6:={loops:=[(9,[(10,.one (.int .u64)),(11,.one (.bool)),(52,.one (.int .i64))])],Ah:=[(2,[(24,.one (.bool))]),(8,[(11,.one (.bool))])]}
theorem Z155(c0:xN)(c1:iK)(c2:bD)(c3:U5)(d:Jw):pX (T0.Dt env c0 c1 c2 c3 d)=Ab [(161,Ao (jC c0)),(163,Ao (jD c1)),(195,Ao (jE c2)),(196,Ao (pU c3)),(137,Ao (Tk d))] pY Tryz.f155:=by kernel_rfl
theorem jG:AO 155 (pX (F.Dt env)):=AG (AA YN (AA YO (AA YP (AA jF (AA K1 AE))))) Tryz.func155 Tryz.call155 (Z155 _ _ _ _ _)
def pZ(c:HU):Sem [.one (.ptr),.one (.int .u64),.one (.int .u64)]:=fun x K Kp w=>c x.1 x.2.1 x.2.2.1 (fun r1 w'=>K (.int .i64 r1) w') w
def qA:D6:={loops:=[],Ah:=[(2,[(24,.one (.bool))])]}
theorem Z156(c0:HU)(c1:Jw)(c2:Y4):pZ (T0.DA env c0 c1 c2)=Ab [(124,Ao (SA c0)),(137,Ao (Tk c1)),(55,Ao (wW c2))] qA Tryz.f156:=by kernel_rfl
theorem jH:AO 156 (pZ (F.DA env)):=AG (AA Jy (AA K1 (AA Th AE))) Tryz.func156 Tryz.call156 (Z156 _ _ _)
def qB(c:Jw):Sem [.one (.ptr),.one (.int .u64),.one (.int .u64)]:=fun x K Kp w=>c x.1 x.2.1 x.2.2.1 (fun w'=>K (.tuple ⟨[]⟩) w') w
theorem Z157(c0:Jw):qB (T0.Er env c0)=Ab [(137,Ao (Tk c0))] By Tryz.f157:=by kernel_rfl
theorem jI:AO 157 (qB (F.Er env)):=AG (AA K1 AE) Tryz.func157 Tryz.call157 (Z157 _)
def qC(c:Fy):Sem [.one (.ptr),.one (.int .u64)]:=fun x K Kp w=>c x.1 x.2.1 (fun r1 w'=>K (.int .i64 r1) w') w
noncomputable def yE:Entry:=Ao (qC (F.DB env))
theorem Z107(c0:JS)(c1:HU)(c2:Jw):qC (T0.DB env c0 c1 c2)=Ab [(155,Ao (pX c0)),(156,Ao (pZ c1)),(157,Ao (qB c2))] By Tryz.f107:=by kernel_rfl
theorem jJ:AO 107 (qC (F.DB env)):=AG (AA jG (AA jH (AA jI AE))) Tryz.func107 Tryz.call107 (Z107 _ _ _)
def jK(c:Rx):Sem [.one (.int .u64),.one (.int .u64)]:=fun x K Kp w=>c x.1 x.2.1 (fun r1 w'=>K (.bool r1) w') w
theorem Z138:jK (F.Il env)=Ab [] By Tryz.f138:=by kernel_rfl
theorem YQ:AO 138 (jK (F.Il env)):=AG AE Tryz.func138 Tryz.call138 (Z138)
def jL(c:g7):Sem [.one (.ptr),.one (.int .u64),.one (.int .u64)]:=fun x K Kp w=>c x.1 x.2.1 x.2.2.1 (fun r1 w'=>K (.slice r1.base r1.len r1.cap) w') w
def qD:D6:={loops:=[(3,[(7,.one (.sl)),(8,.one (.int .i64))])],Ah:=[]}
theorem Z162(c0:Fy):jL (T0.Bl env c0)=Ab [(151,Ao (Wy c0))] qD Tryz.f162:=by kernel_rfl
theorem YR:AO 162 (jL (F.Bl env)):=AG (AA Np AE) Tryz.func162 Tryz.call162 (Z162 _)
def qE(c:HU):Sem [.one (.ptr),.one (.int .u64),.one (.int .u64)]:=fun x K Kp w=>c x.1 x.2.1 x.2.2.1 (fun r1 w'=>K (.int .i64 r1) w') w
noncomputable def yF:Entry:=Ao (qE (F.Cn env))
def qF:D6:={loops:=[(12,[(56,.one (.int .i64))]),(15,[(12,.one (.int .u64))])],Ah:=[(22,[])]}
theorem Z111(c0:Rx)(c1:HU)(c2:xN)(c3:g7)(j:iK)(d:Jw)(v:Jw):qE (T0.Cn env c0 c1 c2 c3 j d v)=Ab [(138,Ao (jK c0)),(124,Ao (SA c1)),(161,Ao (jC c2)),(162,Ao (jL c3)),(163,Ao (jD j)),(136,Ao (Wz d)),(137,Ao (Tk v))] qF Tryz.f111:=by kernel_rfl
theorem jM:AO 111 (qE (F.Cn env)):=AG (AA YQ (AA Jy (AA YN (AA YR (AA YO (AA Nq (AA K1 AE))))))) Tryz.func111 Tryz.call111 (Z111 _ _ _ _ _ _ _)
def qG(c:g7):Sem [.one (.ptr),.one (.int .u64),.one (.int .u64)]:=fun x K Kp w=>c x.1 x.2.1 x.2.2.1 (fun r1 w'=>K (.slice r1.base r1.len r1.cap) w') w
theorem Z160(c0:g7):qG (T0.FW env c0)=Ab [(162,Ao (jL c0))] By Tryz.f160:=by kernel_rfl
theorem jN:AO 160 (qG (F.FW env)):=AG (AA YR AE) Tryz.func160 Tryz.call160 (Z160 _)
def jO(c:wQ):Sem [.one (.ptr),.one (.int .u64),.one (.int .u64),.one (.ptr)]:=fun x K Kp w=>c x.1 x.2.1 x.2.2.1 x.2.2.2.1 (fun r1 w'=>K (.int .i64 r1) w') w
theorem Z128(c0:wP)(c1:Jw)(c2:Y4):jO (T0.DG env c0 c1 c2)=Ab [(173,Ao (iU c0)),(137,Ao (Tk c1)),(55,Ao (wW c2))] By Tryz.f128:=by kernel_rfl
theorem YS:AO 128 (jO (F.DG env)):=AG (AA YK (AA K1 (AA Th AE))) Tryz.func128 Tryz.call128 (Z128 _ _ _)
def jP(c:HU):Sem [.one (.ptr),.one (.int .u64),.one (.int .u64)]:=fun x K Kp w=>c x.1 x.2.1 x.2.2.1 (fun r1 w'=>K (.int .i64 r1) w') w
theorem Z134(c0:wQ):jP (T0.Co env c0)=Ab [(128,Ao (jO c0))] By Tryz.f134:=by kernel_rfl
theorem YT:AO 134 (jP (F.Co env)):=AG (AA YS AE) Tryz.func134 Tryz.call134 (Z134 _)
def yG(c:HU):Sem [.one (.ptr),.one (.int .u64),.one (.int .u64)]:=fun x K Kp w=>c x.1 x.2.1 x.2.2.1 (fun r1 w'=>K (.int .i64 r1) w') w
theorem Z68(c0:wQ):yG (T0.CT env c0)=Ab [(128,Ao (jO c0))] By Tryz.f68:=by kernel_rfl
theorem W1:AO 68 (yG (F.CT env)):=AG (AA YS AE) Tryz.func68 Tryz.call68 (Z68 _)
def qH(c:Jw):Sem [.one (.ptr),.one (.int .u64),.one (.int .u64)]:=fun x K Kp w=>c x.1 x.2.1 x.2.2.1 (fun w'=>K (.tuple ⟨[]⟩) w') w
noncomputable def yH:Entry:=Ao (qH (F.DC env))
def qI:D6:={loops:=[(2,[(6,.one (.int .u64)),(20,.one (.int .i64))])],Ah:=[]}
theorem Z110(c0:g7)(c1:HU)(c2:HU):qH (T0.DC env c0 c1 c2)=Ab [(160,Ao (qG c0)),(134,Ao (jP c1)),(68,Ao (yG c2))] qI Tryz.f110:=by kernel_rfl
theorem jQ:AO 110 (qH (F.DC env)):=AG (AA jN (AA YT (AA W1 AE))) Tryz.func110 Tryz.call110 (Z110 _ _ _)
noncomputable def Tl:Code:=(Tryz.f109.body).getD .skip
def W2:D6:={loops:=[],Ah:=[]}
theorem jR(d: ∀(a0:(Option Addr)) (a1:Int) (a2:Int) (K:World->Prop) (w:World),Prop)(x:HM [.one (.ptr),.one (.ptr),.one (.ptr),.one (.ptr)])(K Kp:Value->World->Prop)(w:World):T0.BB env d x.1 x.2.1 x.2.2.1 x.2.2.2.1 (fun w'=>K (.tuple ⟨[]⟩) w') w=
 ev Tryz.prog (tabC [(110,fun args w K Kp=>unArgs [.one (.ptr),.one (.int .u64),.one (.int .u64)] args.toList fun x=>d x.1 x.2.1 x.2.2.1 (fun w'=>K (.tuple ⟨[]⟩) w') w)]) (ground Tryz.prog) W2 Tl (finQ Tryz.prog Tryz.f109 K Kp) (GU (mkArgs [.one (.ptr),.one (.ptr),.one (.ptr),.one (.ptr)] x)) w:=by kernel_rfl
theorem qJ(x:HM [.one (.ptr),.one (.ptr),.one (.ptr),.one (.ptr)])(K Kp:Value->World->Prop)(w:World):F.BB env x.1 x.2.1 x.2.2.1 x.2.2.2.1 (fun w'=>K (.tuple ⟨[]⟩) w') w=
 ev Tryz.prog (tabC [(110,yH)]) (ground Tryz.prog) W2 Tl (finQ Tryz.prog Tryz.f109 K Kp) (GU (mkArgs [.one (.ptr),.one (.ptr),.one (.ptr),.one (.ptr)] x)) w:=jR (F.DC env) x K Kp w
noncomputable def jS:Kt:=fun args d w K=>unArgs [.one (.ptr),.one (.ptr),.one (.ptr),.one (.ptr)] args.toList fun x=>F.BB env x.1 x.2.1 x.2.2.1 x.2.2.2.1 (fun w'=>K false w') w
theorem cY:HY Tryz.prog 109 jS:=
 Uu (T:=[(110,yH)]) (A:=W2) (fn:=Tryz.f109) (c:=Tl) (l:=[.one (.ptr),.one (.ptr),.one (.ptr),.one (.ptr)]) (F:=fun(x:HM [.one (.ptr),.one (.ptr),.one (.ptr),.one (.ptr)]) K w=>F.BB env x.1 x.2.1 x.2.2.1 x.2.2.2.1 K w) (AA jQ AE) mixed Tryz.func109 Tryz.call109 (by kernel_rfl) (by kernel_rfl) (by kernel_rfl) (fun x K w=>qJ x (fun _ w'=>K w') LU w)
noncomputable def C57:Entry:=fun args w K Kp=>unArgs [.one (.ptr),.one (.int .i64),.one (.int .u64)] args.toList fun x=>F.DD env x.1 x.2.1 x.2.2.1 (fun r1 d w'=>K (.tuple ⟨[.int .u64 r1,.int .i64 d]⟩) w') w
noncomputable def W3:Code:=(Tryz.f57.body).getD .skip
def cZ:D6:={loops:=[],Ah:=[(7,[(6,.one (.int .u64))])]}
theorem qK(y: ∀(a0:(Option Addr)) (a1:Int) (a2:Int) (K:Int->Bool->World->Prop) (w:World),Prop)(v: ∀(a0:(Option Addr)) (a1:Int) (K:Int->World->Prop) (w:World),Prop)(d: ∀(a0:(Option Addr)) (a1:Int) (K:Int->Int->Int->World->Prop) (w:World),Prop)(j: ∀(a0:(Option Addr)) (a1:Int) (a2:Int) (K:Int->World->Prop) (w:World),Prop)(x:HM [.one (.ptr),.one (.int .i64),.one (.int .u64)])(K:Value->World->Prop)(w:World):T0.DD env y v d j x.1 x.2.1 x.2.2.1 (fun r1 C w'=>K (.tuple ⟨[.int .u64 r1,.int .i64 C]⟩) w') w=
 evD Tryz.prog (tabC [(106,fun args w K Kp=>unArgs [.one (.ptr),.one (.int .i64),.one (.int .u64)] args.toList fun x=>y x.1 x.2.1 x.2.2.1 (fun r1 C w'=>K (.tuple ⟨[.int .u64 r1,.bool C]⟩) w') w),(107,fun args w K Kp=>unArgs [.one (.ptr),.one (.int .u64)] args.toList fun x=>v x.1 x.2.1 (fun r1 w'=>K (.int .i64 r1) w') w),(108,fun args w K Kp=>unArgs [.one (.ptr),.one (.int .u64)] args.toList fun x=>d x.1 x.2.1 (fun r1 C J w'=>K (.tuple ⟨[.int .u64 r1,.int .u64 C,.int .i64 J]⟩) w') w),(111,fun args w K Kp=>unArgs [.one (.ptr),.one (.int .u64),.one (.int .u64)] args.toList fun x=>j x.1 x.2.1 x.2.2.1 (fun r1 w'=>K (.int .i64 r1) w') w)]) (ground Tryz.prog) cZ (finQ Tryz.prog Tryz.f57 K LU) (finD Tryz.prog Tryz.f57 (tabD [(109,jS)]) K LU) W3 (GU (mkArgs [.one (.ptr),.one (.int .i64),.one (.int .u64)] x)) w:=by kernel_rfl
theorem yI(x:HM [.one (.ptr),.one (.int .i64),.one (.int .u64)])(K:Value->World->Prop)(w:World):F.DD env x.1 x.2.1 x.2.2.1 (fun r1 d w'=>K (.tuple ⟨[.int .u64 r1,.int .i64 d]⟩) w') w=
 evD Tryz.prog (tabC [(106,yD),(107,yE),(108,yC),(111,yF)]) (ground Tryz.prog) cZ (finQ Tryz.prog Tryz.f57 K LU) (finD Tryz.prog Tryz.f57 (tabD [(109,jS)]) K LU) W3 (GU (mkArgs [.one (.ptr),.one (.int .i64),.one (.int .u64)] x)) w:=qK (F.Db env) (F.DB env) (F.BJ env) (F.Cn env) x K w
theorem dA:HE Tryz.prog 57 C57:=
 Ku (T:=[(106,yD),(107,yE),(108,yC),(111,yF)]) (TD:=[(109,jS)]) (A:=cZ) (fn:=Tryz.f57) (c:=W3) (AA jB (AA jJ (AA YM (AA jM AE)))) (M1 cY Oc) mixed Tryz.func57 Tryz.call57 (by kernel_rfl) (by kernel_rfl) (by kernel_rfl) yI
def qL(c:Jx):Sem [.one (.ptr)]:=fun x K Kp w=>c x.1 (fun r1 w'=>K (.int .i64 r1) w') w
def qM:D6:={loops:=[],Ah:=[(6,[(3,.one (.ptr))])]}
theorem Z112:qL (F.IQ env)=Ab [] qM Tryz.f112:=by kernel_rfl
theorem jT:AO 112 (qL (F.IQ env)):=AG AE Tryz.func112 Tryz.call112 (Z112)
def wX(c:Zc):Sem [.one (.ptr)]:=fun x K Kp w=>c x.1 (fun r1 J Y y O v T C j d w'=>K (.agg ⟨[.int .u64 r1,.int .i64 J,.int .i64 Y,.int .i64 y,.bool O,.int .i64 v,.int .i64 T,.int .i64 C,.bool j,.bool d]⟩) w') w
theorem Z62:wX (F.Dd env)=Ab [] By Tryz.f62:=by kernel_rfl
theorem Tm:AO 62 (wX (F.Dd env)):=AG AE Tryz.func62 Tryz.call62 (Z62)
def jU(c:Jw):Sem [.one (.ptr),.one (.int .u64),.one (.int .u64)]:=fun x K Kp w=>c x.1 x.2.1 x.2.2.1 (fun w'=>K (.tuple ⟨[]⟩) w') w
def qN:D6:={loops:=[(2,[(6,.one (.sl)),(16,.one (.int .i64))]),(14,[]),(19,[(10,.one (.int .u64))])],Ah:=[(5,[(29,.one (.bool))]),(8,[(6,.one (.sl))]),(15,[(81,.one (.bool))]),(17,[(91,.one (.bool))])]}
theorem Z125:jU (F.Gg env)=Ab [] qN Tryz.f125:=by kernel_rfl
theorem YU:AO 125 (jU (F.Gg env)):=AG AE Tryz.func125 Tryz.call125 (Z125)
def G67(c:wR):Sem [.one (.ptr),.one (.int .u64),.one (.int .u64),.one (.int .i64)]:=fun x K Kp w=>c x.1 x.2.1 x.2.2.1 x.2.2.2.1 (fun r1 w'=>K (.int .i64 r1) w') w
def yJ:D6:={loops:=[],Ah:=[(2,[(20,.one (.bool))]),(4,[(28,.one (.bool))]),(14,[])]}
theorem Z67(c0:HU)(c1:Jw):G67 (T0.De env c0 c1)=Ab [(124,Ao (SA c0)),(125,Ao (jU c1))] yJ Tryz.f67:=by kernel_rfl
theorem dB:AO 67 (G67 (F.De env)):=AG (AA Jy (AA YU AE)) Tryz.func67 Tryz.call67 (Z67 _ _)
def G58(c:Sc):Sem [.one (.ptr),.one (.ptr)]:=fun x K Kp w=>c x.1 x.2.1 (fun r1 w'=>K (.int .i64 r1) w') w
theorem Z58(c0:Jx)(c1:Zc)(c2:wR):G58 (T0.Di env c0 c1 c2)=Ab [(112,Ao (qL c0)),(62,Ao (wX c1)),(67,Ao (G67 c2))] By Tryz.f58:=by kernel_rfl
theorem dC:AO 58 (G58 (F.Di env)):=AG (AA jT (AA Tm (AA dB AE))) Tryz.func58 Tryz.call58 (Z58 _ _ _)
def G21(c:g8):Sem [.one (.ptr),.one (.int .i64),.one (.int .u64),.one (.int .i64),.one (.bool)]:=fun x K Kp w=>c x.1 x.2.1 x.2.2.1 x.2.2.2.1 x.2.2.2.2.1 (fun r1 d w'=>K (.tuple ⟨[.int .i64 r1,.int .i64 d]⟩) w') w
theorem Z21(c0:nG)(c1:JS)(c2:Sc):G21 (T0.Ct env c0 c1 c2)=Ab [(56,Ao (G56 c0)),(57,fun args w K Kp=>unArgs [.one (.ptr),.one (.int .i64),.one (.int .u64)] args.toList fun x=>c1 x.1 x.2.1 x.2.2.1 (fun r1 d w'=>K (.tuple ⟨[.int .u64 r1,.int .i64 d]⟩) w') w),(58,Ao (G58 c2))] By Tryz.f21:=by kernel_rfl
theorem dD:AO 21 (G21 (F.Ct env)):=AG (AA pE (AA dA (AA dC AE))) Tryz.func21 Tryz.call21 (Z21 _ _ _)
def jV(c:Rx):Sem [.one (.int .u64),.one (.int .u64)]:=fun x K Kp w=>c x.1 x.2.1 (fun r1 w'=>K (.bool r1) w') w
theorem Z113:jV (F.E5 env)=Ab [] By Tryz.f113:=by kernel_rfl
theorem YV:AO 113 (jV (F.E5 env)):=AG AE Tryz.func113 Tryz.call113 (Z113)
def qO(c:Y6):Sem [.one (.int .u64)]:=fun x K Kp w=>c x.1 (fun r1 w'=>K (.bool r1) w') w
def qP:D6:={loops:=[(1,[(0,.one (.int .u64))])],Ah:=[]}
theorem Z164:qO (F.Gt env)=Ab [] qP Tryz.f164:=by kernel_rfl
theorem jW:AO 164 (qO (F.Gt env)):=AG AE Tryz.func164 Tryz.call164 (Z164)
def qQ(c:Y8):Sem [.one (.int .u32)]:=fun x K Kp w=>c x.1 (fun r1 w'=>K (.int .u32 r1) w') w
theorem Z165:qQ (F.F8 env)=Ab [] By Tryz.f165:=by kernel_rfl
theorem jX:AO 165 (qQ (F.F8 env)):=AG AE Tryz.func165 Tryz.call165 (Z165)
def qR(c:Y9):Sem [.one (.int .i64),.one (.int .i64)]:=fun x K Kp w=>c x.1 x.2.1 (fun r1 d w'=>K (.tuple ⟨[.slice r1.base r1.len r1.cap,.int .i64 d]⟩) w') w
def qS:D6:={loops:=[(6,[(6,.one (.sl)),(7,.one (.int .i64)),(8,.one (.int .i64))]),(16,[(9,.one (.int .i64))]),(23,[(11,.one (.int .i64))])],Ah:=[(2,[(41,.one (.bool))]),(15,[(7,.one (.int .i64))]),(20,[(99,.one (.bool))]),(29,[])]}
theorem Z114(c0:Y6)(c1:Y8):qR (T0.EO env c0 c1)=Ab [(164,Ao (qO c0)),(165,Ao (qQ c1))] qS Tryz.f114:=by kernel_rfl
theorem jY:AO 114 (qR (F.EO env)):=AG (AA jW (AA jX AE)) Tryz.func114 Tryz.call114 (Z114 _ _)
def G59(c:nG):Sem [.one (.int .u64),.one (.int .u64),.one (.int .i64),.one (.bool)]:=fun x K Kp w=>c x.1 x.2.1 x.2.2.1 x.2.2.2.1 (fun r1 d w'=>K (.tuple ⟨[.pointer r1,.int .i64 d]⟩) w') w
def yK:D6:={loops:=[],Ah:=[(2,[(24,.one (.bool))]),(10,[])]}
theorem Z59(c0:Rx)(c1:Y9):G59 (T0.EP env c0 c1)=Ab [(113,Ao (jV c0)),(114,Ao (qR c1))] yK Tryz.f59:=by kernel_rfl
theorem qT:AO 59 (G59 (F.EP env)):=AG (AA YV (AA jY AE)) Tryz.func59 Tryz.call59 (Z59 _ _)
def jZ(c:Sb):Sem [.one (.ptr)]:=fun x K Kp w=>c x.1 (fun r1 w'=>K (.bool r1) w') w
def qU:D6:={loops:=[(2,[(3,.one (.int .i64))])],Ah:=[]}
theorem Z115:jZ (F.C1 env)=Ab [] qU Tryz.f115:=by kernel_rfl
theorem YW:AO 115 (jZ (F.C1 env)):=AG AE Tryz.func115 Tryz.call115 (Z115)
def j5(c:Kl):Sem [.one (.ptr),.one (.int .u64)]:=fun x K Kp w=>c x.1 x.2.1 (fun r1 d w'=>K (.tuple ⟨[.int .u64 r1,.bool d]⟩) w') w
def qV:D6:={loops:=[(3,[(6,.one (.int .u64)),(7,.one (.int .u64)),(8,.one (.int .i64))]),(9,[(6,.one (.int .u64)),(9,.one (.int .u64))])],Ah:=[(6,[(37,.one (.bool))]),(7,[(6,.one (.int .u64))]),(14,[(6,.one (.int .u64))])]}
theorem Z168:j5 (F.Du env)=Ab [] qV Tryz.f168:=by kernel_rfl
theorem YX:AO 168 (j5 (F.Du env)):=AG AE Tryz.func168 Tryz.call168 (Z168)
def qX(c:iK):Sem [.one (.ptr)]:=fun x K Kp w=>c x.1 (fun r1 d w'=>K (.tuple ⟨[.int .u64 r1,.bool d]⟩) w') w
theorem Z166(c0:Kl):qX (T0.Bn env c0)=Ab [(168,Ao (j5 c0))] By Tryz.f166:=by kernel_rfl
theorem j6:AO 166 (qX (F.Bn env)):=AG (AA YX AE) Tryz.func166 Tryz.call166 (Z166 _)
def Zd(c:Kl):Sem [.one (.ptr),.one (.int .u64)]:=fun x K Kp w=>c x.1 x.2.1 (fun r1 d w'=>K (.tuple ⟨[.int .i64 r1,.bool d]⟩) w') w
def qY:D6:={loops:=[(2,[(6,.one (.int .i64))])],Ah:=[(4,[(6,.one (.int .i64))])]}
theorem Z146:Zd (F.Cc env)=Ab [] qY Tryz.f146:=by kernel_rfl
theorem P6:AO 146 (Zd (F.Cc env)):=AG AE Tryz.func146 Tryz.call146 (Z146)
def yL(c:nH):Sem [.one (.ptr),.one (.int .u64)]:=fun x K Kp w=>c x.1 x.2.1 (fun r1 d j w'=>K (.tuple ⟨[.bool r1,.bool d,.bool j]⟩) w') w
theorem Z90(c0:Kl):yL (T0.BH env c0)=Ab [(146,Ao (Zd c0))] By Tryz.f90:=by kernel_rfl
theorem W4:AO 90 (yL (F.BH env)):=AG (AA P6 AE) Tryz.func90 Tryz.call90 (Z90 _)
def j7(c:bD):Sem [.one (.ptr),.one (.int .u64),.one (.int .u64)]:=fun x K Kp w=>c x.1 x.2.1 x.2.2.1 (fun r1 w'=>K (.bool r1) w') w
def qZ:D6:={loops:=[(5,[(7,.one (.int .i64)),(9,.one (.int .u64))])],Ah:=[(2,[(21,.one (.bool))]),(8,[(58,.one (.bool))])]}
theorem Z130(c0:Kl):j7 (T0.B2 env c0)=Ab [(146,Ao (Zd c0))] qZ Tryz.f130:=by kernel_rfl
theorem YY:AO 130 (j7 (F.B2 env)):=AG (AA P6 AE) Tryz.func130 Tryz.call130 (Z130 _)
def j8(c:JS):Sem [.one (.ptr),.one (.int .u64),.one (.int .u64)]:=fun x K Kp w=>c x.1 x.2.1 x.2.2.1 (fun r1 d w'=>K (.tuple ⟨[.int .u64 r1,.int .u64 d]⟩) w') w
def rA:D6:={loops:=[(3,[(8,.one (.int .u64)),(9,.one (.int .u64)),(10,.one (.int .u64))])],Ah:=[(8,[(8,.one (.int .u64))])]}
theorem Z131(c0:nH):j8 (T0.Bo env c0)=Ab [(90,Ao (yL c0))] rA Tryz.f131:=by kernel_rfl
theorem YZ:AO 131 (j8 (F.Bo env)):=AG (AA W4 AE) Tryz.func131 Tryz.call131 (Z131 _)
end Go.Sh

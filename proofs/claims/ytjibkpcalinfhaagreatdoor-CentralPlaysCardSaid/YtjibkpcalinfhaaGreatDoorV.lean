/- Each shallow form is what the code of its function comes to, piece 3. No further condition. -/
import Derived.Test.YtjibkpcalinfhaaGreatDoorU
import Derived.Test.YtjibkpcalinfhaaGreatDoorProg
import Derived.KernelRfl
set_option linter.all false
set_option maxRecDepth 100000
set_option maxHeartbeats 4000000
namespace Go.Sh
open Go.Proofs Go.Proofs.Tryz
noncomputable section
noncomputable def C35:Entry:=λargs w K Kp=>unArgs [.one (.ptr),.one (.int .i64),.one (.bool)] args.toList λx=>F.B5 env x.1 x.2.1 x.2.2.1 (λr1 r2 d w'=>K (.tuple ⟨[.int .i64 r1,.bool r2,.int .i64 d]⟩) w') w
noncomputable def Zl:Code:=(Tryz.f35.body).getD .skip
def kL:Sm:={loops:=[],Q7:=[(13,[(59,.one (.bool))]),(16,[])]}
def uS(v: ∀(a0:(Option Addr)) (a1:Int) (K:(Option Addr)->Int->Int->Int->Int->Bool->Int->Int->Int->Bool->Bool->Int->World->Prop) (w:World),Prop)(d: ∀(a0:(Option Addr)) (a1:(Option Addr)) (aH:Int) (aI:Int) (aJ:Int) (aK:Int) (aL:Bool) (aM:Int) (aN:Int) (aO:Int) (aP:Bool) (aQ:Bool) (K:World->Prop) (Kp:Value->World->Prop) (w:World),Prop)(C: ∀(a0:(Option Addr)) (K:AX->Int->World->Prop) (w:World),Prop)(J: ∀(a0:(Option Addr)) (K:Int->Int->Int->Int->Bool->Int->Int->Int->Bool->Bool->World->Prop) (w:World),Prop)(y: ∀(a0:(Option Addr)) (a1:Int) (K:Int->World->Prop) (w:World),Prop)(j: ∀(a0:(Option Addr)) (a1:Int) (a2:Bool) (K:Int->World->Prop) (w:World),Prop)(x:I0 [.one (.ptr),.one (.int .i64),.one (.bool)])(K:Value->World->Prop)(w:World):T0.B5 env v d C J y j x.1 x.2.1 x.2.2.1 (λr1 r2 T w'=>K (.tuple ⟨[.int .i64 r1,.bool r2,.int .i64 T]⟩) w') w=
 evD Tryz.prog (tabC [(65,λargs w K Kp=>unArgs [.one (.ptr),.one (.int .i64)] args.toList λx=>v x.1 x.2.1 (λr1 r2 T r4 r5 r6 r7 r8 r9 O Y aA w'=>K (.tuple ⟨[.pointer r1,.agg ⟨[.int .u64 r2,.int .i64 T,.int .i64 r4,.int .i64 r5,.bool r6,.int .i64 r7,.int .i64 r8,.int .i64 r9,.bool O,.bool Y]⟩,.int .i64 aA]⟩) w') w),(79,λargs w K Kp=>unArgs [.one (.ptr),.one (.ptr),.agg [.int .u64,.int .i64,.int .i64,.int .i64,.bool,.int .i64,.int .i64,.int .i64,.bool,.bool]] args.toList λx=>d x.1 x.2.1 x.2.2.1.1 x.2.2.1.2.1 x.2.2.1.2.2.1 x.2.2.1.2.2.2.1 x.2.2.1.2.2.2.2.1 x.2.2.1.2.2.2.2.2.1 x.2.2.1.2.2.2.2.2.2.1 x.2.2.1.2.2.2.2.2.2.2.1 x.2.2.1.2.2.2.2.2.2.2.2.1 x.2.2.1.2.2.2.2.2.2.2.2.2.1 (λw'=>K (.tuple ⟨[]⟩) w') Kp w),(80,λargs w K Kp=>unArgs [.one (.ptr)] args.toList λx=>C x.1 (λr1 r2 w'=>K (.tuple ⟨[.slice r1.base r1.len r1.cap,.int .i64 r2]⟩) w') w),(37,λargs w K Kp=>unArgs [.one (.ptr)] args.toList λx=>J x.1 (λr1 r2 T r4 r5 r6 r7 r8 r9 O w'=>K (.agg ⟨[.int .u64 r1,.int .i64 r2,.int .i64 T,.int .i64 r4,.bool r5,.int .i64 r6,.int .i64 r7,.int .i64 r8,.bool r9,.bool O]⟩) w') w),(81,λargs w K Kp=>unArgs [.one (.ptr),.one (.int .i64)] args.toList λx=>y x.1 x.2.1 (λr1 w'=>K (.int .i64 r1) w') w),(58,λargs w K Kp=>unArgs [.one (.ptr),.one (.int .i64),.one (.bool)] args.toList λx=>j x.1 x.2.1 x.2.2.1 (λr1 w'=>K (.int .i64 r1) w') w)]) (ground Tryz.prog) kL (finQ Tryz.prog Tryz.f35 K Kk) (finD Tryz.prog Tryz.f35 (tabD [(78,D78)]) K Kk) Zl (HY (mkArgs [.one (.ptr),.one (.int .i64),.one (.bool)] x)) w:=by kernel_rfl
def yP(x:I0 [.one (.ptr),.one (.int .i64),.one (.bool)])(K:Value->World->Prop)(w:World):F.B5 env x.1 x.2.1 x.2.2.1 (λr1 r2 d w'=>K (.tuple ⟨[.int .i64 r1,.bool r2,.int .i64 d]⟩) w') w=
 evD Tryz.prog (tabC [(65,C65),(79,C79),(80,C80),(37,C37),(81,C81),(58,C58)]) (ground Tryz.prog) kL (finQ Tryz.prog Tryz.f35 K Kk) (finD Tryz.prog Tryz.f35 (tabD [(78,D78)]) K Kk) Zl (HY (mkArgs [.one (.ptr),.one (.int .i64),.one (.bool)] x)) w:=uS (F.Bj env) (F.BF env) (F.C7 env) (F.B7 env) (F.C9 env) (F.B4 env) x K w
def uT:Hr Tryz.prog 35 C35:=
 PH (T:=[(65,C65),(79,C79),(80,C80),(37,C37),(81,C81),(58,C58)]) (TD:=[(78,D78)]) (A:=kL) (fn:=Tryz.f35) (c:=Zl) (DE uL (DE uN (DE uO (DE uK (DE uR (DE uM Lk)))))) (Sq oX Ur) mixed Tryz.func35 Tryz.call35 (by kernel_rfl) (by kernel_rfl) (by kernel_rfl) yP
def g74(c:Y60):Sem [.one (.ptr),.agg [.int .i64,.int .i64,.int .i64,.int .i64,.int .i64,.bool]]:=λx K Kp w=>c x.1 x.2.1.1 x.2.1.2.1 x.2.1.2.2.1 x.2.1.2.2.2.1 x.2.1.2.2.2.2.1 x.2.1.2.2.2.2.2.1 (λr1 w'=>K (.bool r1) w') w
def xQ:Slot:=⟨35,_,λc=>TP (g34 c),F.B5 env,uT⟩
def s8:=mk 8 g74 (F.Cy env) [FT,UW,Zh,ZI,Ux,cM,Mr,Oe,V2,PW,Of,IQ,nR,s31,V0,Pa,Uw,xQ,PZ] (T0.Cy env) func8 call8 ⟨[(19,[(14,.one (.int .i64))]),(26,[]),(32,[(20,.one (.sl)),(21,.one (.int .i64))]),(36,[(20,.one (.sl)),(23,.one (.int .i64))])],[(6,[(75,.one (.bool))]),(17,[(145,.one (.bool))]),(24,[(172,.one (.bool))]),(39,[(259,.one (.bool))]),(46,[(318,.one (.bool))])]⟩
def xU:=mk 38 g52 (F.Ch env) [Uv] (T0.Ch env) func38 call38
def s39:=GV 39 g5 (F.En env) func39 call39
def g75(c:Y9):Sem [.one (.int .u32)]:=λx K Kp w=>c x.1 (λr1 w'=>K (.int .i64 r1) w') w
def s170:=GV 170 g75 (F.Rt env) func170 call170 ⟨[],[(4,[(0,.one (.int .u32)),(2,.one (.int .i64))]),(7,[(0,.one (.int .u32)),(2,.one (.int .i64))])]⟩
def s171:=GV 171 g57 (F.Ik env) func171 call171 ⟨[],[(4,[(0,.one (.int .u64)),(2,.one (.int .i64))]),(7,[(0,.one (.int .u64)),(2,.one (.int .i64))]),(10,[(0,.one (.int .u64)),(2,.one (.int .i64))])]⟩
def yQ:=mk 125 g57 (F.Es env) [s171,s170] (λc0 _=>T0.Es env c0) func125 call125
def iN(c:tA):Sem [.one (.sl),.one (.int .i64),.one (.int .i64),.one (.any)]:=λx K Kp w=>c x.1 x.2.1 x.2.2.1 x.2.2.2.1 (λw'=>K (.tuple ⟨[]⟩) w') w
def uC:=GV 162 iN (F.Bk env) func162 call162 ⟨[(1,[(8,.one (.int .i64))]),(4,[(9,.one (.int .i64))])],[]⟩
noncomputable def yR:Entry:=TP (iN (F.Bk env))
def oY:GL 162 (iN (F.Bk env)):=uC.ok
def g77(c:Y62):Sem [.one (.sl),.one (.int .i64),.one (.int .i64),.one (.int .i64),.one (.any)]:=λx K Kp w=>c x.1 x.2.1 x.2.2.1 x.2.2.2.1 x.2.2.2.2.1 (λw'=>K (.tuple ⟨[]⟩) w') w
def s193:=GV 193 g77 (F.EK env) func193 call193 ⟨[(1,[(10,.one (.int .i64))])],[(4,[(40,.one (.bool))]),(5,[(11,.one (.int .i64))])]⟩
def s163:=mk 163 iN (F.Aw env) [s193] (T0.Aw env) func163 call163 ⟨[(4,[(11,.one (.int .i64))]),(8,[(12,.one (.int .i64))])],[]⟩
noncomputable def yS:Entry:=TP (iN (F.Aw env))
def oZ:GL 163 (iN (F.Aw env)):=s163.ok
def g78(c:Y9):Sem [.one (.int .i64)]:=λx K Kp w=>c x.1 (λr1 w'=>K (.int .u64 r1) w') w
def s194:=mk 194 g78 (F.Ci env) [yQ] (T0.Ci env) func194 call194
def g79(c:Rq):Sem [.one (.ptr)]:=λx K Kp w=>c x.1 (λr1 w'=>K (.int .u64 r1) w') w
def s195:=GV 195 g79 (F.GK env) func195 call195
def uD:=mk 164 iN (F.Ak env) [s194,s195] (T0.Ak env) func164 call164 ⟨[(5,[(11,.one (.int .i64))])],[(10,[(12,.one (.int .i64))])]⟩
noncomputable def yT:Entry:=TP (iN (F.Ak env))
def o5:GL 164 (iN (F.Ak env)):=uD.ok
def g80(c:Y63):Sem [.one (.sl),.one (.int .i64),.one (.int .i64),.one (.ptr),.one (.any)]:=λx K Kp w=>c x.1 x.2.1 x.2.2.1 x.2.2.2.1 x.2.2.2.2.1 (λr1 r2 w'=>K (.tuple ⟨[.int .i64 r1,.int .i64 r2]⟩) w') w
def s216:=GV 216 g80 (F.Ej env) func216 call216
def g81(c:xO):Sem [.one (.sl),.one (.int .i64),.one (.int .i64),.one (.int .i64),.one (.ptr),.one (.any)]:=λx K Kp w=>c x.1 x.2.1 x.2.2.1 x.2.2.2.1 x.2.2.2.2.1 x.2.2.2.2.2.1 (λr1 w'=>K (.int .i64 r1) w') w
def yU:=mk 197 g81 (F.BR env) [s216] (T0.BR env) func197 call197
def g82(c:Y65):Sem [.one (.sl),.one (.int .i64),.one (.ptr),.one (.any)]:=λx K Kp w=>c x.1 x.2.1 x.2.2.1 x.2.2.2.1 (λr1 w'=>K (.int .i64 r1) w') w
def s196:=mk 196 g82 (F.BA env) [yU] (T0.BA env) func196 call196
def g83(c:Y66):Sem [.one (.sl),.one (.int .i64),.one (.int .i64),.one (.any)]:=λx K Kp w=>c x.1 x.2.1 x.2.2.1 x.2.2.2.1 (λr1 r2 w'=>K (.tuple ⟨[.int .i64 r1,.int .i64 r2]⟩) w') w
def tO:=mk 165 g83 (F.An env) [s196,yU] (T0.An env) func165 call165 ⟨[],[(11,[(12,.one (.int .i64)),(13,.one (.int .i64)),(14,.one (.int .i64))]),(12,[(13,.one (.int .i64))])]⟩
noncomputable def yV:Entry:=TP (g83 (F.An env))
def o6:GL 165 (g83 (F.An env)):=tO.ok
def uE:=GV 166 iN (F.Br env) func166 call166 ⟨[(2,[(8,.one (.int .i64)),(9,.one (.int .i64))])],[]⟩
noncomputable def yW:Entry:=TP (iN (F.Br env))
def o7:GL 166 (iN (F.Br env)):=uE.ok
def g84(c:Y67):Sem [.one (.sl),.one (.int .i64),.one (.int .i64),.one (.any)]:=λx K Kp w=>c x.1 x.2.1 x.2.2.1 x.2.2.2.1 (λr1 w'=>K (.bool r1) w') w
def tP:=GV 167 g84 (F.A5 env) func167 call167 ⟨[(3,[(9,.one (.int .i64)),(10,.one (.int .i64))]),(5,[(9,.one (.int .i64))]),(14,[(11,.one (.int .i64))]),(20,[(12,.one (.int .i64))])],[(7,[(9,.one (.int .i64))]),(18,[])]⟩
noncomputable def yX:Entry:=TP (g84 (F.A5 env))
def o8:GL 167 (g84 (F.A5 env)):=tP.ok
def g85(c:Y68):Sem [.one (.sl),.one (.int .i64),.one (.int .i64),.one (.int .i64),.one (.any)]:=λx K Kp w=>c x.1 x.2.1 x.2.2.1 x.2.2.2.1 x.2.2.2.2.1 (λr1 w'=>K (.int .i64 r1) w') w
def s168:=GV 168 g85 (F.Bb env) func168 call168 ⟨[(3,[(11,.one (.int .i64)),(12,.one (.int .i64))]),(5,[(12,.one (.int .i64))])],[(5,[(11,.one (.int .i64))]),(7,[(12,.one (.int .i64))])]⟩
noncomputable def yY:Entry:=TP (g85 (F.Bb env))
def o9:GL 168 (g85 (F.Bb env)):=s168.ok
def g86(c:Y69):Sem [.one (.sl),.one (.int .i64),.one (.int .i64),.one (.int .i64),.one (.any)]:=λx K Kp w=>c x.1 x.2.1 x.2.2.1 x.2.2.2.1 x.2.2.2.2.1 (λr1 r2 w'=>K (.tuple ⟨[.int .i64 r1,.bool r2]⟩) w') w
def tQ:=GV 169 g86 (F.CK env) func169 call169 ⟨[(3,[(12,.one (.int .i64))]),(5,[(13,.one (.int .i64))]),(13,[(12,.one (.int .i64)),(13,.one (.int .i64))]),(15,[(13,.one (.int .i64))])],[(5,[(12,.one (.int .i64))]),(7,[(13,.one (.int .i64))]),(15,[(12,.one (.int .i64))]),(17,[(13,.one (.int .i64))])]⟩
noncomputable def yZ:Entry:=TP (g86 (F.CK env))
def pA:GL 169 (g86 (F.CK env)):=tQ.ok
noncomputable def cS(n:Nat):Entry:=λargs w K Kp=>unArgs [.one (.sl),.one (.int .i64),.one (.int .i64),.one (.int .i64),.one (.any)] args.toList λx=>F.slices_pdqsortCmpFunc_int_ env n x.1 x.2.1 x.2.2.1 x.2.2.2.1 x.2.2.2.2.1 (λw'=>K (.tuple ⟨[]⟩) w') w
noncomputable def y7:Entry:=λargs w K Kp=> ∃n,cS n args w K Kp
noncomputable def cT:Code:=(Tryz.f124.body).getD .skip
def kM:Sm:={loops:=[(2,[(1,.one (.int .i64)),(2,.one (.int .i64)),(3,.one (.int .i64)),(10,.one (.bool)),(11,.one (.bool))])],Q7:=[(10,[(3,.one (.int .i64))]),(15,[(13,.one (.int .i64)),(14,.one (.int .i64))]),(16,[(75,.one (.bool))]),(17,[]),(18,[(97,.one (.bool))])]}
def uU(n:Nat)(x:I0 [.one (.sl),.one (.int .i64),.one (.int .i64),.one (.int .i64),.one (.any)])(K Kp:Value->World->Prop)(w:World):F.slices_pdqsortCmpFunc_int_ env (n+1) x.1 x.2.1 x.2.2.1 x.2.2.2.1 x.2.2.2.2.1 (λw'=>K (.tuple ⟨[]⟩) w') w=
 ev Tryz.prog (tabC [(162,yR),(163,yS),(164,yT),(165,yV),(166,yW),(167,yX),(168,yY),(169,yZ),(124,cS n)]) (ground Tryz.prog) kM cT (finQ Tryz.prog Tryz.f124 K Kp) (HY (mkArgs [.one (.sl),.one (.int .i64),.one (.int .i64),.one (.int .i64),.one (.any)] x)) w:=by kernel_rfl
def kN(n:Nat):Hr Tryz.prog 124 (cS n):=by
 induction n with
 | zero=>intro args w K Kp h;obtain⟨x,_,h⟩:=I1 h;exact h.elim
 | succ n ih=>exact Q8 (T:=[(162,yR),(163,yS),(164,yT),(165,yV),(166,yW),(167,yX),(168,yY),(169,yZ),(124,cS n)]) (A:=kM) (fn:=Tryz.f124) (c:=cT) (DE oY (DE oZ (DE o5 (DE o6 (DE o7 (DE o8 (DE o9 (DE pA (DE ih Lk))))))))) mixed Tryz.func124 Tryz.call124 (by kernel_rfl) (by kernel_rfl) (by kernel_rfl) (uU n)
def pB:Hr Tryz.prog 124 y7:=eP kN
def g87(c:Y70):Sem [.one (.sl),.one (.any)]:=λx K Kp w=>c x.1 x.2.1 (λw'=>K (.tuple ⟨[]⟩) w') w
def s124:Slot:=⟨124,Unit,λ_=>y7,(),pB⟩
def s87:=mk 87 g87 (F.Bg env) [yQ,s124] (λc0 _=>T0.Bg env c0) func87 call87
def g88(c:tB):Sem [.one (.ptr)]:=λx K Kp w=>c x.1 (λr1 w'=>K (.slice r1.base r1.len r1.cap) w') w
def ZJ:=mk 40 g88 (F.EF env) [s87] (T0.EF env) func40 call40 ⟨[(3,[(3,.one (.sl))])],[(4,[(11,.one (.bool))])]⟩
def s9:=mk 9 wV (F.Cj env) [cM,Mr,Oe,ZH,xU,s39,ZJ,uF,XW] (T0.Cj env) func9 call9 ⟨[(2,[(3,.one (.int .i64))])],[(6,[(80,.one (.bool))])]⟩
def g89(c:Y72):Sem []:=λx K Kp w=>c (λr1 w'=>K (.bool r1) w') w
def D6:=mk 10 g89 (F.Dh env) [s4,FT,ZI] (T0.Dh env) func10 call10
def g90(c:Y73):Sem [.agg [.sl,.sl,.sl],.one (.sl)]:=λx K Kp w=>c x.1.1 x.1.2.1 x.1.2.2.1 x.2.1 (λr1 w'=>K (.bool r1) w') w
def s3:=mk 3 g90 (F.BD env) [s4,s7,s6,s5,s8,s9,D6] (T0.BD env) func3 call3 ⟨[(8,[(7,.one (.int .i64))])],[(2,[(28,.one (.bool))]),(11,[(64,.one (.bool))])]⟩
def y8:GL 3 (g90 (F.BD env)):=s3.ok
def s92:=mk 92 g14 (F.EW env) [oP] (T0.EW env) func92 call92
def rW(c:oJ):Sem [.one (.ptr),.agg [.int .i64,.int .i64,.bool]]:=λx K Kp w=>c x.1 x.2.1.1 x.2.1.2.1 x.2.1.2.2.1 (λr1 r2 d w'=>K (.tuple ⟨[.int .i64 r1,.bool r2,.int .i64 d]⟩) w') w
def xV:=mk 50 rW (F.CF env) [s39,s92] (T0.CF env) func50 call50
def kO:GL 50 (rW (F.CF env)):=xV.ok
def XU:=GV 131 wV (F.JU env) func131 call131
def g92(c:xP):Sem [.one (.ptr),.agg [.int .i64,.int .i64,.bool],.one (.bool)]:=λx K Kp w=>c x.1 x.2.1.1 x.2.1.2.1 x.2.1.2.2.1 x.2.2.1 (λr1 r2 d w'=>K (.tuple ⟨[.int .i64 r1,.bool r2,.int .i64 d]⟩) w') w
def Rr:=mk 93 g92 (F.Ay env) [s39,s92,xQ,Mr,Oe,XU] (T0.Ay env) func93 call93 ⟨[(1,[])],[(9,[(61,.one (.bool))])]⟩
def QR:=mk 51 rW (F.BP env) [Rr] (T0.BP env) func51 call51
def kQ:GL 51 (rW (F.BP env)):=QR.ok
def ZF:=mk 52 rW (F.B2 env) [Rr] (T0.B2 env) func52 call52
def kR:GL 52 (rW (F.B2 env)):=ZF.ok
def s132:=mk 132 g36 (F.KE env) [xR] (T0.KE env) func132 call132 ⟨[],[(3,[(56,.one (.bool))])]⟩
def g93(c:Y7):Sem [.one (.int .i64)]:=λx K Kp w=>c x.1 (λr1 w'=>K (.bool r1) w') w
def s198:=GV 198 g93 (F.Pb env) func198 call198
def y9:=GV 199 wV (F.Ft env) func199 call199
def zA:=GV 221 g88 (F.G8 env) func221 call221
def zB:=mk 205 g38 (F.DA env) [zA] (T0.DA env) func205 call205 ⟨[(4,[(15,.one (.int .i64))])],[]⟩
def zC:=mk 206 g40 (F.DB env) [yM,V1,uQ,s90] (T0.DB env) func206 call206
def s200:=mk 200 g41 (F.Di env) [zB,y9,zC] (T0.Di env) func200 call200 ⟨[(8,[(28,.one (.int .u64))])],[]⟩
def g94(c:Y76):Sem [.one (.int .u64),.one (.int .i64)]:=λx K Kp w=>c x.1 x.2.1 (λr1 r2 w'=>K (.tuple ⟨[.int .i64 r1,.bool r2]⟩) w') w
def s217:=mk 217 g94 (F.Gh env) [kC] (T0.Gh env) func217 call217 ⟨[(2,[(0,.one (.int .u64)),(1,.one (.int .i64)),(6,.one (.int .i64))])],[]⟩
def s218:=GV 218 g57 (F.F2 env) func218 call218
def s201:=mk 201 g42 (F.C3 env) [s217,s218] (T0.C3 env) func201 call201 ⟨[],[(2,[(16,.one (.bool))])]⟩
def fB:=mk 174 g43 (F.BK env) [zB,zC] (T0.BK env) func174 call174
noncomputable def zD:Entry:=TP (g43 (F.BK env))
def pC:GL 174 (g43 (F.BK env)):=fB.ok
def g95(c:Ws):Sem [.one (.ptr),.one (.int .i64),.one (.int .u64)]:=λx K Kp w=>c x.1 x.2.1 x.2.2.1 (λr1 r2 w'=>K (.tuple ⟨[.int .u64 r1,.bool r2]⟩) w') w
def s172:=mk 172 g95 (F.DU env) [s198,y9,s200,s201,fB] (T0.DU env) func172 call172 ⟨[],[(2,[(20,.one (.bool))]),(5,[]),(8,[])]⟩
noncomputable def zE:Entry:=TP (g95 (F.DU env))
def pD:GL 172 (g95 (F.DU env)):=s172.ok
def g96(c:Y77):Sem [.one (.ptr)]:=λx K Kp w=>c x.1 (λr1 r2 w'=>K (.tuple ⟨[.bool r1,.bool r2]⟩) w') w
def zF:=GV 210 g96 (F.HA env) func210 call210
def zG:=GV 212 g39 (F.EX env) func212 call212
def zH:=mk 219 g27 (F.EP env) [V1] (T0.EP env) func219 call219
def s220:=mk 220 g44 (F.Ds env) [zA,zH] (T0.Ds env) func220 call220 ⟨[(5,[(8,.one (.int .u64)),(24,.one (.int .i64))])],[(9,[]),(11,[(8,.one (.int .u64))])]⟩
def s202:=mk 202 g40 (F.EG env) [zF,zG,zH,s220,kI] (T0.EG env) func202 call202 ⟨[(9,[(10,.one (.int .u64)),(11,.one (.bool)),(52,.one (.int .i64))])],[(2,[(24,.one (.bool))]),(8,[(11,.one (.bool))])]⟩
def s203:=mk 203 rU (F.DV env) [V1,kI,s90] (T0.DV env) func203 call203 ⟨[],[(2,[(24,.one (.bool))])]⟩
def s204:=mk 204 uP (F.E8 env) [kI] (T0.E8 env) func204 call204
def s173:=mk 173 oU (F.DC env) [s202,s203,s204] (T0.DC env) func173 call173
noncomputable def zI:Entry:=TP (oU (F.DC env))
def pE:GL 173 (oU (F.DC env)):=s173.ok
def s209:=GV 209 g35 (F.MK env) func209 call209
def zJ:=mk 211 g66 (F.B9 env) [oW] (T0.B9 env) func211 call211 ⟨[(3,[(7,.one (.sl)),(8,.one (.int .i64))])],[]⟩
def s177:=mk 177 rU (F.Cn env) [s209,V1,zF,zJ,zG,uQ,kI] (T0.Cn env) func177 call177 ⟨[(12,[(56,.one (.int .i64))]),(15,[(12,.one (.int .u64))])],[(22,[])]⟩
noncomputable def zK:Entry:=TP (rU (F.Cn env))
def pF:GL 177 (rU (F.Cn env)):=s177.ok
def s207:=mk 207 g66 (F.Fu env) [zJ] (T0.Fu env) func207 call207
def s208:=mk 208 rU (F.DW env) [yN] (T0.DW env) func208 call208
def s176:=mk 176 uP (F.DD env) [s207,s208,oK] (T0.DD env) func176 call176 ⟨[(2,[(6,.one (.int .u64)),(20,.one (.int .i64))])],[]⟩
noncomputable def zL:Entry:=TP (uP (F.DD env))
def pG:GL 176 (uP (F.DD env)):=s176.ok
noncomputable def V4:Code:=(Tryz.f175.body).getD .skip
def Zm:Sm:={loops:=[],Q7:=[]}
def pH(d: ∀(a0:(Option Addr)) (a1:Int) (a2:Int) (K:World->Prop) (w:World),Prop)(x:I0 [.one (.ptr),.one (.ptr),.one (.ptr),.one (.ptr)])(K Kp:Value->World->Prop)(w:World):T0.BH env d x.1 x.2.1 x.2.2.1 x.2.2.2.1 (λw'=>K (.tuple ⟨[]⟩) w') w=
 ev Tryz.prog (tabC [(176,λargs w K Kp=>unArgs [.one (.ptr),.one (.int .u64),.one (.int .u64)] args.toList λx=>d x.1 x.2.1 x.2.2.1 (λw'=>K (.tuple ⟨[]⟩) w') w)]) (ground Tryz.prog) Zm V4 (finQ Tryz.prog Tryz.f175 K Kp) (HY (mkArgs [.one (.ptr),.one (.ptr),.one (.ptr),.one (.ptr)] x)) w:=by kernel_rfl
def uV(x:I0 [.one (.ptr),.one (.ptr),.one (.ptr),.one (.ptr)])(K Kp:Value->World->Prop)(w:World):F.BH env x.1 x.2.1 x.2.2.1 x.2.2.2.1 (λw'=>K (.tuple ⟨[]⟩) w') w=
 ev Tryz.prog (tabC [(176,zL)]) (ground Tryz.prog) Zm V4 (finQ Tryz.prog Tryz.f175 K Kp) (HY (mkArgs [.one (.ptr),.one (.ptr),.one (.ptr),.one (.ptr)] x)) w:=pH (F.DD env) x K Kp w
noncomputable def pI:L9:=λargs d w K=>unArgs [.one (.ptr),.one (.ptr),.one (.ptr),.one (.ptr)] args.toList λx=>F.BH env x.1 x.2.1 x.2.2.1 x.2.2.2.1 (λw'=>K false w') w
def kS:IM Tryz.prog 175 pI:=
 XJ (T:=[(176,zL)]) (A:=Zm) (fn:=Tryz.f175) (c:=V4) (l:=[.one (.ptr),.one (.ptr),.one (.ptr),.one (.ptr)]) (F:=λ(x:I0 [.one (.ptr),.one (.ptr),.one (.ptr),.one (.ptr)]) K w=>F.BH env x.1 x.2.1 x.2.2.1 x.2.2.2.1 K w) (DE pG Lk) mixed Tryz.func175 Tryz.call175 (by kernel_rfl) (by kernel_rfl) (by kernel_rfl) (λx K w=>uV x (λ_ w'=>K w') Kk w)
noncomputable def C133:Entry:=λargs w K Kp=>unArgs [.one (.ptr),.one (.int .i64),.one (.int .u64)] args.toList λx=>F.DX env x.1 x.2.1 x.2.2.1 (λr1 r2 w'=>K (.tuple ⟨[.int .u64 r1,.int .i64 r2]⟩) w') w
noncomputable def V5:Code:=(Tryz.f133.body).getD .skip
def Zn:Sm:={loops:=[],Q7:=[(7,[(6,.one (.int .u64))])]}
def pJ(y: ∀(a0:(Option Addr)) (a1:Int) (a2:Int) (K:Int->Bool->World->Prop) (w:World),Prop)(j: ∀(a0:(Option Addr)) (a1:Int) (K:Int->World->Prop) (w:World),Prop)(d: ∀(a0:(Option Addr)) (a1:Int) (K:Int->Int->Int->World->Prop) (w:World),Prop)(v: ∀(a0:(Option Addr)) (a1:Int) (a2:Int) (K:Int->World->Prop) (w:World),Prop)(x:I0 [.one (.ptr),.one (.int .i64),.one (.int .u64)])(K:Value->World->Prop)(w:World):T0.DX env y j d v x.1 x.2.1 x.2.2.1 (λr1 r2 w'=>K (.tuple ⟨[.int .u64 r1,.int .i64 r2]⟩) w') w=
 evD Tryz.prog (tabC [(172,λargs w K Kp=>unArgs [.one (.ptr),.one (.int .i64),.one (.int .u64)] args.toList λx=>y x.1 x.2.1 x.2.2.1 (λr1 r2 w'=>K (.tuple ⟨[.int .u64 r1,.bool r2]⟩) w') w),(173,λargs w K Kp=>unArgs [.one (.ptr),.one (.int .u64)] args.toList λx=>j x.1 x.2.1 (λr1 w'=>K (.int .i64 r1) w') w),(174,λargs w K Kp=>unArgs [.one (.ptr),.one (.int .u64)] args.toList λx=>d x.1 x.2.1 (λr1 r2 C w'=>K (.tuple ⟨[.int .u64 r1,.int .u64 r2,.int .i64 C]⟩) w') w),(177,λargs w K Kp=>unArgs [.one (.ptr),.one (.int .u64),.one (.int .u64)] args.toList λx=>v x.1 x.2.1 x.2.2.1 (λr1 w'=>K (.int .i64 r1) w') w)]) (ground Tryz.prog) Zn (finQ Tryz.prog Tryz.f133 K Kk) (finD Tryz.prog Tryz.f133 (tabD [(175,pI)]) K Kk) V5 (HY (mkArgs [.one (.ptr),.one (.int .i64),.one (.int .u64)] x)) w:=by kernel_rfl
def uW(x:I0 [.one (.ptr),.one (.int .i64),.one (.int .u64)])(K:Value->World->Prop)(w:World):F.DX env x.1 x.2.1 x.2.2.1 (λr1 r2 w'=>K (.tuple ⟨[.int .u64 r1,.int .i64 r2]⟩) w') w=
 evD Tryz.prog (tabC [(172,zE),(173,zI),(174,zD),(177,zK)]) (ground Tryz.prog) Zn (finQ Tryz.prog Tryz.f133 K Kk) (finD Tryz.prog Tryz.f133 (tabD [(175,pI)]) K Kk) V5 (HY (mkArgs [.one (.ptr),.one (.int .i64),.one (.int .u64)] x)) w:=pJ (F.DU env) (F.DC env) (F.BK env) (F.Cn env) x K w
def pK:Hr Tryz.prog 133 C133:=
 PH (T:=[(172,zE),(173,zI),(174,zD),(177,zK)]) (TD:=[(175,pI)]) (A:=Zn) (fn:=Tryz.f133) (c:=V5) (DE pD (DE pE (DE pC (DE pF Lk)))) (Sq kS Ur) mixed Tryz.func133 Tryz.call133 (by kernel_rfl) (by kernel_rfl) (by kernel_rfl) uW
def s178:=GV 178 uJ (F.Ka env) func178 call178 ⟨[],[(6,[(3,.one (.ptr))])]⟩
def s134:=mk 134 g41 (F.Ef env) [s178,ZH,oO] (T0.Ef env) func134 call134
end
end Go.Sh

/- Each shallow form is what the code of its function comes to, piece 2. No further condition. -/
import Derived.Test.YtnhmgaodhjgdaaaGreatDoorT
import Derived.Test.YtnhmgaodhjgdaaaGreatDoorProg
import Derived.KernelRfl
set_option linter.all false
set_option maxRecDepth 100000
set_option maxHeartbeats 4000000
namespace Go.Sh
open Go.Proofs Go.Proofs.Tryz
noncomputable section
noncomputable def C90:Entry:=λargs w K Kp=>unArgs [.one (.ptr),.one (.int .u64),.one (.int .u64)] args.toList λx=>F.Cy env x.1 x.2.1 x.2.2.1 (λr1 w'=>K (.int .i64 r1) w') w
noncomputable def bB:Code:=(Tryz.f90.body).getD .skip
def oI:QI:={loops:=[],MQ:=[]}
def zZ(d: ∀(a0:(Option Addr)) (a1:Int) (K:Int->Int->World->Prop) (Kp:Value->World->Prop) (w:World),Prop)(a: ∀(a0:(Option Addr)) (a1:Int) (K:(Option Addr)->World->Prop) (w:World),Prop)(x:Fo [.one (.ptr),.one (.int .u64),.one (.int .u64)])(K:Value->World->Prop)(w:World):T0.Cy env d a x.1 x.2.1 x.2.2.1 (λr1 w'=>K (.int .i64 r1) w') w=
 evD Tryz.prog (tabC [(93,λargs w K Kp=>unArgs [.one (.ptr),.one (.int .u64)] args.toList λx=>d x.1 x.2.1 (λr1 e w'=>K (.tuple ⟨[.int .u64 r1,.int .u64 e]⟩) w') Kp w),(130,λargs w K Kp=>unArgs [.one (.ptr),.one (.int .u64)] args.toList λx=>a x.1 x.2.1 (λr1 w'=>K (.pointer r1) w') w)]) (ground Tryz.prog) oI (finQ Tryz.prog Tryz.f90 K EW) (finD Tryz.prog Tryz.f90 (tabD [(92,zY)]) K EW) bB (FZ (mkArgs [.one (.ptr),.one (.int .u64),.one (.int .u64)] x)) w:=by kernel_rfl
def tie90(x:Fo [.one (.ptr),.one (.int .u64),.one (.int .u64)])(K:Value->World->Prop)(w:World):F.Cy env x.1 x.2.1 x.2.2.1 (λr1 w'=>K (.int .i64 r1) w') w=
 evD Tryz.prog (tabC [(93,C93),(130,C130)]) (ground Tryz.prog) oI (finQ Tryz.prog Tryz.f90 K EW) (finD Tryz.prog Tryz.f90 (tabD [(92,zY)]) K EW) bB (FZ (mkArgs [.one (.ptr),.one (.int .u64),.one (.int .u64)] x)) w:=zZ (F.Dn env) (F.Dg env) x K w
def z4:HK Tryz.prog 90 C90:=
 JY (T:=[(93,C93),(130,C130)]) (TD:=[(92,zY)]) (A:=oI) (fn:=Tryz.f90) (c:=bB) (BP oF (BP fP IE)) (LH fQ MR) mixed Tryz.func90 Tryz.call90 (by kernel_rfl) (by kernel_rfl) (by kernel_rfl) tie90
def sT(c:NS):Sem [.one (.ptr),.one (.int .u64),.one (.int .u64)]:=λx K Kp w=>c x.1 x.2.1 x.2.2.1 (λr1 w'=>K (.int .i64 r1) w') w
def s90:Slot:=⟨90,_,λc=>JU (sT c),F.Cy env,z4.any⟩
def sQ:=mk 44 sT (F.CJ env) [s45,X2,s90] (T0.CJ env) func44 call44
def g59(c:Y53):Sem [.one (.ptr),.one (.int .i64),.agg [.int .u64,.int .u64,.int .i64]]:=λx K Kp w=>c x.1 x.2.1 x.2.2.1.1 x.2.2.1.2.1 x.2.2.1.2.2.1 (λr1 w'=>K (.bool r1) w') w
def xR:=mk 21 g59 (F.B0 env) [s43,sR,sQ] (T0.B0 env) func21 call21 ⟨[],[(6,[(76,.one (.bool))])]⟩
def s7:=mk 7 XB (F.B3 env) [fN,s9,xR,sR] (T0.B3 env) func7 call7 ⟨[(2,[]),(18,[(7,.one (.sl)),(8,.one (.int .i64))]),(21,[(7,.one (.sl)),(9,.one (.int .i64))])],[(9,[(48,.one (.bool))]),(12,[(67,.one (.bool))]),(13,[(97,.one (.bool))]),(16,[(109,.one (.bool))]),(25,[(184,.one (.bool))])]⟩
noncomputable def C47:Entry:=λargs w K Kp=>unArgs [.one (.ptr),.one (.int .u64)] args.toList λx=>F.DX env x.1 x.2.1 (λr1 a w'=>K (.tuple ⟨[.int .u64 r1,.int .i64 a]⟩) w') w
noncomputable def bC:Code:=(Tryz.f47.body).getD .skip
def oJ:QI:={loops:=[],MQ:=[]}
def z5(a: ∀(a0:(Option Addr)) (a1:Int) (K:Int->Int->World->Prop) (Kp:Value->World->Prop) (w:World),Prop)(x:Fo [.one (.ptr),.one (.int .u64)])(K:Value->World->Prop)(w:World):T0.DX env a x.1 x.2.1 (λr1 d w'=>K (.tuple ⟨[.int .u64 r1,.int .i64 d]⟩) w') w=
 evD Tryz.prog (tabC [(93,λargs w K Kp=>unArgs [.one (.ptr),.one (.int .u64)] args.toList λx=>a x.1 x.2.1 (λr1 d w'=>K (.tuple ⟨[.int .u64 r1,.int .u64 d]⟩) w') Kp w)]) (ground Tryz.prog) oJ (finQ Tryz.prog Tryz.f47 K EW) (finD Tryz.prog Tryz.f47 (tabD [(92,zY)]) K EW) bC (FZ (mkArgs [.one (.ptr),.one (.int .u64)] x)) w:=by kernel_rfl
def tie47(x:Fo [.one (.ptr),.one (.int .u64)])(K:Value->World->Prop)(w:World):F.DX env x.1 x.2.1 (λr1 a w'=>K (.tuple ⟨[.int .u64 r1,.int .i64 a]⟩) w') w=
 evD Tryz.prog (tabC [(93,C93)]) (ground Tryz.prog) oJ (finQ Tryz.prog Tryz.f47 K EW) (finD Tryz.prog Tryz.f47 (tabD [(92,zY)]) K EW) bC (FZ (mkArgs [.one (.ptr),.one (.int .u64)] x)) w:=z5 (F.Dn env) x K w
def z6:HK Tryz.prog 47 C47:=
 JY (T:=[(93,C93)]) (TD:=[(92,zY)]) (A:=oJ) (fn:=Tryz.f47) (c:=bC) (BP oF IE) (LH fQ MR) mixed Tryz.func47 Tryz.call47 (by kernel_rfl) (by kernel_rfl) (by kernel_rfl) tie47
def g60(c:UD):Sem [.one (.ptr),.one (.int .u64)]:=λx K Kp w=>c x.1 x.2.1 (λr1 a w'=>K (.tuple ⟨[.int .u64 r1,.int .i64 a]⟩) w') w
def s47:Slot:=⟨47,_,λc=>JU (g60 c),F.DX env,z6.any⟩
def VY:=mk 23 g60 (F.Cf env) [s45,X2,s47] (T0.Cf env) func23 call23
def s8:=mk 8 XB (F.B4 env) [VY] (T0.B4 env) func8 call8 ⟨[(2,[(3,.one (.int .i64))])],[(6,[(49,.one (.bool))])]⟩
def g61(c:Qg):Sem [.one (.int .u32)]:=λx K Kp w=>c x.1 (λr1 w'=>K (.int .i64 r1) w') w
def s142:=HY 142 g61 (F.S9 env) func142 call142 ⟨[],[(4,[(0,.one (.int .u32)),(2,.one (.int .i64))]),(7,[(0,.one (.int .u32)),(2,.one (.int .i64))])]⟩
def g62(c:Qg):Sem [.one (.int .u64)]:=λx K Kp w=>c x.1 (λr1 w'=>K (.int .i64 r1) w') w
def s143:=HY 143 g62 (F.JA env) func143 call143 ⟨[],[(4,[(0,.one (.int .u64)),(2,.one (.int .i64))]),(7,[(0,.one (.int .u64)),(2,.one (.int .i64))]),(10,[(0,.one (.int .u64)),(2,.one (.int .i64))])]⟩
def s95:=mk 95 g62 (F.Ei env) [s143,s142] (λc0 _=>T0.Ei env c0) func95 call95
def fR(c:zA):Sem [.one (.sl),.one (.int .i64),.one (.int .i64),.one (.any)]:=λx K Kp w=>c x.1 x.2.1 x.2.2.1 x.2.2.2.1 (λw'=>K (.tuple ⟨[]⟩) w') w
noncomputable def C134:Entry:=JU (fR (F.BQ env))
def uD:CG 134 (fR (F.BQ env)):=OB 134 fR (F.BQ env) func134 call134 ⟨[(1,[(8,.one (.int .i64))]),(4,[(9,.one (.int .i64))])],[]⟩
def g64(c:Y55):Sem [.one (.sl),.one (.int .i64),.one (.int .i64),.one (.int .i64),.one (.any)]:=λx K Kp w=>c x.1 x.2.1 x.2.2.1 x.2.2.2.1 x.2.2.2.2.1 (λw'=>K (.tuple ⟨[]⟩) w') w
def s187:=HY 187 g64 (F.Dw env) func187 call187 ⟨[(1,[(10,.one (.int .i64))])],[(4,[(40,.one (.bool))]),(5,[(11,.one (.int .i64))])]⟩
noncomputable def C135:Entry:=JU (fR (F.At env))
def uE:CG 135 (fR (F.At env)):=NY 135 fR (F.At env) [s187] (T0.At env) func135 call135 ⟨[(4,[(11,.one (.int .i64))]),(8,[(12,.one (.int .i64))])],[]⟩
def g65(c:Qg):Sem [.one (.int .i64)]:=λx K Kp w=>c x.1 (λr1 w'=>K (.int .u64 r1) w') w
def s188:=mk 188 g65 (F.B5 env) [s95] (T0.B5 env) func188 call188
def s189:=HY 189 g21 (F.GQ env) func189 call189
noncomputable def C136:Entry:=JU (fR (F.Af env))
def fS:CG 136 (fR (F.Af env)):=NY 136 fR (F.Af env) [s188,s189] (T0.Af env) func136 call136 ⟨[(5,[(11,.one (.int .i64))])],[(10,[(12,.one (.int .i64))])]⟩
def s136:Slot:=⟨136,_,λc=>JU (fR c),F.Af env,fS.any⟩
def g66(c:Y56):Sem [.one (.sl),.one (.int .i64),.one (.int .i64),.one (.ptr),.one (.any)]:=λx K Kp w=>c x.1 x.2.1 x.2.2.1 x.2.2.2.1 x.2.2.2.2.1 (λr1 a w'=>K (.tuple ⟨[.int .i64 r1,.int .i64 a]⟩) w') w
def s243:=HY 243 g66 (F.ER env) func243 call243
def g67(c:Y57):Sem [.one (.sl),.one (.int .i64),.one (.int .i64),.one (.int .i64),.one (.ptr),.one (.any)]:=λx K Kp w=>c x.1 x.2.1 x.2.2.1 x.2.2.2.1 x.2.2.2.2.1 x.2.2.2.2.2.1 (λr1 w'=>K (.int .i64 r1) w') w
def s191:=mk 191 g67 (F.A7 env) [s243] (T0.A7 env) func191 call191
def g68(c:Y58):Sem [.one (.sl),.one (.int .i64),.one (.ptr),.one (.any)]:=λx K Kp w=>c x.1 x.2.1 x.2.2.1 x.2.2.2.1 (λr1 w'=>K (.int .i64 r1) w') w
def s190:=mk 190 g68 (F.Az env) [s191] (T0.Az env) func190 call190
def g69(c:Y59):Sem [.one (.sl),.one (.int .i64),.one (.int .i64),.one (.any)]:=λx K Kp w=>c x.1 x.2.1 x.2.2.1 x.2.2.2.1 (λr1 a w'=>K (.tuple ⟨[.int .i64 r1,.int .i64 a]⟩) w') w
noncomputable def C137:Entry:=JU (g69 (F.Ap env))
def uF:CG 137 (g69 (F.Ap env)):=NY 137 g69 (F.Ap env) [s190,s191] (T0.Ap env) func137 call137 ⟨[],[(11,[(12,.one (.int .i64)),(13,.one (.int .i64)),(14,.one (.int .i64))]),(12,[(13,.one (.int .i64))])]⟩
noncomputable def C138:Entry:=JU (fR (F.A5 env))
def fT:CG 138 (fR (F.A5 env)):=OB 138 fR (F.A5 env) func138 call138 ⟨[(2,[(8,.one (.int .i64)),(9,.one (.int .i64))])],[]⟩
def s138:Slot:=⟨138,_,λc=>JU (fR c),F.A5 env,fT.any⟩
def g70(c:Y60):Sem [.one (.sl),.one (.int .i64),.one (.int .i64),.one (.any)]:=λx K Kp w=>c x.1 x.2.1 x.2.2.1 x.2.2.2.1 (λr1 w'=>K (.bool r1) w') w
noncomputable def C139:Entry:=JU (g70 (F.Av env))
def uG:CG 139 (g70 (F.Av env)):=OB 139 g70 (F.Av env) func139 call139 ⟨[(3,[(9,.one (.int .i64)),(10,.one (.int .i64))]),(5,[(9,.one (.int .i64))]),(14,[(11,.one (.int .i64))]),(20,[(12,.one (.int .i64))])],[(7,[(9,.one (.int .i64))]),(18,[])]⟩
def g71(c:Y61):Sem [.one (.sl),.one (.int .i64),.one (.int .i64),.one (.int .i64),.one (.any)]:=λx K Kp w=>c x.1 x.2.1 x.2.2.1 x.2.2.2.1 x.2.2.2.2.1 (λr1 w'=>K (.int .i64 r1) w') w
noncomputable def C140:Entry:=JU (g71 (F.Bg env))
def fU:CG 140 (g71 (F.Bg env)):=OB 140 g71 (F.Bg env) func140 call140 ⟨[(3,[(11,.one (.int .i64)),(12,.one (.int .i64))]),(5,[(12,.one (.int .i64))])],[(5,[(11,.one (.int .i64))]),(7,[(12,.one (.int .i64))])]⟩
def s140:Slot:=⟨140,_,λc=>JU (g71 c),F.Bg env,fU.any⟩
def g72(c:Y62):Sem [.one (.sl),.one (.int .i64),.one (.int .i64),.one (.int .i64),.one (.any)]:=λx K Kp w=>c x.1 x.2.1 x.2.2.1 x.2.2.2.1 x.2.2.2.2.1 (λr1 a w'=>K (.tuple ⟨[.int .i64 r1,.bool a]⟩) w') w
noncomputable def C141:Entry:=JU (g72 (F.Bn env))
def uH:CG 141 (g72 (F.Bn env)):=OB 141 g72 (F.Bn env) func141 call141 ⟨[(3,[(12,.one (.int .i64))]),(5,[(13,.one (.int .i64))]),(13,[(12,.one (.int .i64)),(13,.one (.int .i64))]),(15,[(13,.one (.int .i64))])],[(5,[(12,.one (.int .i64))]),(7,[(13,.one (.int .i64))]),(15,[(12,.one (.int .i64))]),(17,[(13,.one (.int .i64))])]⟩
noncomputable def uI(n:Nat):Entry:=λargs w K Kp=>unArgs [.one (.sl),.one (.int .i64),.one (.int .i64),.one (.int .i64),.one (.any)] args.toList λx=>F.slices_pdqsortCmpFunc_int_ env n x.1 x.2.1 x.2.2.1 x.2.2.2.1 x.2.2.2.2.1 (λw'=>K (.tuple ⟨[]⟩) w') w
noncomputable def C94:Entry:=λargs w K Kp=> ∃n,uI n args w K Kp
noncomputable def oK:Code:=(Tryz.f94.body).getD .skip
def xX:QI:={loops:=[(2,[(1,.one (.int .i64)),(2,.one (.int .i64)),(3,.one (.int .i64)),(10,.one (.bool)),(11,.one (.bool))])],MQ:=[(10,[(3,.one (.int .i64))]),(15,[(13,.one (.int .i64)),(14,.one (.int .i64))]),(16,[(75,.one (.bool))]),(17,[]),(18,[(97,.one (.bool))])]}
def tie94(n:Nat)(x:Fo [.one (.sl),.one (.int .i64),.one (.int .i64),.one (.int .i64),.one (.any)])(K Kp:Value->World->Prop)(w:World):F.slices_pdqsortCmpFunc_int_ env (n+1) x.1 x.2.1 x.2.2.1 x.2.2.2.1 x.2.2.2.2.1 (λw'=>K (.tuple ⟨[]⟩) w') w=
 ev Tryz.prog (tabC [(134,C134),(135,C135),(136,C136),(137,C137),(138,C138),(139,C139),(140,C140),(141,C141),(94,uI n)]) (ground Tryz.prog) xX oK (finQ Tryz.prog Tryz.f94 K Kp) (FZ (mkArgs [.one (.sl),.one (.int .i64),.one (.int .i64),.one (.int .i64),.one (.any)] x)) w:=by kernel_rfl
def uJ(n:Nat):HK Tryz.prog 94 (uI n):=by
 induction n with
 | zero=>intro args w K Kp h;obtain⟨x,_,h⟩:=GH h;exact h.elim
 | succ n ih=>exact SK (T:=[(134,C134),(135,C135),(136,C136),(137,C137),(138,C138),(139,C139),(140,C140),(141,C141),(94,uI n)]) (A:=xX) (fn:=Tryz.f94) (c:=oK) (BP uD (BP uE (BP fS (BP uF (BP fT (BP uG (BP fU (BP uH (BP ih IE))))))))) mixed Tryz.func94 Tryz.call94 (by kernel_rfl) (by kernel_rfl) (by kernel_rfl) (tie94 n)
def z7:HK Tryz.prog 94 C94:=jD uJ
def g73(c:Y63):Sem [.one (.sl),.one (.any)]:=λx K Kp w=>c x.1 x.2.1 (λw'=>K (.tuple ⟨[]⟩) w') w
def s94:Slot:=⟨94,Unit,λ_=>C94,(),z7.any⟩
def xQ:=mk 48 g73 (F.BN env) [s95,s94] (λc0 _=>T0.BN env c0) func48 call48
def xT:=mk 24 xV (F.DD env) [xQ] (T0.DD env) func24 call24 ⟨[(3,[(3,.one (.sl))])],[(4,[(11,.one (.bool))])]⟩
def F4:=mk 10 xV (F.A9 env) [xT,X4,O8,xS,Rb] (T0.A9 env) func10 call10 ⟨[(3,[(3,.one (.sl)),(17,.one (.int .i64))]),(8,[(3,.one (.sl)),(8,.one (.int .i64))])],[]⟩
def g74(c:Y64):Sem []:=λx K Kp w=>c (λr1 w'=>K (.bool r1) w') w
def s11:=mk 11 g74 (F.Dh env) [Er,X3,s6,s9,F4,aX] (T0.Dh env) func11 call11 ⟨[],[(3,[(18,.one (.bool))])]⟩
def g75(c:Y65):Sem [.one (.sl),.one (.int .i64),.one (.sl),.one (.sl)]:=λx K Kp w=>c x.1 x.2.1 x.2.2.1 x.2.2.2.1 (λr1 w'=>K (.bool r1) w') w
def xY:CG 3 (g75 (F.BO env)):=NY 3 g75 (F.BO env) [s4,s5,s6,s7,s8,s9,F4,s11] (T0.BO env) func3 call3 ⟨[(8,[(10,.one (.int .i64)),(11,.one (.int .i64))]),(14,[(10,.one (.int .i64)),(12,.one (.int .i64))]),(18,[(10,.one (.int .i64)),(14,.one (.sl))])],[(2,[(37,.one (.bool))]),(11,[(61,.one (.bool))]),(15,[(84,.one (.bool))]),(21,[(10,.one (.int .i64)),(14,.one (.sl))]),(22,[(124,.one (.bool))]),(24,[(15,.one (.ptr)),(16,.one (.bool))]),(25,[(172,.one (.bool))])]⟩
def s3:Slot:=⟨3,_,λc=>JU (g75 c),F.BO env,xY.any⟩
def bD:CG 36 (XB (F.Hh env)):=OB 36 XB (F.Hh env) func36 call36
def W7:Slot:=⟨36,_,λc=>JU (XB c),F.Hh env,bD.any⟩
def s96:=HY 96 g37 (F.Jg env) func96 call96
def g76(c:Rp):Sem [.one (.int .u64),.one (.int .u64)]:=λx K Kp w=>c x.1 x.2.1 (λr1 w'=>K (.int .i64 r1) w') w
def nN:=mk 50 g76 (F.Cg env) [s96] (T0.Cg env) func50 call50
def g77(c:Y66):Sem [.one (.int .i64),.one (.int .i64),.one (.ptr)]:=λx K Kp w=>c x.1 x.2.1 x.2.2.1 (λr1 w'=>K (.int .i64 r1) w') w
def oL:CG 49 (g77 (F.CO env)):=NY 49 g77 (F.CO env) [O8,nN] (T0.CO env) func49 call49
def g78(c:Y67):Sem [.agg [.int .i64,.int .i64,.int .u64,.int .u64,.int .i64,.int .u64,.bool,.int .i64,.sl,.sl]]:=λx K Kp w=>c x.1.1 x.1.2.1 x.1.2.2.1 x.1.2.2.2.1 x.1.2.2.2.2.1 x.1.2.2.2.2.2.1 x.1.2.2.2.2.2.2.1 x.1.2.2.2.2.2.2.2.1 x.1.2.2.2.2.2.2.2.2.1 x.1.2.2.2.2.2.2.2.2.2.1 (λr1 a d e m w'=>K (.tuple ⟨[.agg ⟨[.int .i64 r1,.bool a,.bool d,.int .u64 e]⟩,.int .i64 m]⟩) w') w
def s101:=mk 101 g78 (F.GR env) [s88,zX] (T0.GR env) func101 call101 ⟨[(6,[(54,.one (.int .i64))])],[(3,[(47,.one (.bool))]),(13,[(73,.one (.bool))]),(17,[])]⟩
def xZ(c:Kh):Sem [.one (.ptr),.one (.int .i64)]:=λx K Kp w=>c x.1 x.2.1 (λr1 w'=>K (.int .i64 r1) w') w
def s145:=HY 145 xZ (F.LU env) func145 call145 ⟨[(2,[(5,.one (.int .i64))])],[(4,[(5,.one (.int .i64))])]⟩
def g80(c:jN):Sem [.one (.ptr),.one (.int .i64)]:=λx K Kp w=>c x.1 x.2.1 (λr1 a w'=>K (.tuple ⟨[.int .u64 r1,.bool a]⟩) w') w
def zH:=mk 102 g80 (F.GS env) [s145] (T0.GS env) func102 call102 ⟨[],[(3,[(20,.one (.bool))])]⟩
def s146:=HY 146 g6 (F.Dq env) func146 call146
def z9:=HY 147 g6 (F.Eb env) func147 call147
def g81(c:nG):Sem [.one (.int .i64)]:=λx K Kp w=>c x.1 (λr1 w'=>K (.bool r1) w') w
def zN:=HY 192 g81 (F.L1 env) func192 call192
def g82(c:Y68):Sem [.one (.bool)]:=λx K Kp w=>c x.1 (λr1 w'=>K (.int .i64 r1) w') w
def s157:=HY 157 g82 (F.LW env) func157 call157
def g83(c:sP):Sem [.one (.ptr),.one (.int .i64),.one (.bool)]:=λx K Kp w=>c x.1 x.2.1 x.2.2.1 (λr1 w'=>K (.int .i64 r1) w') w
def s148:=mk 148 g83 (F.DE env) [zN,s157] (T0.DE env) func148 call148
def AA0:=HY 244 g62 (F.BS env) func244 call244
def g84(c:Y70):Sem [.one (.sl),.one (.int .i64)]:=λx K Kp w=>c x.1 x.2.1 (λr1 w'=>K (.int .i64 r1) w') w
def s193:=mk 193 g84 (F.Eu env) [AA0] (T0.Eu env) func193 call193 ⟨[(2,[(5,.one (.int .i64))])],[(7,[(6,.one (.int .u64))])]⟩
def g85(c:nI):Sem [.one (.ptr),.one (.int .i64)]:=λx K Kp w=>c x.1 x.2.1 (λw'=>K (.tuple ⟨[]⟩) w') w
def tT:=HY 194 g85 (F.Jh env) func194 call194 ⟨[(0,[])],[]⟩
def g86(c:tJ):Sem [.one (.ptr)]:=λx K Kp w=>c x.1 (λr1 a w'=>K (.tuple ⟨[.int .i64 r1,.int .i64 a]⟩) w') w
def s149:=mk 149 g86 (F.DY env) [s193,tT] (T0.DY env) func149 call149
def g87(c:Y73):Sem [.one (.ptr),.one (.int .i64),.one (.bool)]:=λx K Kp w=>c x.1 x.2.1 x.2.2.1 (λr1 a w'=>K (.tuple ⟨[.int .u64 r1,.bool a]⟩) w') w
def s103:=mk 103 g87 (F.Dr env) [s146,z9,s148,Oz,s149,Rb] (T0.Dr env) func103 call103
def g88(c:S7):Sem [.one (.ptr),.one (.int .u64),.one (.int .i64)]:=λx K Kp w=>c x.1 x.2.1 x.2.2.1 (λw'=>K (.tuple ⟨[]⟩) w') w
def s104:=HY 104 g88 (F.L2 env) func104 call104 ⟨[],[(1,[(18,.one (.bool))])]⟩
def g89(c:NS):Sem [.one (.ptr),.one (.int .u64),.one (.int .u64)]:=λx K Kp w=>c x.1 x.2.1 x.2.2.1 (λr1 w'=>K (.int .u64 r1) w') w
def Yk:=mk 195 g89 (F.Aw env) [oE] (T0.Aw env) func195 call195 ⟨[(3,[(7,.one (.int .u64)),(8,.one (.int .i64))])],[]⟩
def g90(c:Y75):Sem [.one (.ptr),.one (.int .u64),.one (.int .u64),.one (.int .u64)]:=λx K Kp w=>c x.1 x.2.1 x.2.2.1 x.2.2.2.1 (λw'=>K (.tuple ⟨[]⟩) w') w
def zO:=mk 196 g90 (F.I0 env) [s130] (T0.I0 env) func196 call196 ⟨[],[(1,[])]⟩
def g91(c:Y76):Sem [.one (.map),.one (.int .u64),.one (.int .u64)]:=λx K Kp w=>c x.1 x.2.1 x.2.2.1 (λw'=>K (.tuple ⟨[]⟩) w') w
def s197:=HY 197 g91 (F.Kt env) func197 call197 ⟨[(2,[]),(7,[(7,.one (.int .u64))])],[(3,[(18,.one (.bool))]),(5,[(28,.one (.bool))])]⟩
def s198:=HY 198 g91 (F.IQ env) func198 call198 ⟨[(2,[]),(7,[(7,.one (.int .u64))])],[(3,[(18,.one (.bool))]),(5,[(28,.one (.bool))])]⟩
def zI:=mk 150 sT (F.I1 env) [Yk,zO,s197,s198] (T0.I1 env) func150 call150 ⟨[],[(2,[(18,.one (.bool))]),(6,[(28,.one (.bool))])]⟩
def g92(c:Y77):Sem [.one (.int .u64),.one (.int .u64)]:=λx K Kp w=>c x.1 x.2.1 (λr1 w'=>K (.bool r1) w') w
def s199:=HY 199 g92 (F.L3 env) func199 call199
def s245:=mk 245 uC (F.Ft env) [uB] (T0.Ft env) func245 call245
def g93(c:Y78):Sem [.one (.ptr),.one (.int .u64),.one (.int .u64),.one (.any)]:=λx K Kp w=>c x.1 x.2.1 x.2.2.1 x.2.2.2.1 (λw'=>K (.tuple ⟨[]⟩) w') w
def s200:=mk 200 g93 (F.EM env) [s245] (T0.EM env) func200 call200 ⟨[(4,[(9,.one (.int .i64)),(10,.one (.sl)),(11,.one (.sl))])],[(9,[(10,.one (.sl))]),(11,[(9,.one (.int .i64)),(10,.one (.sl)),(11,.one (.sl))]),(14,[(10,.one (.sl))])]⟩
def s151:=mk 151 sT (F.DN env) [s199,s200] (T0.DN env) func151 call151
def g94(c:Y79):Sem [.agg [.int .i64,.sl],.one (.int .u64)]:=λx K Kp w=>c x.1.1 x.1.2.1 x.2.1 (λr1 w'=>K (r1) w') w
def s201:=HY 201 g94 (F.Yf env) func201 call201 ⟨[(8,[(30,.one (.int .i64))])],[]⟩
def g95(c:Y80):Sem [.one (.ptr),.one (.int .u64),.one (.int .u64),.agg [.int .i64,.sl],.one (.int .u64)]:=λx K Kp w=>c x.1 x.2.1 x.2.2.1 x.2.2.2.1.1 x.2.2.2.1.2.1 x.2.2.2.2.1 (λr1 w'=>K (.int .i64 r1) w') w
def zJ:=mk 152 g95 (F.GU env) [s199,s201,s200] (T0.GU env) func152 call152 ⟨[],[(2,[(11,.one (.bool))])]⟩
def g96(c:Y81):Sem [.one (.ptr),.agg [.int .i64,.int .i64,.int .u64,.int .u64,.int .i64,.int .u64,.bool,.int .i64,.sl,.sl],.agg [.int .i64,.bool,.bool,.int .u64],.one (.int .u64)]:=λx K Kp w=>c x.1 x.2.1.1 x.2.1.2.1 x.2.1.2.2.1 x.2.1.2.2.2.1 x.2.1.2.2.2.2.1 x.2.1.2.2.2.2.2.1 x.2.1.2.2.2.2.2.2.1 x.2.1.2.2.2.2.2.2.2.1 x.2.1.2.2.2.2.2.2.2.2.1 x.2.1.2.2.2.2.2.2.2.2.2.1 x.2.2.1.1 x.2.2.1.2.1 x.2.2.1.2.2.1 x.2.2.1.2.2.2.1 x.2.2.2.1 (λr1 a d w'=>K (.agg ⟨[.int .u64 r1,.int .u64 a,.int .i64 d]⟩) w') w
def s105:=mk 105 g96 (F.Bo env) [s91,X2,zI,s151,zJ] (T0.Bo env) func105 call105 ⟨[],[(4,[(31,.one (.bool))]),(5,[]),(8,[])]⟩
def g97(c:Y82):Sem [.one (.ptr),.one (.int .i64)]:=λx K Kp w=>c x.1 x.2.1 (λr1 m u v J O T Y r9 a d e w'=>K (.tuple ⟨[.pointer r1,.agg ⟨[.int .u64 m,.int .i64 u,.int .i64 v,.int .i64 J,.bool O,.int .i64 T,.int .i64 Y,.int .i64 r9,.bool a,.bool d]⟩,.int .i64 e]⟩) w') w
noncomputable def C204:Entry:=JU (g97 (F.BC env))
def fV:CG 204 (g97 (F.BC env)):=NY 204 g97 (F.BC env) [Oz,O8] (T0.BC env) func204 call204
def s204:Slot:=⟨204,_,λc=>JU (g97 c),F.BC env,fV.any⟩
def g98(c:Y83):Sem [.one (.ptr),.agg [.int .i64,.bool,.bool,.bool],.one (.int .u64)]:=λx K Kp w=>c x.1 x.2.1.1 x.2.1.2.1 x.2.1.2.2.1 x.2.1.2.2.2.1 x.2.2.1 (λr1 w'=>K (.int .i64 r1) w') w
def s203:=mk 203 g98 (F.Di env) [uB] (T0.Di env) func203 call203
def g99(c:Y84):Sem [.one (.ptr),.one (.int .i64),.one (.int .u64),.one (.int .i64),.one (.bool),.one (.bool),.one (.bool)]:=λx K Kp w=>c x.1 x.2.1 x.2.2.1 x.2.2.2.1 x.2.2.2.2.1 x.2.2.2.2.2.1 x.2.2.2.2.2.2.1 (λr1 w'=>K (.int .i64 r1) w') w
def s217:=mk 217 g99 (F.Fe env) [s203] (T0.Fe env) func217 call217 ⟨[],[(2,[(27,.one (.bool))]),(4,[(43,.one (.bool))])]⟩
noncomputable def C161:Entry:=JU (g83 (F.BD env))
def fW:CG 161 (g83 (F.BD env)):=NY 161 g83 (F.BD env) [s204,s217] (T0.BD env) func161 call161
def s161:Slot:=⟨161,_,λc=>JU (g83 c),F.BD env,fW.any⟩
def s153:=mk 153 xZ (F.CK env) [s161] (T0.CK env) func153 call153
def g100(c:zB):Sem [.one (.ptr),.one (.int .i64),.one (.bool),.one (.int .i64)]:=λx K Kp w=>c x.1 x.2.1 x.2.2.1 x.2.2.2.1 (λw'=>K (.tuple ⟨[]⟩) w') w
def jQ:=mk 114 g100 (F.CE env) [s157] (T0.CE env) func114 call114
def g101(c:Y86):Sem [.one (.ptr),.one (.int .i64),.one (.bool)]:=λx K Kp w=>c x.1 x.2.1 x.2.2.1 (λw'=>K (.tuple ⟨[]⟩) w') w
def AA1:=mk 106 g101 (F.BY env) [s148,s153,jQ] (T0.BY env) func106 call106
end
end Go.Sh

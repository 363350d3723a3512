/- Each shallow form is what the code of its function comes to, piece 3. No further condition. -/
import Derived.Test.YtcjamkpfbpfeoaaGreatDoorU
import Derived.Test.YtcjamkpfbpfeoaaGreatDoorProg
import Derived.KernelRfl
import Derived.Test.YtcjamkpfbpfeoaaGreatDoorS
import Derived.Test.YtcjamkpfbpfeoaaGreatDoorA
import Derived.Calls
set_option linter.all false
set_option maxRecDepth 100000
set_option maxHeartbeats 4000000
namespace Go.Sh
open Go.Proofs
noncomputable def tO:Kt:=fun args d w K=>unArgs [.one (.ptr)] args.toList fun x=>F.Dy env x.1 (d.getD .nilIface) (fun w'=>K d.isSome w') w
noncomputable def dS:Code:=(Tryz.f92.body).getD .skip
def nO:D6:={loops:=[],Ah:=[]}
noncomputable def dT:Code:=((recOf dS).map (·.2)).getD .skip
theorem zP(x:HM [.one (.ptr)])(v:Value)(K:World->Prop)(w:World):F.Dy env x.1 v K w=
 ev Tryz.prog (tabC []) (ground Tryz.prog) nO dT (finQ Tryz.prog Tryz.f92 (fun _ w'=>K w') LU) ((GU (mkArgs [.one (.ptr)] x)).put 5 v) w:=by kernel_rfl
theorem Yi:HY Tryz.prog 92 tO:=
 ZS (T:=[]) (A:=nO) (fn:=Tryz.f92) (c:=dS) (y:=dT) (d:=5) (l:=[.one (.ptr)]) (F:=fun(x:HM [.one (.ptr)]) v K w=>F.Dy env x.1 v K w) AE mixed Tryz.func92 Tryz.call92 (by kernel_rfl) (by kernel_rfl) (by kernel_rfl) (by kernel_rfl) (by kernel_rfl) zP
noncomputable def C43:Entry:=fun args w K Kp=>unArgs [.one (.ptr),.one (.int .u64)] args.toList fun x=>F.Ej env x.1 x.2.1 (fun r1 d w'=>K (.tuple ⟨[.int .u64 r1,.int .i64 d]⟩) w') w
noncomputable def W9:Code:=(Tryz.f43.body).getD .skip
def dU:D6:={loops:=[],Ah:=[]}
theorem tP(d: ∀(a0:(Option Addr)) (a1:Int) (K:Int->Int->World->Prop) (Kp:Value->World->Prop) (w:World),Prop)(x:HM [.one (.ptr),.one (.int .u64)])(K:Value->World->Prop)(w:World):T0.Ej env d x.1 x.2.1 (fun r1 j w'=>K (.tuple ⟨[.int .u64 r1,.int .i64 j]⟩) w') w=
 evD Tryz.prog (tabC [(93,fun args w K Kp=>unArgs [.one (.ptr),.one (.int .u64)] args.toList fun x=>d x.1 x.2.1 (fun r1 j w'=>K (.tuple ⟨[.int .u64 r1,.int .u64 j]⟩) w') Kp w)]) (ground Tryz.prog) dU (finQ Tryz.prog Tryz.f43 K LU) (finD Tryz.prog Tryz.f43 (tabD [(92,tO)]) K LU) W9 (GU (mkArgs [.one (.ptr),.one (.int .u64)] x)) w:=by kernel_rfl
theorem zQ(x:HM [.one (.ptr),.one (.int .u64)])(K:Value->World->Prop)(w:World):F.Ej env x.1 x.2.1 (fun r1 d w'=>K (.tuple ⟨[.int .u64 r1,.int .i64 d]⟩) w') w=
 evD Tryz.prog (tabC [(93,C93)]) (ground Tryz.prog) dU (finQ Tryz.prog Tryz.f43 K LU) (finD Tryz.prog Tryz.f43 (tabD [(92,tO)]) K LU) W9 (GU (mkArgs [.one (.ptr),.one (.int .u64)] x)) w:=tP (F.ES env) x K w
theorem tQ:HE Tryz.prog 43 C43:=
 Ku (T:=[(93,C93)]) (TD:=[(92,tO)]) (A:=dU) (fn:=Tryz.f43) (c:=W9) (AA dR AE) (M1 Yi Oc) mixed Tryz.func43 Tryz.call43 (by kernel_rfl) (by kernel_rfl) (by kernel_rfl) zQ
def G44(c:Lv):Sem [.one (.ptr),.one (.int .u64)]:=fun x K Kp w=>c x.1 x.2.1 (fun r1 d w'=>K (.tuple ⟨[.int .u64 r1,.int .i64 d]⟩) w') w
def zR:D6:={loops:=[],Ah:=[(5,[(31,.one (.bool))])]}
theorem Z44(c0:Kl)(c1:Kl):G44 (T0.Bw env c0 c1)=Ab [(94,Ao (nN c0)),(95,Ao (zG c1))] zR Tryz.f44:=by kernel_rfl
theorem dV:AO 44 (G44 (F.Bw env)):=AG (AA Om (AA W6 AE)) Tryz.func44 Tryz.call44 (Z44 _ _)
def G96(c:bE):Sem [.one (.ptr),.one (.int .u64)]:=fun x K Kp w=>c x.1 x.2.1 (fun r1 w'=>K (.pointer r1) w') w
noncomputable def C96:Entry:=Ao (G96 (F.FB env))
def zS:D6:={loops:=[(5,[(16,.one (.int .i64))])],Ah:=[]}
theorem Z96:G96 (F.FB env)=Ab [] zS Tryz.f96:=by kernel_rfl
theorem tR:AO 96 (G96 (F.FB env)):=AG AE Tryz.func96 Tryz.call96 (Z96)
noncomputable def C45:Entry:=fun args w K Kp=>unArgs [.one (.ptr),.one (.int .u64),.one (.int .u64)] args.toList fun x=>F.EB env x.1 x.2.1 x.2.2.1 (fun r1 w'=>K (.int .i64 r1) w') w
noncomputable def XA:Code:=(Tryz.f45.body).getD .skip
def dW:D6:={loops:=[],Ah:=[]}
theorem tS(j: ∀(a0:(Option Addr)) (a1:Int) (K:Int->Int->World->Prop) (Kp:Value->World->Prop) (w:World),Prop)(d: ∀(a0:(Option Addr)) (a1:Int) (K:(Option Addr)->World->Prop) (w:World),Prop)(x:HM [.one (.ptr),.one (.int .u64),.one (.int .u64)])(K:Value->World->Prop)(w:World):T0.EB env j d x.1 x.2.1 x.2.2.1 (fun r1 w'=>K (.int .i64 r1) w') w=
 evD Tryz.prog (tabC [(93,fun args w K Kp=>unArgs [.one (.ptr),.one (.int .u64)] args.toList fun x=>j x.1 x.2.1 (fun r1 v w'=>K (.tuple ⟨[.int .u64 r1,.int .u64 v]⟩) w') Kp w),(96,fun args w K Kp=>unArgs [.one (.ptr),.one (.int .u64)] args.toList fun x=>d x.1 x.2.1 (fun r1 w'=>K (.pointer r1) w') w)]) (ground Tryz.prog) dW (finQ Tryz.prog Tryz.f45 K LU) (finD Tryz.prog Tryz.f45 (tabD [(92,tO)]) K LU) XA (GU (mkArgs [.one (.ptr),.one (.int .u64),.one (.int .u64)] x)) w:=by kernel_rfl
theorem zT(x:HM [.one (.ptr),.one (.int .u64),.one (.int .u64)])(K:Value->World->Prop)(w:World):F.EB env x.1 x.2.1 x.2.2.1 (fun r1 w'=>K (.int .i64 r1) w') w=
 evD Tryz.prog (tabC [(93,C93),(96,C96)]) (ground Tryz.prog) dW (finQ Tryz.prog Tryz.f45 K LU) (finD Tryz.prog Tryz.f45 (tabD [(92,tO)]) K LU) XA (GU (mkArgs [.one (.ptr),.one (.int .u64),.one (.int .u64)] x)) w:=tS (F.ES env) (F.FB env) x K w
theorem tT:HE Tryz.prog 45 C45:=
 Ku (T:=[(93,C93),(96,C96)]) (TD:=[(92,tO)]) (A:=dW) (fn:=Tryz.f45) (c:=XA) (AA dR (AA tR AE)) (M1 Yi Oc) mixed Tryz.func45 Tryz.call45 (by kernel_rfl) (by kernel_rfl) (by kernel_rfl) zT
def G46(c:HU):Sem [.one (.ptr),.one (.int .u64),.one (.int .u64)]:=fun x K Kp w=>c x.1 x.2.1 x.2.2.1 (fun r1 w'=>K (.int .i64 r1) w') w
theorem Z46(c0:Lv)(c1:Kl):G46 (T0.CB env c0 c1)=Ab [(44,Ao (G44 c0)),(95,Ao (zG c1))] By Tryz.f46:=by kernel_rfl
theorem tU:AO 46 (G46 (F.CB env)):=AG (AA dV (AA W6 AE)) Tryz.func46 Tryz.call46 (Z46 _ _)
def G11(c:Y56):Sem [.one (.ptr),.one (.ptr),.agg [.int .i64,.int .i64,.int .u64,.int .i64,.bool,.int .i64,.int .u64]]:=fun x K Kp w=>c x.1 x.2.1 x.2.2.1.1 x.2.2.1.2.1 x.2.2.1.2.2.1 x.2.2.1.2.2.2.1 x.2.2.1.2.2.2.2.1 x.2.2.1.2.2.2.2.2.1 x.2.2.1.2.2.2.2.2.2.1 (fun r1 w'=>K (.bool r1) w') w
def zU:D6:={loops:=[],Ah:=[(14,[(131,.one (.bool))])]}
theorem Z11(c0:g8)(c1:g8)(c2:g9)(c3:JS)(c4:JS)(c5:Fy)(c6:Fy)(c7:xO)(c8:bE)(c9:nI)(aG:nI)(aF:xQ)(J:nJ)(aA:nJ)(aE:cQ)(v:cQ)(aB:Fy)(C:Fy)(d:Fy)(aC:Fy)(O:Lv)(j:Lv)(Y:Y3)(T:Lv)(y:Lv)(aH:HU)(aD:HU):G11 (T0.ET env c0 c1 c2 c3 c4 c5 c6 c7 c8 c9 aG aF J aA aE v aB C d aC O j Y T y aH aD)=Ab [(21,Ao (G21 c0)),(22,Ao (G22 c1)),(23,Ao (G23 c2)),(24,Ao (G24 c3)),(25,Ao (G25 c4)),(26,Ao (G26 c5)),(27,Ao (G27 c6)),(28,Ao (G28 c7)),(29,Ao (G29 c8)),(30,Ao (G30 c9)),(31,Ao (G31 aG)),(32,Ao (G32 aF)),(33,Ao (G33 J)),(34,Ao (G34 aA)),(35,Ao (G35 aE)),(36,Ao (G36 v)),(37,Ao (G37 aB)),(38,Ao (G38 C)),(39,Ao (wY d)),(40,Ao (zK aC)),(41,Ao (zM O)),(42,Ao (G42 j)),(10,Ao (xZ Y)),(43,fun args w K Kp=>unArgs [.one (.ptr),.one (.int .u64)] args.toList fun x=>T x.1 x.2.1 (fun r1 r2 w'=>K (.tuple ⟨[.int .u64 r1,.int .i64 r2]⟩) w') w),(44,Ao (G44 y)),(45,fun args w K Kp=>unArgs [.one (.ptr),.one (.int .u64),.one (.int .u64)] args.toList fun x=>aH x.1 x.2.1 x.2.2.1 (fun r1 w'=>K (.int .i64 r1) w') w),(46,Ao (G46 aD))] zU Tryz.f11:=by kernel_rfl
theorem tV:AO 11 (G11 (F.ET env)):=AG (AA dD (AA rU (AA dL (AA rY (AA sA (AA sE (AA sI (AA dI (AA dK (AA sK (AA sL (AA dN (AA sO (AA sQ (AA sS (AA sU (AA tB (AA tJ (AA To (AA W7 (AA W8 (AA dQ (AA Wx (AA tQ (AA dV (AA tT (AA tU AE))))))))))))))))))))))))))) Tryz.func11 Tryz.call11 (Z11 _ _ _ _ _ _ _ _ _ _ _ _ _ _ _ _ _ _ _ _ _ _ _ _ _ _ _)
def tW(c:Y8):Sem [.one (.int .u32)]:=fun x K Kp w=>c x.1 (fun r1 w'=>K (.int .i64 r1) w') w
def tX:D6:={loops:=[],Ah:=[(4,[(0,.one (.int .u32)),(2,.one (.int .i64))]),(7,[(0,.one (.int .u32)),(2,.one (.int .i64))])]}
theorem Z184:tW (F.JC env)=Ab [] tX Tryz.f184:=by kernel_rfl
theorem kZ:AO 184 (tW (F.JC env)):=AG AE Tryz.func184 Tryz.call184 (Z184)
def tY(c:Y8):Sem [.one (.int .u64)]:=fun x K Kp w=>c x.1 (fun r1 w'=>K (.int .i64 r1) w') w
def tZ:D6:={loops:=[],Ah:=[(4,[(0,.one (.int .u64)),(2,.one (.int .i64))]),(7,[(0,.one (.int .u64)),(2,.one (.int .i64))]),(10,[(0,.one (.int .u64)),(2,.one (.int .i64))])]}
theorem Z185:tY (F.GY env)=Ab [] tZ Tryz.f185:=by kernel_rfl
theorem k8:AO 185 (tY (F.GY env)):=AG AE Tryz.func185 Tryz.call185 (Z185)
def k9(c:Y8):Sem [.one (.int .u64)]:=fun x K Kp w=>c x.1 (fun r1 w'=>K (.int .i64 r1) w') w
theorem Z148(c0:Y8):k9 (T0.Ek env c0)=Ab [(184,Ao (tW (F.JC env))),(185,Ao (tY c0))] By Tryz.f148:=by kernel_rfl
theorem Yj:AO 148 (k9 (F.Ek env)):=AG (AA kZ (AA k8 AE)) Tryz.func148 Tryz.call148 (Z148 _)
def uA(c:wU):Sem [.one (.sl),.one (.int .i64),.one (.int .i64),.one (.any)]:=fun x K Kp w=>c x.1 x.2.1 x.2.2.1 x.2.2.2.1 (fun w'=>K (.tuple ⟨[]⟩) w') w
noncomputable def zV:Entry:=Ao (uA (F.BT env))
def uB:D6:={loops:=[(1,[(8,.one (.int .i64))]),(4,[(9,.one (.int .i64))])],Ah:=[]}
theorem Z176:uA (F.BT env)=Ab [] uB Tryz.f176:=by kernel_rfl
theorem lA:AO 176 (uA (F.BT env)):=AG AE Tryz.func176 Tryz.call176 (Z176)
def uC(c:Y57):Sem [.one (.sl),.one (.int .i64),.one (.int .i64),.one (.int .i64),.one (.any)]:=fun x K Kp w=>c x.1 x.2.1 x.2.2.1 x.2.2.2.1 x.2.2.2.2.1 (fun w'=>K (.tuple ⟨[]⟩) w') w
def uD:D6:={loops:=[(1,[(10,.one (.int .i64))])],Ah:=[(4,[(40,.one (.bool))]),(5,[(11,.one (.int .i64))])]}
theorem Z198:uC (F.Cy env)=Ab [] uD Tryz.f198:=by kernel_rfl
theorem lB:AO 198 (uC (F.Cy env)):=AG AE Tryz.func198 Tryz.call198 (Z198)
def uE(c:wU):Sem [.one (.sl),.one (.int .i64),.one (.int .i64),.one (.any)]:=fun x K Kp w=>c x.1 x.2.1 x.2.2.1 x.2.2.2.1 (fun w'=>K (.tuple ⟨[]⟩) w') w
noncomputable def zW:Entry:=Ao (uE (F.A5 env))
def uF:D6:={loops:=[(4,[(11,.one (.int .i64))]),(8,[(12,.one (.int .i64))])],Ah:=[]}
theorem Z177(c0:Y57):uE (T0.A5 env c0)=Ab [(198,Ao (uC c0))] uF Tryz.f177:=by kernel_rfl
theorem lC:AO 177 (uE (F.A5 env)):=AG (AA lB AE) Tryz.func177 Tryz.call177 (Z177 _)
def uG(c:Y8):Sem [.one (.int .i64)]:=fun x K Kp w=>c x.1 (fun r1 w'=>K (.int .u64 r1) w') w
theorem Z199(c0:Y8):uG (T0.CQ env c0)=Ab [(148,Ao (k9 c0))] By Tryz.f199:=by kernel_rfl
theorem lD:AO 199 (uG (F.CQ env)):=AG (AA Yj AE) Tryz.func199 Tryz.call199 (Z199 _)
def uH(c:Jx):Sem [.one (.ptr)]:=fun x K Kp w=>c x.1 (fun r1 w'=>K (.int .u64 r1) w') w
theorem Z200:uH (F.Ev env)=Ab [] By Tryz.f200:=by kernel_rfl
theorem lE:AO 200 (uH (F.Ev env)):=AG AE Tryz.func200 Tryz.call200 (Z200)
def uI(c:wU):Sem [.one (.sl),.one (.int .i64),.one (.int .i64),.one (.any)]:=fun x K Kp w=>c x.1 x.2.1 x.2.2.1 x.2.2.2.1 (fun w'=>K (.tuple ⟨[]⟩) w') w
noncomputable def zX:Entry:=Ao (uI (F.Aq env))
def uJ:D6:={loops:=[(5,[(11,.one (.int .i64))])],Ah:=[(10,[(12,.one (.int .i64))])]}
theorem Z178(c0:Y8)(c1:Jx):uI (T0.Aq env c0 c1)=Ab [(199,Ao (uG c0)),(200,Ao (uH c1))] uJ Tryz.f178:=by kernel_rfl
theorem lF:AO 178 (uI (F.Aq env)):=AG (AA lD (AA lE AE)) Tryz.func178 Tryz.call178 (Z178 _ _)
def uK(c:Y59):Sem [.one (.sl),.one (.int .i64),.one (.int .i64),.one (.ptr),.one (.any)]:=fun x K Kp w=>c x.1 x.2.1 x.2.2.1 x.2.2.2.1 x.2.2.2.2.1 (fun r1 d w'=>K (.tuple ⟨[.int .i64 r1,.int .i64 d]⟩) w') w
theorem Z203:uK (F.DO env)=Ab [] By Tryz.f203:=by kernel_rfl
theorem lG:AO 203 (uK (F.DO env)):=AG AE Tryz.func203 Tryz.call203 (Z203)
def lH(c:wV):Sem [.one (.sl),.one (.int .i64),.one (.int .i64),.one (.int .i64),.one (.ptr),.one (.any)]:=fun x K Kp w=>c x.1 x.2.1 x.2.2.1 x.2.2.2.1 x.2.2.2.2.1 x.2.2.2.2.2.1 (fun r1 w'=>K (.int .i64 r1) w') w
theorem Z202(c0:Y59):lH (T0.BG env c0)=Ab [(203,Ao (uK c0))] By Tryz.f202:=by kernel_rfl
theorem Yk:AO 202 (lH (F.BG env)):=AG (AA lG AE) Tryz.func202 Tryz.call202 (Z202 _)
def uL(c:Y61):Sem [.one (.sl),.one (.int .i64),.one (.ptr),.one (.any)]:=fun x K Kp w=>c x.1 x.2.1 x.2.2.1 x.2.2.2.1 (fun r1 w'=>K (.int .i64 r1) w') w
theorem Z201(c0:wV):uL (T0.A7 env c0)=Ab [(202,Ao (lH c0))] By Tryz.f201:=by kernel_rfl
theorem lI:AO 201 (uL (F.A7 env)):=AG (AA Yk AE) Tryz.func201 Tryz.call201 (Z201 _)
def uM(c:Y62):Sem [.one (.sl),.one (.int .i64),.one (.int .i64),.one (.any)]:=fun x K Kp w=>c x.1 x.2.1 x.2.2.1 x.2.2.2.1 (fun r1 d w'=>K (.tuple ⟨[.int .i64 r1,.int .i64 d]⟩) w') w
noncomputable def zY:Entry:=Ao (uM (F.Au env))
def uN:D6:={loops:=[],Ah:=[(11,[(12,.one (.int .i64)),(13,.one (.int .i64)),(14,.one (.int .i64))]),(12,[(13,.one (.int .i64))])]}
theorem Z179(c0:Y61)(c1:wV):uM (T0.Au env c0 c1)=Ab [(201,Ao (uL c0)),(202,Ao (lH c1))] uN Tryz.f179:=by kernel_rfl
theorem lJ:AO 179 (uM (F.Au env)):=AG (AA lI (AA Yk AE)) Tryz.func179 Tryz.call179 (Z179 _ _)
def uO(c:wU):Sem [.one (.sl),.one (.int .i64),.one (.int .i64),.one (.any)]:=fun x K Kp w=>c x.1 x.2.1 x.2.2.1 x.2.2.2.1 (fun w'=>K (.tuple ⟨[]⟩) w') w
noncomputable def zZ:Entry:=Ao (uO (F.Bc env))
def uP:D6:={loops:=[(2,[(8,.one (.int .i64)),(9,.one (.int .i64))])],Ah:=[]}
theorem Z180:uO (F.Bc env)=Ab [] uP Tryz.f180:=by kernel_rfl
theorem lK:AO 180 (uO (F.Bc env)):=AG AE Tryz.func180 Tryz.call180 (Z180)
def uQ(c:Y69):Sem [.one (.sl),.one (.int .i64),.one (.int .i64),.one (.any)]:=fun x K Kp w=>c x.1 x.2.1 x.2.2.1 x.2.2.2.1 (fun r1 w'=>K (.bool r1) w') w
noncomputable def z3:Entry:=Ao (uQ (F.A1 env))
def uR:D6:={loops:=[(3,[(9,.one (.int .i64)),(10,.one (.int .i64))]),(5,[(9,.one (.int .i64))]),(14,[(11,.one (.int .i64))]),(20,[(12,.one (.int .i64))])],Ah:=[(7,[(9,.one (.int .i64))]),(18,[])]}
theorem Z181:uQ (F.A1 env)=Ab [] uR Tryz.f181:=by kernel_rfl
theorem lL:AO 181 (uQ (F.A1 env)):=AG AE Tryz.func181 Tryz.call181 (Z181)
def uS(c:Y70):Sem [.one (.sl),.one (.int .i64),.one (.int .i64),.one (.int .i64),.one (.any)]:=fun x K Kp w=>c x.1 x.2.1 x.2.2.1 x.2.2.2.1 x.2.2.2.2.1 (fun r1 w'=>K (.int .i64 r1) w') w
noncomputable def z4:Entry:=Ao (uS (F.Cr env))
def uT:D6:={loops:=[(3,[(11,.one (.int .i64)),(12,.one (.int .i64))]),(5,[(12,.one (.int .i64))])],Ah:=[(5,[(11,.one (.int .i64))]),(7,[(12,.one (.int .i64))])]}
theorem Z182:uS (F.Cr env)=Ab [] uT Tryz.f182:=by kernel_rfl
theorem lM:AO 182 (uS (F.Cr env)):=AG AE Tryz.func182 Tryz.call182 (Z182)
def uU(c:Y71):Sem [.one (.sl),.one (.int .i64),.one (.int .i64),.one (.int .i64),.one (.any)]:=fun x K Kp w=>c x.1 x.2.1 x.2.2.1 x.2.2.2.1 x.2.2.2.2.1 (fun r1 d w'=>K (.tuple ⟨[.int .i64 r1,.bool d]⟩) w') w
noncomputable def z5:Entry:=Ao (uU (F.B1 env))
def uV:D6:={loops:=[(3,[(12,.one (.int .i64))]),(5,[(13,.one (.int .i64))]),(13,[(12,.one (.int .i64)),(13,.one (.int .i64))]),(15,[(13,.one (.int .i64))])],Ah:=[(5,[(12,.one (.int .i64))]),(7,[(13,.one (.int .i64))]),(15,[(12,.one (.int .i64))]),(17,[(13,.one (.int .i64))])]}
theorem Z183:uU (F.B1 env)=Ab [] uV Tryz.f183:=by kernel_rfl
theorem lN:AO 183 (uU (F.B1 env)):=AG AE Tryz.func183 Tryz.call183 (Z183)
noncomputable def Yl(n:Nat):Entry:=fun args w K Kp=>unArgs [.one (.sl),.one (.int .i64),.one (.int .i64),.one (.int .i64),.one (.any)] args.toList fun x=>F.slices_pdqsortCmpFunc_int_ env n x.1 x.2.1 x.2.2.1 x.2.2.2.1 x.2.2.2.2.1 (fun w'=>K (.tuple ⟨[]⟩) w') w
noncomputable def z6:Entry:=fun args w K Kp=> ∃n,Yl n args w K Kp
noncomputable def Ym:Code:=(Tryz.f147.body).getD .skip
def dX:D6:={loops:=[(2,[(1,.one (.int .i64)),(2,.one (.int .i64)),(3,.one (.int .i64)),(10,.one (.bool)),(11,.one (.bool))])],Ah:=[(10,[(3,.one (.int .i64))]),(15,[(13,.one (.int .i64)),(14,.one (.int .i64))]),(16,[(75,.one (.bool))]),(17,[]),(18,[(97,.one (.bool))])]}
theorem uW(n:Nat)(x:HM [.one (.sl),.one (.int .i64),.one (.int .i64),.one (.int .i64),.one (.any)])(K Kp:Value->World->Prop)(w:World):F.slices_pdqsortCmpFunc_int_ env (n+1) x.1 x.2.1 x.2.2.1 x.2.2.2.1 x.2.2.2.2.1 (fun w'=>K (.tuple ⟨[]⟩) w') w=
 ev Tryz.prog (tabC [(176,zV),(177,zW),(178,zX),(179,zY),(180,zZ),(181,z3),(182,z4),(183,z5),(147,Yl n)]) (ground Tryz.prog) dX Ym (finQ Tryz.prog Tryz.f147 K Kp) (GU (mkArgs [.one (.sl),.one (.int .i64),.one (.int .i64),.one (.int .i64),.one (.any)] x)) w:=by kernel_rfl
theorem dY(n:Nat):HE Tryz.prog 147 (Yl n):=by
 induction n with
 | zero=>intro args w K Kp h;obtain⟨x,_,h⟩:=IE h;exact h.elim
 | succ n ih=>exact PA (T:=[(176,zV),(177,zW),(178,zX),(179,zY),(180,zZ),(181,z3),(182,z4),(183,z5),(147,Yl n)]) (A:=dX) (fn:=Tryz.f147) (c:=Ym) (AA lA (AA lC (AA lF (AA lJ (AA lK (AA lL (AA lM (AA lN (AA ih AE))))))))) mixed Tryz.func147 Tryz.call147 (by kernel_rfl) (by kernel_rfl) (by kernel_rfl) (uW n)
theorem lO:HE Tryz.prog 147 z6:=ZU dY
def G97(c:Y63):Sem [.one (.sl),.one (.any)]:=fun x K Kp w=>c x.1 x.2.1 (fun w'=>K (.tuple ⟨[]⟩) w') w
theorem Z97(c0:Y8):G97 (T0.BQ env c0)=Ab [(148,Ao (k9 c0)),(147,z6)] By Tryz.f97:=by kernel_rfl
theorem uX:AO 97 (G97 (F.BQ env)):=AG (AA Yj (AA lO AE)) Tryz.func97 Tryz.call97 (Z97 _)
def G47(c:YF):Sem [.one (.ptr)]:=fun x K Kp w=>c x.1 (fun r1 w'=>K (.slice r1.base r1.len r1.cap) w') w
def z7:D6:={loops:=[(3,[(3,.one (.sl))])],Ah:=[(4,[(11,.one (.bool))])]}
theorem Z47(c0:Y63):G47 (T0.Dz env c0)=Ab [(97,Ao (G97 c0))] z7 Tryz.f47:=by kernel_rfl
theorem uY:AO 47 (G47 (F.Dz env)):=AG (AA uX AE) Tryz.func47 Tryz.call47 (Z47 _)
def G48(c:YF):Sem [.one (.ptr)]:=fun x K Kp w=>c x.1 (fun r1 w'=>K (.slice r1.base r1.len r1.cap) w') w
def z8:D6:={loops:=[(3,[(3,.one (.sl)),(4,.one (.int .i64))])],Ah:=[]}
theorem Z48:G48 (F.EC env)=Ab [] z8 Tryz.f48:=by kernel_rfl
theorem uZ:AO 48 (G48 (F.EC env)):=AG AE Tryz.func48 Tryz.call48 (Z48)
def dZ(c:Jx):Sem [.one (.ptr)]:=fun x K Kp w=>c x.1 (fun r1 w'=>K (.int .u64 r1) w') w
theorem Z103:dZ (F.Dj env)=Ab [] By Tryz.f103:=by kernel_rfl
theorem Tq:AO 103 (dZ (F.Dj env)):=AG AE Tryz.func103 Tryz.call103 (Z103)
def u0(c:Jx):Sem [.one (.ptr)]:=fun x K Kp w=>c x.1 (fun r1 w'=>K (.int .u64 r1) w') w
theorem Z100(c0:Jx):u0 (T0.Bx env c0)=Ab [(103,Ao (dZ c0))] By Tryz.f100:=by kernel_rfl
theorem lP:AO 100 (u0 (F.Bx env)):=AG (AA Tq AE) Tryz.func100 Tryz.call100 (Z100 _)
def u5(c:Jx):Sem [.one (.ptr)]:=fun x K Kp w=>c x.1 (fun r1 w'=>K (.int .u64 r1) w') w
theorem Z101(c0:Jx):u5 (T0.EU env c0)=Ab [(103,Ao (dZ c0))] By Tryz.f101:=by kernel_rfl
theorem lQ:AO 101 (u5 (F.EU env)):=AG (AA Tq AE) Tryz.func101 Tryz.call101 (Z101 _)
def G49(c:WZ):Sem [.one (.ptr)]:=fun x K Kp w=>c x.1 (fun r1 d j w'=>K (.tuple ⟨[.int .u64 r1,.int .u64 d,.int .u64 j]⟩) w') w
def z9:D6:={loops:=[(3,[(5,.one (.int .u64)),(20,.one (.int .i64))]),(6,[(5,.one (.int .u64)),(10,.one (.int .u64))])],Ah:=[]}
theorem Z49(c0:Jx)(c1:WZ)(c2:Jx):G49 (T0.DL env c0 c1 c2)=Ab [(100,Ao (u0 c0)),(89,Ao (G89 c1)),(101,Ao (u5 c2))] z9 Tryz.f49:=by kernel_rfl
theorem eA:AO 49 (G49 (F.DL env)):=AG (AA lP (AA dP (AA lQ AE))) Tryz.func49 Tryz.call49 (Z49 _ _ _)
def u6(c:HU):Sem [.one (.ptr),.one (.int .i64),.one (.int .i64)]:=fun x K Kp w=>c x.1 x.2.1 x.2.2.1 (fun r1 w'=>K (.int .i64 r1) w') w
def u7:D6:={loops:=[(5,[(7,.one (.int .i64)),(8,.one (.int .i64))])],Ah:=[]}
theorem Z186(c0:Rx):u6 (T0.Cf env c0)=Ab [(197,Ao (kI c0))] u7 Tryz.f186:=by kernel_rfl
theorem lR:AO 186 (u6 (F.Cf env)):=AG (AA Ye AE) Tryz.func186 Tryz.call186 (Z186 _)
def u9(c:Jx):Sem [.one (.ptr)]:=fun x K Kp w=>c x.1 (fun r1 w'=>K (.int .i64 r1) w') w
theorem Z150(c0:HU):u9 (T0.BZ env c0)=Ab [(186,Ao (u6 c0))] By Tryz.f150:=by kernel_rfl
theorem lS:AO 150 (u9 (F.BZ env)):=AG (AA lR AE) Tryz.func150 Tryz.call150 (Z150 _)
def vA(c:Jx):Sem [.one (.ptr)]:=fun x K Kp w=>c x.1 (fun r1 w'=>K (.int .u64 r1) w') w
def vB:D6:={loops:=[(3,[(3,.one (.int .i64)),(4,.one (.int .i64))])],Ah:=[]}
theorem Z102(c0:Jx):vA (T0.BO env c0)=Ab [(150,Ao (u9 c0))] vB Tryz.f102:=by kernel_rfl
theorem lT:AO 102 (vA (F.BO env)):=AG (AA lS AE) Tryz.func102 Tryz.call102 (Z102 _)
def G50(c:WZ):Sem [.one (.ptr)]:=fun x K Kp w=>c x.1 (fun r1 d j w'=>K (.tuple ⟨[.int .u64 r1,.int .u64 d,.int .u64 j]⟩) w') w
def AA0:D6:={loops:=[(3,[(5,.one (.int .u64)),(7,.one (.int .i64))]),(7,[(6,.one (.int .u64)),(8,.one (.int .i64))]),(10,[(6,.one (.int .u64)),(9,.one (.int .i64))])],Ah:=[(13,[(64,.one (.bool))])]}
theorem Z50(c0:Jx):G50 (T0.CC env c0)=Ab [(102,Ao (vA c0))] AA0 Tryz.f50:=by kernel_rfl
theorem vC:AO 50 (G50 (F.CC env)):=AG (AA lT AE) Tryz.func50 Tryz.call50 (Z50 _)
def G51(c:Fy):Sem [.one (.ptr),.one (.int .i64)]:=fun x K Kp w=>c x.1 x.2.1 (fun r1 w'=>K (.int .u64 r1) w') w
theorem Z51(c0:Jx):G51 (T0.ED env c0)=Ab [(103,Ao (dZ c0))] By Tryz.f51:=by kernel_rfl
theorem vD:AO 51 (G51 (F.ED env)):=AG (AA Tq AE) Tryz.func51 Tryz.call51 (Z51 _)
def G52(c:Fy):Sem [.one (.ptr),.one (.int .i64)]:=fun x K Kp w=>c x.1 x.2.1 (fun r1 w'=>K (.int .u64 r1) w') w
def AA1:D6:={loops:=[(3,[(5,.one (.int .u64)),(6,.one (.int .i64))])],Ah:=[(6,[(29,.one (.bool))])]}
theorem Z52:G52 (F.Ew env)=Ab [] AA1 Tryz.f52:=by kernel_rfl
theorem vE:AO 52 (G52 (F.Ew env)):=AG AE Tryz.func52 Tryz.call52 (Z52)
def G53(c:Fy):Sem [.one (.ptr),.one (.int .u64)]:=fun x K Kp w=>c x.1 x.2.1 (fun r1 w'=>K (.int .i64 r1) w') w
theorem Z53(c0:R9):G53 (T0.EE env c0)=Ab [(104,Ao (dO c0))] By Tryz.f53:=by kernel_rfl
theorem vF:AO 53 (G53 (F.EE env)):=AG (AA Tp AE) Tryz.func53 Tryz.call53 (Z53 _)
def G12(c:g9):Sem [.one (.ptr),.one (.ptr),.one (.int .i64)]:=fun x K Kp w=>c x.1 x.2.1 x.2.2.1 (fun r1 w'=>K (.bool r1) w') w
def AA2:D6:={loops:=[(8,[(13,.one (.int .i64))]),(13,[(14,.one (.int .i64))]),(16,[(15,.one (.int .i64))]),(24,[(21,.one (.int .i64))])],Ah:=[(6,[(52,.one (.bool))]),(22,[(144,.one (.bool))])]}
theorem Z12(c0:YF)(c1:YF)(c2:xQ)(c3:WZ)(T:WZ)(K:Y3)(Y:Fy)(J:Fy)(c8:Lv)(O:Lv)(j:Fy)(C:Fy)(v:Fy)(y:Fy)(d:g9):G12 (T0.D0 env c0 c1 c2 c3 T K Y J c8 O j C v y d)=Ab [(47,Ao (G47 c0)),(48,Ao (G48 c1)),(32,Ao (G32 c2)),(49,Ao (G49 c3)),(50,Ao (G50 T)),(10,Ao (xZ K)),(51,Ao (G51 Y)),(52,Ao (G52 J)),(41,Ao (zM c8)),(42,Ao (G42 O)),(53,Ao (G53 j)),(54,Ao (G54 C)),(39,Ao (wY v)),(40,Ao (zK y)),(23,Ao (G23 d))] AA2 Tryz.f12:=by kernel_rfl
theorem vG:AO 12 (G12 (F.D0 env)):=AG (AA uY (AA uZ (AA dN (AA eA (AA vC (AA Wx (AA vD (AA vE (AA W8 (AA dQ (AA vF (AA dF (AA To (AA W7 (AA dL AE))))))))))))))) Tryz.func12 Tryz.call12 (Z12 _ _ _ _ _ _ _ _ _ _ _ _ _ _ _)
def G13(c:Y64):Sem []:=fun x K Kp w=>c (fun r1 w'=>K (.bool r1) w') w
theorem Z13(c0:Y1)(c1:Y3)(c2:g8)(c3:Lv)(j:WZ)(d:Fy):G13 (T0.DY env c0 c1 c2 c3 j d)=Ab [(5,Ao (G5 c0)),(9,Ao (G9 c1)),(21,Ao (G21 c2)),(41,Ao (zM c3)),(49,Ao (G49 j)),(39,Ao (wY d))] By Tryz.f13:=by kernel_rfl
theorem vH:AO 13 (G13 (F.DY env)):=AG (AA nL (AA nM (AA dD (AA W8 (AA eA (AA To AE)))))) Tryz.func13 Tryz.call13 (Z13 _ _ _ _ _ _)
def G3(c:xR):Sem [.agg [.sl,.sl,.sl],.one (.sl)]:=fun x K Kp w=>c x.1.1 x.1.2.1 x.1.2.2.1 x.2.1 (fun r1 w'=>K (.bool r1) w') w
def ann3:D6:={loops:=[(11,[(8,.one (.int .i64))])],Ah:=[(9,[(29,.one (.bool))]),(14,[(54,.one (.bool))])]}
theorem Z3(c0:xR)(c1:Y66)(c2:Y1)(c3:Y1)(y:Y3)(j:Y3)(C:Y3)(d:Y56)(c8:g9)(v:Y64):G3 (T0.Br env c0 c1 c2 c3 y j C d c8 v)=Ab [(4,Ao (G4 c0)),(6,Ao (G6 c1)),(5,Ao (G5 c2)),(8,Ao (G8 c3)),(7,Ao (G7 y)),(9,Ao (G9 j)),(10,Ao (xZ C)),(11,Ao (G11 d)),(12,Ao (G12 c8)),(13,Ao (G13 v))] ann3 Tryz.f3:=by kernel_rfl
theorem AA3:AO 3 (G3 (F.Br env)):=AG (AA xS (AA xT (AA nL (AA xU (AA xW (AA nM (AA Wx (AA tV (AA vG (AA vH AE)))))))))) Tryz.func3 Tryz.call3 (Z3 _ _ _ _ _ _ _ _ _ _)
def vI(c:Y6):Sem [.one (.int .u64)]:=fun x K Kp w=>c x.1 (fun r1 w'=>K (.bool r1) w') w
theorem Z149:vI (F.Gj env)=Ab [] By Tryz.f149:=by kernel_rfl
theorem lU:AO 149 (vI (F.Gj env)):=AG AE Tryz.func149 Tryz.call149 (Z149)
def G99(c:Y7):Sem [.one (.int .u64),.one (.int .u64)]:=fun x K Kp w=>c x.1 x.2.1 (fun r1 w'=>K (.int .i64 r1) w') w
theorem Z99(c0:Y6):G99 (T0.Cv env c0)=Ab [(149,Ao (vI c0))] By Tryz.f99:=by kernel_rfl
theorem vJ:AO 99 (G99 (F.Cv env)):=AG (AA lU AE) Tryz.func99 Tryz.call99 (Z99 _)
def G98(c:Y67):Sem [.one (.int .i64),.one (.int .i64),.one (.ptr)]:=fun x K Kp w=>c x.1 x.2.1 x.2.2.1 (fun r1 w'=>K (.int .i64 r1) w') w
theorem Z98(c0:Zc)(c1:Y7):G98 (T0.C9 env c0 c1)=Ab [(62,Ao (wX c0)),(99,Ao (G99 c1))] By Tryz.f98:=by kernel_rfl
theorem eB:AO 98 (G98 (F.C9 env)):=AG (AA Tm (AA vJ AE)) Tryz.func98 Tryz.call98 (Z98 _ _)
def vK(c:bE):Sem [.one (.ptr),.one (.int .u64)]:=fun x K Kp w=>c x.1 x.2.1 (fun r1 w'=>K (.pointer r1) w') w
def vL:D6:={loops:=[(7,[(25,.one (.int .i64))])],Ah:=[]}
theorem Z127(c0:Fy)(c1:Jw):vK (T0.Ey env c0 c1)=Ab [(144,Ao (kY c0)),(125,Ao (jU c1))] vL Tryz.f127:=by kernel_rfl
theorem lV:AO 127 (vK (F.Ey env)):=AG (AA Yh (AA YU AE)) Tryz.func127 Tryz.call127 (Z127 _ _)
def AA4(c:Y68):Sem [.one (.int .u64),.one (.int .u64),.one (.ptr),.one (.ptr)]:=fun x K Kp w=>c x.1 x.2.1 x.2.2.1 x.2.2.2.1 (fun w'=>K (.tuple ⟨[]⟩) w') w
def vM:D6:={loops:=[(1,[(6,.one (.int .u64))])],Ah:=[]}
theorem Z126(c0:bE):AA4 (T0.EV env c0)=Ab [(127,Ao (vK c0))] vM Tryz.f126:=by kernel_rfl
theorem Yn:AO 126 (AA4 (F.EV env)):=AG (AA lV AE) Tryz.func126 Tryz.call126 (Z126 _)
def AA5(c:Y72):Sem [.one (.int .i64),.one (.ptr),.one (.ptr)]:=fun x K Kp w=>c x.1 x.2.1 x.2.2.1 (fun r1 w'=>K (.bool r1) w') w
theorem Z188:AA5 (F.D5 env)=Ab [] By Tryz.f188:=by kernel_rfl
theorem Yo:AO 188 (AA5 (F.D5 env)):=AG AE Tryz.func188 Tryz.call188 (Z188)
end Go.Sh
set_option linter.all false
namespace Go.Sh
theorem eC{E:Env}{i:Int}{j v:Option Addr}{w:World}{K d:Bool->World->Prop}(hk: ∀b w',K b w'->d b w')(h:F.D5 E i j v K w):F.D5 E i j v d w:=by
 unfold F.D5 at h⊢;obtain⟨q1,rfl,x2,J,h⟩:=Ho h;obtain⟨C,rfl,x4,y,h⟩:=Ho h;obtain⟨q5,h5,hi,T,O,h⟩:=Ho h;obtain⟨q7,rfl,Y,h8,h⟩:=Ho h;refine⟨some C,J,x4,y,?_⟩;rw[h5];exact⟨hi,T,O,Y,h8,hk _ _ h⟩
theorem VC{P:Program}(g:FuncId)(args:Array Value)(w:World)(K d:Value->World->Prop)(j: ∀v w',K v w'->d v w')(h:ground P g args w K LU):ground P g args w d LU:=
 ⟨h.1,h.2.mono fun e w' hE=>let⟨v,hv,h⟩:=hE.val; .inl ⟨v,hv,j v w' h⟩⟩
end Go.Sh

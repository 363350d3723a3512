/- Each shallow form is what the code of its function comes to, piece 2. No further condition. -/
import Derived.Test.YtcjamkpfbpfeoaaGreatDoorT
import Derived.Test.YtcjamkpfbpfeoaaGreatDoorProg
import Derived.KernelRfl
set_option linter.all false
set_option maxRecDepth 100000
set_option maxHeartbeats 4000000
namespace Go.Sh
open Go.Proofs
def j9(c:wS):Sem [.one (.ptr),.one (.int .u64),.one (.int .u64),.one (.bool),.one (.bool)]:=fun x K Kp w=>c x.1 x.2.1 x.2.2.1 x.2.2.2.1 x.2.2.2.2.1 (fun w'=>K (.tuple ⟨[]⟩) w') w
def rB:D6:={loops:=[(1,[(10,.one (.int .u64))])],Ah:=[]}
theorem Z132(c0:Kl):j9 (T0.CR env c0)=Ab [(146,Ao (Zd c0))] rB Tryz.f132:=by kernel_rfl
theorem Ya:AO 132 (j9 (F.CR env)):=AG (AA P6 AE) Tryz.func132 Tryz.call132 (Z132 _)
def kA(c:JS):Sem [.one (.ptr),.one (.int .u64),.one (.int .u64)]:=fun x K Kp w=>c x.1 x.2.1 x.2.2.1 (fun r1 d w'=>K (.tuple ⟨[.int .u64 r1,.int .i64 d]⟩) w') w
theorem Z167(c0:bD)(c1:JS)(c2:wS):kA (T0.Bg env c0 c1 c2)=Ab [(130,Ao (j7 c0)),(131,Ao (j8 c1)),(132,Ao (j9 c2))] By Tryz.f167:=by kernel_rfl
theorem Yb:AO 167 (kA (F.Bg env)):=AG (AA YY (AA YZ (AA Ya AE))) Tryz.func167 Tryz.call167 (Z167 _ _ _)
def rC(c:Sc):Sem [.one (.ptr),.one (.ptr)]:=fun x K Kp w=>c x.1 x.2.1 (fun r1 w'=>K (.int .i64 r1) w') w
def rD:D6:={loops:=[(8,[(7,.one (.int .i64))])],Ah:=[]}
theorem Z116(c0:Sb)(c1:iK)(c2:nH)(c3:JS):rC (T0.B3 env c0 c1 c2 c3)=Ab [(115,Ao (jZ c0)),(166,Ao (qX c1)),(90,Ao (yL c2)),(167,Ao (kA c3))] rD Tryz.f116:=by kernel_rfl
theorem kB:AO 116 (rC (F.B3 env)):=AG (AA YW (AA j6 (AA W4 (AA Yb AE)))) Tryz.func116 Tryz.call116 (Z116 _ _ _ _)
def rE(c:WY):Sem [.one (.ptr),.one (.int .i64)]:=fun x K Kp w=>c x.1 x.2.1 (fun r1 d j w'=>K (.tuple ⟨[.int .u64 r1,.int .i64 d,.int .i64 j]⟩) w') w
def rG:D6:={loops:=[(5,[(7,.one (.int .i64)),(8,.one (.int .i64))]),(13,[(9,.one (.int .i64)),(10,.one (.int .i64))])],Ah:=[(2,[(16,.one (.bool))]),(10,[(7,.one (.int .i64))]),(17,[(9,.one (.int .i64))])]}
theorem Z117:rE (F.Dv env)=Ab [] rG Tryz.f117:=by kernel_rfl
theorem kC:AO 117 (rE (F.Dv env)):=AG AE Tryz.func117 Tryz.call117 (Z117)
def rH(c:WY):Sem [.one (.ptr),.one (.int .u64)]:=fun x K Kp w=>c x.1 x.2.1 (fun r1 d j w'=>K (.tuple ⟨[.int .u64 r1,.int .u64 d,.int .i64 j]⟩) w') w
theorem Z118(c0:Kl)(c1:JS):rH (T0.Bp env c0 c1)=Ab [(168,Ao (j5 c0)),(167,Ao (kA c1))] By Tryz.f118:=by kernel_rfl
theorem kD:AO 118 (rH (F.Bp env)):=AG (AA YX (AA Yb AE)) Tryz.func118 Tryz.call118 (Z118 _ _)
def kE(c:Sb):Sem [.one (.ptr)]:=fun x K Kp w=>c x.1 (fun r1 w'=>K (.bool r1) w') w
theorem Z169:kE (F.DH env)=Ab [] By Tryz.f169:=by kernel_rfl
theorem Yc:AO 169 (kE (F.DH env)):=AG AE Tryz.func169 Tryz.call169 (Z169)
def dE(c:Rx):Sem [.one (.int .u64),.one (.int .u64)]:=fun x K Kp w=>c x.1 x.2.1 (fun r1 w'=>K (.bool r1) w') w
theorem Z142:dE (F.Dw env)=Ab [] By Tryz.f142:=by kernel_rfl
theorem Tn:AO 142 (dE (F.Dw env)):=AG AE Tryz.func142 Tryz.call142 (Z142)
def nN(c:Kl):Sem [.one (.ptr),.one (.int .u64)]:=fun x K Kp w=>c x.1 x.2.1 (fun r1 d w'=>K (.tuple ⟨[.int .i64 r1,.bool d]⟩) w') w
def yM:D6:={loops:=[(2,[(6,.one (.int .i64)),(7,.one (.int .i64))])],Ah:=[]}
theorem Z94:nN (F.Bb env)=Ab [] yM Tryz.f94:=by kernel_rfl
theorem Om:AO 94 (nN (F.Bb env)):=AG AE Tryz.func94 Tryz.call94 (Z94)
def kF(c:U5):Sem [.one (.ptr),.one (.int .u64),.one (.int .u64)]:=fun x K Kp w=>c x.1 x.2.1 x.2.2.1 (fun r1 d w'=>K (.tuple ⟨[.int .u64 r1,.bool d]⟩) w') w
def rI:D6:={loops:=[],Ah:=[(3,[(36,.one (.bool))])]}
theorem Z170(c0:Kl):kF (T0.BC env c0)=Ab [(94,Ao (nN c0))] rI Tryz.f170:=by kernel_rfl
theorem Yd:AO 170 (kF (F.BC env)):=AG (AA Om AE) Tryz.func170 Tryz.call170 (Z170 _)
def rJ(c:U5):Sem [.one (.ptr),.one (.int .u64),.one (.int .u64)]:=fun x K Kp w=>c x.1 x.2.1 x.2.2.1 (fun r1 d w'=>K (.tuple ⟨[.int .u64 r1,.bool d]⟩) w') w
def rK:D6:={loops:=[(4,[(8,.one (.int .u64))])],Ah:=[(4,[(8,.one (.int .u64))]),(8,[(8,.one (.int .u64))]),(9,[(31,.one (.bool))])]}
theorem Z171(c0:U5):rJ (T0.Bh env c0)=Ab [(170,Ao (kF c0))] rK Tryz.f171:=by kernel_rfl
theorem kG:AO 171 (rJ (F.Bh env)):=AG (AA Yd AE) Tryz.func171 Tryz.call171 (Z171 _)
def rL(c:JS):Sem [.one (.ptr),.one (.int .u64),.one (.int .u64)]:=fun x K Kp w=>c x.1 x.2.1 x.2.2.1 (fun r1 d w'=>K (.tuple ⟨[.int .u64 r1,.int .i64 d]⟩) w') w
def rM:D6:={loops:=[(21,[(12,.one (.sl)),(13,.one (.int .u64))])],Ah:=[(2,[(24,.one (.bool))]),(10,[(9,.one (.bool))]),(12,[(8,.one (.int .u64)),(9,.one (.bool))]),(14,[(8,.one (.int .u64)),(9,.one (.bool))]),(16,[(8,.one (.int .u64)),(9,.one (.bool))])]}
theorem Z119(c0:Sb)(c1:Rx)(c2:U5)(c3:U5)(d:Kl):rL (T0.B4 env c0 c1 c2 c3 d)=Ab [(169,Ao (kE c0)),(142,Ao (dE c1)),(170,Ao (kF c2)),(171,Ao (rJ c3)),(94,Ao (nN d))] rM Tryz.f119:=by kernel_rfl
theorem kH:AO 119 (rL (F.B4 env)):=AG (AA Yc (AA Tn (AA Yd (AA kG (AA Om AE))))) Tryz.func119 Tryz.call119 (Z119 _ _ _ _ _)
def kI(c:Rx):Sem [.one (.int .i64),.one (.int .i64)]:=fun x K Kp w=>c x.1 x.2.1 (fun r1 w'=>K (.bool r1) w') w
theorem Z197:kI (F.FP env)=Ab [] By Tryz.f197:=by kernel_rfl
theorem Ye:AO 197 (kI (F.FP env)):=AG AE Tryz.func197 Tryz.call197 (Z197)
def kJ(c:YG):Sem [.one (.ptr),.one (.int .i64),.one (.int .i64),.one (.bool)]:=fun x K Kp w=>c x.1 x.2.1 x.2.2.1 x.2.2.2.1 (fun r1 w'=>K (.int .i64 r1) w') w
def rN:D6:={loops:=[(4,[(9,.one (.int .i64))])],Ah:=[]}
theorem Z175(c0:Rx):kJ (T0.Cj env c0)=Ab [(197,Ao (kI c0))] rN Tryz.f175:=by kernel_rfl
theorem Yf:AO 175 (kJ (F.Cj env)):=AG (AA Ye AE) Tryz.func175 Tryz.call175 (Z175 _)
def rO(c:Y5):Sem []:=fun x K Kp w=>c (fun r1 w'=>K (.pointer r1) w') w
theorem Z172(c0:YG):rO (T0.Es env c0)=Ab [(175,Ao (kJ c0))] By Tryz.f172:=by kernel_rfl
theorem kK:AO 172 (rO (F.Es env)):=AG (AA Yf AE) Tryz.func172 Tryz.call172 (Z172 _)
def rP(c:HU):Sem [.one (.ptr),.one (.int .u64),.one (.int .u64)]:=fun x K Kp w=>c x.1 x.2.1 x.2.2.1 (fun r1 w'=>K (.int .i64 r1) w') w
def rQ:D6:={loops:=[(8,[(9,.one (.sl)),(10,.one (.int .u64))])],Ah:=[(2,[(26,.one (.bool))]),(5,[(53,.one (.bool))])]}
theorem Z120(c0:Kl)(c1:Y5):rP (T0.B5 env c0 c1)=Ab [(146,Ao (Zd c0)),(172,Ao (rO c1))] rQ Tryz.f120:=by kernel_rfl
theorem kL:AO 120 (rP (F.B5 env)):=AG (AA P6 (AA kK AE)) Tryz.func120 Tryz.call120 (Z120 _ _)
def rR(c:HU):Sem [.one (.ptr),.one (.int .u64),.one (.int .u64)]:=fun x K Kp w=>c x.1 x.2.1 x.2.2.1 (fun r1 w'=>K (.int .i64 r1) w') w
def rS:D6:={loops:=[(8,[(9,.one (.bool)),(10,.one (.int .u64))]),(19,[(12,.one (.int .i64))])],Ah:=[(25,[(94,.one (.bool))]),(27,[(14,.one (.int .u64))])]}
theorem Z121(c0:Rx)(c1:Kl)(c2:Sb):rR (T0.CM env c0 c1 c2)=Ab [(142,Ao (dE c0)),(94,Ao (nN c1)),(169,Ao (kE c2))] rS Tryz.f121:=by kernel_rfl
theorem kM:AO 121 (rR (F.CM env)):=AG (AA Tn (AA Om (AA Yc AE))) Tryz.func121 Tryz.call121 (Z121 _ _ _)
def G54(c:Fy):Sem [.one (.ptr),.one (.int .u64)]:=fun x K Kp w=>c x.1 x.2.1 (fun r1 w'=>K (.int .i64 r1) w') w
theorem Z54(c0:Kl):G54 (T0.B6 env c0)=Ab [(94,Ao (nN c0))] By Tryz.f54:=by kernel_rfl
theorem dF:AO 54 (G54 (F.B6 env)):=AG (AA Om AE) Tryz.func54 Tryz.call54 (Z54 _)
def yN(c:YG):Sem [.one (.ptr),.one (.int .u64),.one (.int .u64),.one (.bool)]:=fun x K Kp w=>c x.1 x.2.1 x.2.2.1 x.2.2.2.1 (fun r1 w'=>K (.int .i64 r1) w') w
theorem Z72(c0:bD)(c1:JS)(c2:wS):yN (T0.BD env c0 c1 c2)=Ab [(130,Ao (j7 c0)),(131,Ao (j8 c1)),(132,Ao (j9 c2))] By Tryz.f72:=by kernel_rfl
theorem W5:AO 72 (yN (F.BD env)):=AG (AA YY (AA YZ (AA Ya AE))) Tryz.func72 Tryz.call72 (Z72 _ _ _)
def G60(c:JS):Sem [.one (.ptr),.one (.int .i64),.one (.int .u64)]:=fun x K Kp w=>c x.1 x.2.1 x.2.2.1 (fun r1 d w'=>K (.tuple ⟨[.int .u64 r1,.int .i64 d]⟩) w') w
def yO:D6:={loops:=[(20,[(13,.one (.int .u64))])],Ah:=[(3,[(23,.one (.bool))]),(5,[]),(6,[(8,.one (.int .u64)),(9,.one (.int .i64))]),(8,[(8,.one (.int .u64)),(9,.one (.int .i64))]),(16,[(8,.one (.int .u64)),(9,.one (.int .i64))])]}
theorem Z60(c0:Sb)(c1:Sc)(c2:WY)(c3:WY)(v:JS)(j:HU)(y:HU)(d:Fy)(c8:YG):G60 (T0.Be env c0 c1 c2 c3 v j y d c8)=Ab [(115,Ao (jZ c0)),(116,Ao (rC c1)),(117,Ao (rE c2)),(118,Ao (rH c3)),(119,Ao (rL v)),(120,Ao (rP j)),(121,Ao (rR y)),(54,Ao (G54 d)),(72,Ao (yN c8))] yO Tryz.f60:=by kernel_rfl
theorem dG:AO 60 (G60 (F.Be env)):=AG (AA YW (AA kB (AA kC (AA kD (AA kH (AA kL (AA kM (AA dF (AA W5 AE))))))))) Tryz.func60 Tryz.call60 (Z60 _ _ _ _ _ _ _ _ _)
def rT(c:Jx):Sem [.one (.ptr)]:=fun x K Kp w=>c x.1 (fun r1 w'=>K (.int .i64 r1) w') w
theorem Z122:rT (F.Et env)=Ab [] By Tryz.f122:=by kernel_rfl
theorem kN:AO 122 (rT (F.Et env)):=AG AE Tryz.func122 Tryz.call122 (Z122)
def G61(c:Sc):Sem [.one (.ptr),.one (.ptr)]:=fun x K Kp w=>c x.1 x.2.1 (fun r1 w'=>K (.int .i64 r1) w') w
def yP:D6:={loops:=[(3,[(6,.one (.int .i64))])],Ah:=[(5,[(6,.one (.int .i64))])]}
theorem Z61(c0:Jx):G61 (T0.B7 env c0)=Ab [(122,Ao (rT c0))] yP Tryz.f61:=by kernel_rfl
theorem dH:AO 61 (G61 (F.B7 env)):=AG (AA kN AE) Tryz.func61 Tryz.call61 (Z61 _)
def G22(c:g8):Sem [.one (.ptr),.one (.int .i64),.one (.int .u64),.one (.int .i64),.one (.bool)]:=fun x K Kp w=>c x.1 x.2.1 x.2.2.1 x.2.2.2.1 x.2.2.2.2.1 (fun r1 d w'=>K (.tuple ⟨[.int .i64 r1,.int .i64 d]⟩) w') w
theorem Z22(c0:nG)(c1:JS)(c2:Sc):G22 (T0.B8 env c0 c1 c2)=Ab [(59,Ao (G59 c0)),(60,Ao (G60 c1)),(61,Ao (G61 c2))] By Tryz.f22:=by kernel_rfl
theorem rU:AO 22 (G22 (F.B8 env)):=AG (AA qT (AA dG (AA dH AE))) Tryz.func22 Tryz.call22 (Z22 _ _ _)
def G28(c:xO):Sem [.one (.ptr),.one (.int .i64)]:=fun x K Kp w=>c x.1 x.2.1 (fun r1 d w'=>K (.tuple ⟨[.pointer r1,.int .i64 d]⟩) w') w
theorem Z28:G28 (F.E9 env)=Ab [] By Tryz.f28:=by kernel_rfl
theorem dI:AO 28 (G28 (F.E9 env)):=AG AE Tryz.func28 Tryz.call28 (Z28)
def G70(c:Fy):Sem [.one (.ptr),.one (.int .i64)]:=fun x K Kp w=>c x.1 x.2.1 (fun r1 w'=>K (.int .i64 r1) w') w
def yQ:D6:={loops:=[(2,[(5,.one (.int .i64))])],Ah:=[]}
theorem Z70:G70 (F.DZ env)=Ab [] yQ Tryz.f70:=by kernel_rfl
theorem dJ:AO 70 (G70 (F.DZ env)):=AG AE Tryz.func70 Tryz.call70 (Z70)
def G29(c:bE):Sem [.one (.ptr),.one (.int .i64)]:=fun x K Kp w=>c x.1 x.2.1 (fun r1 w'=>K (.pointer r1) w') w
theorem Z29(c0:Fy):G29 (T0.BV env c0)=Ab [(70,Ao (G70 c0))] By Tryz.f29:=by kernel_rfl
theorem dK:AO 29 (G29 (F.BV env)):=AG (AA dJ AE) Tryz.func29 Tryz.call29 (Z29 _)
def kO(c:Jx):Sem [.one (.ptr)]:=fun x K Kp w=>c x.1 (fun r1 w'=>K (.int .i64 r1) w') w
def rV:D6:={loops:=[(3,[(3,.one (.int .i64)),(4,.one (.int .i64))])],Ah:=[]}
theorem Z123:kO (F.DI env)=Ab [] rV Tryz.f123:=by kernel_rfl
theorem Yg:AO 123 (kO (F.DI env)):=AG AE Tryz.func123 Tryz.call123 (Z123)
def G63(c:Zc):Sem [.one (.ptr)]:=fun x K Kp w=>c x.1 (fun r1 J Y y O v T C j d w'=>K (.agg ⟨[.int .u64 r1,.int .i64 J,.int .i64 Y,.int .i64 y,.bool O,.int .i64 v,.int .i64 T,.int .i64 C,.bool j,.bool d]⟩) w') w
theorem Z63(c0:Jx):G63 (T0.CN env c0)=Ab [(123,Ao (kO c0))] By Tryz.f63:=by kernel_rfl
theorem rW:AO 63 (G63 (F.CN env)):=AG (AA Yg AE) Tryz.func63 Tryz.call63 (Z63 _)
def G23(c:g9):Sem [.one (.ptr),.one (.ptr),.one (.int .i64)]:=fun x K Kp w=>c x.1 x.2.1 x.2.2.1 (fun r1 w'=>K (.bool r1) w') w
theorem Z23(c0:xO)(c1:bE)(c2:Zc)(c3:Zc):G23 (T0.DJ env c0 c1 c2 c3)=Ab [(28,Ao (G28 c0)),(29,Ao (G29 c1)),(62,Ao (wX c2)),(63,Ao (G63 c3))] By Tryz.f23:=by kernel_rfl
theorem dL:AO 23 (G23 (F.DJ env)):=AG (AA dI (AA dK (AA Tm (AA rW AE)))) Tryz.func23 Tryz.call23 (Z23 _ _ _ _)
def G64(c:oR):Sem [.one (.int .u64),.one (.int .u64),.one (.int .i64)]:=fun x K Kp w=>c x.1 x.2.1 x.2.2.1 (fun r1 d w'=>K (.tuple ⟨[.pointer r1,.int .i64 d]⟩) w') w
def yR:D6:={loops:=[],Ah:=[(2,[(34,.one (.bool))])]}
theorem Z64:G64 (F.I3 env)=Ab [] yR Tryz.f64:=by kernel_rfl
theorem rX:AO 64 (G64 (F.I3 env)):=AG AE Tryz.func64 Tryz.call64 (Z64)
def G24(c:JS):Sem [.one (.ptr),.one (.int .u64),.one (.int .i64)]:=fun x K Kp w=>c x.1 x.2.1 x.2.2.1 (fun r1 d w'=>K (.tuple ⟨[.int .i64 r1,.int .i64 d]⟩) w') w
theorem Z24(c0:oR)(c1:JS)(c2:Sc):G24 (T0.DX env c0 c1 c2)=Ab [(64,Ao (G64 c0)),(57,fun args w K Kp=>unArgs [.one (.ptr),.one (.int .i64),.one (.int .u64)] args.toList fun x=>c1 x.1 x.2.1 x.2.2.1 (fun r1 d w'=>K (.tuple ⟨[.int .u64 r1,.int .i64 d]⟩) w') w),(58,Ao (G58 c2))] By Tryz.f24:=by kernel_rfl
theorem rY:AO 24 (G24 (F.DX env)):=AG (AA rX (AA dA (AA dC AE))) Tryz.func24 Tryz.call24 (Z24 _ _ _)
def G65(c:oR):Sem [.one (.int .u64),.one (.int .u64),.one (.int .i64)]:=fun x K Kp w=>c x.1 x.2.1 x.2.2.1 (fun r1 d w'=>K (.tuple ⟨[.pointer r1,.int .i64 d]⟩) w') w
def yS:D6:={loops:=[],Ah:=[(2,[(22,.one (.bool))])]}
theorem Z65(c0:Rx):G65 (T0.C6 env c0)=Ab [(113,Ao (jV c0))] yS Tryz.f65:=by kernel_rfl
theorem rZ:AO 65 (G65 (F.C6 env)):=AG (AA YV AE) Tryz.func65 Tryz.call65 (Z65 _)
def G25(c:JS):Sem [.one (.ptr),.one (.int .u64),.one (.int .i64)]:=fun x K Kp w=>c x.1 x.2.1 x.2.2.1 (fun r1 d w'=>K (.tuple ⟨[.int .i64 r1,.int .i64 d]⟩) w') w
theorem Z25(c0:oR)(c1:JS)(c2:Sc):G25 (T0.Bs env c0 c1 c2)=Ab [(65,Ao (G65 c0)),(60,Ao (G60 c1)),(61,Ao (G61 c2))] By Tryz.f25:=by kernel_rfl
theorem sA:AO 25 (G25 (F.Bs env)):=AG (AA rZ (AA dG (AA dH AE))) Tryz.func25 Tryz.call25 (Z25 _ _ _)
def G66(c:Jx):Sem [.one (.ptr)]:=fun x K Kp w=>c x.1 (fun r1 w'=>K (.int .i64 r1) w') w
def yT:D6:={loops:=[],Ah:=[(2,[(16,.one (.bool))])]}
theorem Z66:G66 (F.He env)=Ab [] yT Tryz.f66:=by kernel_rfl
theorem sB:AO 66 (G66 (F.He env)):=AG AE Tryz.func66 Tryz.call66 (Z66)
def sC(c:R9):Sem [.one (.ptr),.one (.int .i64)]:=fun x K Kp w=>c x.1 x.2.1 (fun r1 w'=>K (.bool r1) w') w
theorem Z129:sC (F.JJ env)=Ab [] By Tryz.f129:=by kernel_rfl
theorem kQ:AO 129 (sC (F.JJ env)):=AG AE Tryz.func129 Tryz.call129 (Z129)
def G69(c:Fy):Sem [.one (.ptr),.one (.int .i64)]:=fun x K Kp w=>c x.1 x.2.1 (fun r1 w'=>K (.int .i64 r1) w') w
theorem Z69(c0:R9):G69 (T0.Fu env c0)=Ab [(129,Ao (sC c0))] By Tryz.f69:=by kernel_rfl
theorem sD:AO 69 (G69 (F.Fu env)):=AG (AA kQ AE) Tryz.func69 Tryz.call69 (Z69 _)
def G26(c:Fy):Sem [.one (.ptr),.one (.int .i64)]:=fun x K Kp w=>c x.1 x.2.1 (fun r1 w'=>K (.int .i64 r1) w') w
theorem Z26(c0:Jx)(c1:Zc)(c2:wR)(c3:HU)(d:Fy):G26 (T0.ER env c0 c1 c2 c3 d)=Ab [(66,Ao (G66 c0)),(62,Ao (wX c1)),(67,Ao (G67 c2)),(68,Ao (yG c3)),(69,Ao (G69 d))] By Tryz.f26:=by kernel_rfl
theorem sE:AO 26 (G26 (F.ER env)):=AG (AA sB (AA Tm (AA dB (AA W1 (AA sD AE))))) Tryz.func26 Tryz.call26 (Z26 _ _ _ _ _)
def G71(c:Jx):Sem [.one (.ptr)]:=fun x K Kp w=>c x.1 (fun r1 w'=>K (.int .i64 r1) w') w
def yU:D6:={loops:=[],Ah:=[(2,[(12,.one (.bool))])]}
theorem Z71(c0:Jx):G71 (T0.Cd env c0)=Ab [(123,Ao (kO c0))] yU Tryz.f71:=by kernel_rfl
theorem sF:AO 71 (G71 (F.Cd env)):=AG (AA Yg AE) Tryz.func71 Tryz.call71 (Z71 _)
def sG(c:R9):Sem [.one (.ptr),.one (.int .i64)]:=fun x K Kp w=>c x.1 x.2.1 (fun r1 w'=>K (.bool r1) w') w
theorem Z133:sG (F.Fv env)=Ab [] By Tryz.f133:=by kernel_rfl
theorem kR:AO 133 (sG (F.Fv env)):=AG AE Tryz.func133 Tryz.call133 (Z133)
def G73(c:Fy):Sem [.one (.ptr),.one (.int .i64)]:=fun x K Kp w=>c x.1 x.2.1 (fun r1 w'=>K (.int .i64 r1) w') w
theorem Z73(c0:R9):G73 (T0.Ce env c0)=Ab [(133,Ao (sG c0))] By Tryz.f73:=by kernel_rfl
theorem sH:AO 73 (G73 (F.Ce env)):=AG (AA kR AE) Tryz.func73 Tryz.call73 (Z73 _)
def G27(c:Fy):Sem [.one (.ptr),.one (.int .i64)]:=fun x K Kp w=>c x.1 x.2.1 (fun r1 w'=>K (.int .i64 r1) w') w
theorem Z27(c0:Fy)(c1:Jx)(c2:YG)(c3:Fy):G27 (T0.CO env c0 c1 c2 c3)=Ab [(70,Ao (G70 c0)),(71,Ao (G71 c1)),(72,Ao (yN c2)),(73,Ao (G73 c3))] By Tryz.f27:=by kernel_rfl
theorem sI:AO 27 (G27 (F.CO env)):=AG (AA dJ (AA sF (AA W5 (AA sH AE)))) Tryz.func27 Tryz.call27 (Z27 _ _ _ _)
def G74(c:Sb):Sem [.one (.ptr)]:=fun x K Kp w=>c x.1 (fun r1 w'=>K (.bool r1) w') w
def yV:D6:={loops:=[(2,[(10,.one (.int .i64))])],Ah:=[(6,[(4,.one (.int .u64))])]}
theorem Z74:G74 (F.F9 env)=Ab [] yV Tryz.f74:=by kernel_rfl
theorem sJ:AO 74 (G74 (F.F9 env)):=AG AE Tryz.func74 Tryz.call74 (Z74)
def G30(c:nI):Sem [.one (.ptr)]:=fun x K Kp w=>c x.1 (fun r1 d w'=>K (.tuple ⟨[.slice r1.base r1.len r1.cap,.int .i64 d]⟩) w') w
def yW:D6:={loops:=[(7,[(4,.one (.sl)),(22,.one (.int .i64))]),(13,[(4,.one (.sl)),(6,.one (.int .u64))])],Ah:=[(12,[(6,.one (.int .u64))])]}
theorem Z30(c0:Sb)(c1:Y8):G30 (T0.CU env c0 c1)=Ab [(74,Ao (G74 c0)),(75,Ao (yB c1))] yW Tryz.f30:=by kernel_rfl
theorem sK:AO 30 (G30 (F.CU env)):=AG (AA sJ (AA W0 AE)) Tryz.func30 Tryz.call30 (Z30 _ _)
def G76(c:xP):Sem [.one (.sl),.one (.int .i64)]:=fun x K Kp w=>c x.1 x.2.1 (fun r1 w'=>K (.bool r1) w') w
theorem Z76:G76 (F.GA env)=Ab [] By Tryz.f76:=by kernel_rfl
theorem dM:AO 76 (G76 (F.GA env)):=AG AE Tryz.func76 Tryz.call76 (Z76)
def G31(c:nI):Sem [.one (.ptr)]:=fun x K Kp w=>c x.1 (fun r1 d w'=>K (.tuple ⟨[.slice r1.base r1.len r1.cap,.int .i64 d]⟩) w') w
def yX:D6:={loops:=[(4,[(4,.one (.int .i64))]),(10,[(5,.one (.sl)),(6,.one (.int .i64))])],Ah:=[(7,[(36,.one (.bool))]),(13,[(61,.one (.bool))])]}
theorem Z31(c0:xP):G31 (T0.Bf env c0)=Ab [(76,Ao (G76 c0))] yX Tryz.f31:=by kernel_rfl
theorem sL:AO 31 (G31 (F.Bf env)):=AG (AA dM AE) Tryz.func31 Tryz.call31 (Z31 _)
def G32(c:xQ):Sem [.one (.sl),.one (.sl)]:=fun x K Kp w=>c x.1 x.2.1 (fun r1 w'=>K (.bool r1) w') w
def yY:D6:={loops:=[(4,[(5,.one (.int .i64))])],Ah:=[]}
theorem Z32:G32 (F.FA env)=Ab [] yY Tryz.f32:=by kernel_rfl
theorem dN:AO 32 (G32 (F.FA env)):=AG AE Tryz.func32 Tryz.call32 (Z32)
def G77(c:Y46):Sem [.one (.sl),.one (.int .i64)]:=fun x K Kp w=>c x.1 x.2.1 (fun r1 w'=>K (.int .i64 r1) w') w
def yZ:D6:={loops:=[(2,[(5,.one (.int .i64))])],Ah:=[(7,[(6,.one (.int .u64))])]}
theorem Z77(c0:Y8):G77 (T0.Eu env c0)=Ab [(75,Ao (yB c0))] yZ Tryz.f77:=by kernel_rfl
theorem sM:AO 77 (G77 (F.Eu env)):=AG (AA W0 AE) Tryz.func77 Tryz.call77 (Z77 _)
def G78(c:cQ):Sem [.one (.ptr),.one (.int .i64)]:=fun x K Kp w=>c x.1 x.2.1 (fun w'=>K (.tuple ⟨[]⟩) w') w
def y7:D6:={loops:=[(0,[])],Ah:=[]}
theorem Z78:G78 (F.IS env)=Ab [] y7 Tryz.f78:=by kernel_rfl
theorem sN:AO 78 (G78 (F.IS env)):=AG AE Tryz.func78 Tryz.call78 (Z78)
def G33(c:nJ):Sem [.one (.ptr)]:=fun x K Kp w=>c x.1 (fun r1 d w'=>K (.tuple ⟨[.int .i64 r1,.int .i64 d]⟩) w') w
theorem Z33(c0:Y46)(c1:cQ):G33 (T0.D9 env c0 c1)=Ab [(77,Ao (G77 c0)),(78,Ao (G78 c1))] By Tryz.f33:=by kernel_rfl
theorem sO:AO 33 (G33 (F.D9 env)):=AG (AA sM (AA sN AE)) Tryz.func33 Tryz.call33 (Z33 _ _)
def G79(c:Y49):Sem [.one (.sl),.one (.int .i64),.one (.bool)]:=fun x K Kp w=>c x.1 x.2.1 x.2.2.1 (fun r1 w'=>K (.slice r1.base r1.len r1.cap) w') w
def y8:D6:={loops:=[(1,[(0,.one (.sl))])],Ah:=[]}
theorem Z79:G79 (F.GX env)=Ab [] y8 Tryz.f79:=by kernel_rfl
theorem sP:AO 79 (G79 (F.GX env)):=AG AE Tryz.func79 Tryz.call79 (Z79)
def G34(c:nJ):Sem [.one (.ptr)]:=fun x K Kp w=>c x.1 (fun r1 d w'=>K (.tuple ⟨[.int .i64 r1,.int .i64 d]⟩) w') w
def y9:D6:={loops:=[(4,[(4,.one (.int .i64))])],Ah:=[]}
theorem Z34(c0:xP)(c1:Y49):G34 (T0.Bq env c0 c1)=Ab [(76,Ao (G76 c0)),(79,Ao (G79 c1))] y9 Tryz.f34:=by kernel_rfl
theorem sQ:AO 34 (G34 (F.Bq env)):=AG (AA dM (AA sP AE)) Tryz.func34 Tryz.call34 (Z34 _ _)
def G81(c:nK):Sem [.one (.ptr),.one (.ptr)]:=fun x K Kp w=>c x.1 x.2.1 (fun w'=>K (.tuple ⟨[]⟩) w') w
def zA:D6:={loops:=[(1,[(5,.one (.int .u64))])],Ah:=[]}
theorem Z81(c0:HU)(c1:HU):G81 (T0.C7 env c0 c1)=Ab [(134,Ao (jP c0)),(68,Ao (yG c1))] zA Tryz.f81:=by kernel_rfl
theorem sR:AO 81 (G81 (F.C7 env)):=AG (AA YT (AA W1 AE)) Tryz.func81 Tryz.call81 (Z81 _ _)
def G35(c:cQ):Sem [.one (.ptr),.one (.int .i64)]:=fun x K Kp w=>c x.1 x.2.1 (fun w'=>K (.tuple ⟨[]⟩) w') w
theorem Z35(c0:Y6)(c1:nK):G35 (T0.Dx env c0 c1)=Ab [(80,Ao (G80 c0)),(81,Ao (G81 c1))] By Tryz.f35:=by kernel_rfl
theorem sS:AO 35 (G35 (F.Dx env)):=AG (AA cV (AA sR AE)) Tryz.func35 Tryz.call35 (Z35 _ _)
def G82(c:nK):Sem [.one (.ptr),.one (.ptr)]:=fun x K Kp w=>c x.1 x.2.1 (fun w'=>K (.tuple ⟨[]⟩) w') w
def zB:D6:={loops:=[(1,[(4,.one (.int .i64))])],Ah:=[]}
theorem Z82(c0:YG):G82 (T0.Bt env c0)=Ab [(72,Ao (yN c0))] zB Tryz.f82:=by kernel_rfl
theorem sT:AO 82 (G82 (F.Bt env)):=AG (AA W5 AE) Tryz.func82 Tryz.call82 (Z82 _)
def G36(c:cQ):Sem [.one (.ptr),.one (.int .i64)]:=fun x K Kp w=>c x.1 x.2.1 (fun w'=>K (.tuple ⟨[]⟩) w') w
def zC:D6:={loops:=[],Ah:=[(1,[(9,.one (.bool))])]}
theorem Z36(c0:nK):G36 (T0.B9 env c0)=Ab [(82,Ao (G82 c0))] zC Tryz.f36:=by kernel_rfl
theorem sU:AO 36 (G36 (F.B9 env)):=AG (AA sT AE) Tryz.func36 Tryz.call36 (Z36 _)
def G83(c:Lv):Sem [.one (.ptr),.one (.int .u64)]:=fun x K Kp w=>c x.1 x.2.1 (fun r1 d w'=>K (.tuple ⟨[.int .u64 r1,.int .u64 d]⟩) w') w
def zD:D6:={loops:=[],Ah:=[(3,[(20,.one (.bool))])]}
theorem Z83(c0:YF)(c1:Jw)(c2:Jw):G83 (T0.Bv env c0 c1 c2)=Ab [(135,Ao (cX c0)),(136,Ao (Wz c1)),(137,Ao (Tk c2))] zD Tryz.f83:=by kernel_rfl
theorem sV:AO 83 (G83 (F.Bv env)):=AG (AA Tj (AA Nq (AA K1 AE))) Tryz.func83 Tryz.call83 (Z83 _ _ _)
def sW(c:wT):Sem [.one (.map),.one (.int .u64),.one (.int .u64)]:=fun x K Kp w=>c x.1 x.2.1 x.2.2.1 (fun w'=>K (.tuple ⟨[]⟩) w') w
def sX:D6:={loops:=[(2,[]),(7,[(7,.one (.int .u64))])],Ah:=[(3,[(18,.one (.bool))]),(5,[(28,.one (.bool))])]}
theorem Z139:sW (F.FF env)=Ab [] sX Tryz.f139:=by kernel_rfl
theorem kS:AO 139 (sW (F.FF env)):=AG AE Tryz.func139 Tryz.call139 (Z139)
def sY(c:wT):Sem [.one (.map),.one (.int .u64),.one (.int .u64)]:=fun x K Kp w=>c x.1 x.2.1 x.2.2.1 (fun w'=>K (.tuple ⟨[]⟩) w') w
def sZ:D6:={loops:=[(2,[]),(7,[(7,.one (.int .u64))])],Ah:=[(3,[(18,.one (.bool))]),(5,[(28,.one (.bool))])]}
theorem Z140:sY (F.C8 env)=Ab [] sZ Tryz.f140:=by kernel_rfl
theorem kT:AO 140 (sY (F.C8 env)):=AG AE Tryz.func140 Tryz.call140 (Z140)
def G84(c:HU):Sem [.one (.ptr),.one (.int .u64),.one (.int .u64)]:=fun x K Kp w=>c x.1 x.2.1 x.2.2.1 (fun r1 w'=>K (.int .i64 r1) w') w
theorem Z84(c0:Rx)(c1:HU)(c2:Jw)(c3:Jw)(j:wT)(d:wT):G84 (T0.DK env c0 c1 c2 c3 j d)=Ab [(138,Ao (jK c0)),(124,Ao (SA c1)),(136,Ao (Wz c2)),(137,Ao (Tk c3)),(139,Ao (sW j)),(140,Ao (sY d))] By Tryz.f84:=by kernel_rfl
theorem tA:AO 84 (G84 (F.DK env)):=AG (AA YQ (AA Jy (AA Nq (AA K1 (AA kS (AA kT AE)))))) Tryz.func84 Tryz.call84 (Z84 _ _ _ _ _ _)
def G37(c:Fy):Sem [.one (.ptr),.one (.int .u64)]:=fun x K Kp w=>c x.1 x.2.1 (fun r1 w'=>K (.int .u64 r1) w') w
def zE:D6:={loops:=[(2,[(5,.one (.int .u64))])],Ah:=[]}
theorem Z37(c0:Lv)(c1:HU):G37 (T0.Cu env c0 c1)=Ab [(83,Ao (G83 c0)),(84,Ao (G84 c1))] zE Tryz.f37:=by kernel_rfl
theorem tB:AO 37 (G37 (F.Cu env)):=AG (AA sV (AA tA AE)) Tryz.func37 Tryz.call37 (Z37 _ _)
def tC(c:JS):Sem [.one (.ptr),.one (.int .i64),.one (.int .i64)]:=fun x K Kp w=>c x.1 x.2.1 x.2.2.1 (fun r1 d w'=>K (.tuple ⟨[.int .i64 r1,.int .i64 d]⟩) w') w
def tD:D6:={loops:=[(6,[(8,.one (.int .i64))]),(11,[(9,.one (.int .i64))])],Ah:=[(3,[(2,.one (.int .i64))]),(4,[(17,.one (.bool))]),(8,[(8,.one (.int .i64))])]}
theorem Z174:tC (F.FG env)=Ab [] tD Tryz.f174:=by kernel_rfl
theorem kU:AO 174 (tC (F.FG env)):=AG AE Tryz.func174 Tryz.call174 (Z174)
def tE(c:Lv):Sem [.one (.ptr),.one (.int .i64)]:=fun x K Kp w=>c x.1 x.2.1 (fun r1 d w'=>K (.tuple ⟨[.int .i64 r1,.int .i64 d]⟩) w') w
def tF:D6:={loops:=[(3,[(7,.one (.int .i64))])],Ah:=[]}
theorem Z141(c0:JS)(c1:YG):tE (T0.BX env c0 c1)=Ab [(174,Ao (tC c0)),(175,Ao (kJ c1))] tF Tryz.f141:=by kernel_rfl
theorem kV:AO 141 (tE (F.BX env)):=AG (AA kU (AA Yf AE)) Tryz.func141 Tryz.call141 (Z141 _ _)
def G85(c:Lv):Sem [.one (.ptr),.one (.int .u64)]:=fun x K Kp w=>c x.1 x.2.1 (fun r1 d w'=>K (.tuple ⟨[.int .u64 r1,.int .u64 d]⟩) w') w
def zF:D6:={loops:=[(4,[(6,.one (.int .i64))])],Ah:=[(3,[(1,.one (.int .u64))])]}
theorem Z85(c0:Lv):G85 (T0.BM env c0)=Ab [(141,Ao (tE c0))] zF Tryz.f85:=by kernel_rfl
theorem tG:AO 85 (G85 (F.BM env)):=AG (AA kV AE) Tryz.func85 Tryz.call85 (Z85 _)
def zG(c:Kl):Sem [.one (.ptr),.one (.int .u64)]:=fun x K Kp w=>c x.1 x.2.1 (fun r1 d w'=>K (.tuple ⟨[.int .i64 r1,.bool d]⟩) w') w
def zH:D6:={loops:=[(2,[(6,.one (.int .i64)),(7,.one (.int .i64))])],Ah:=[]}
theorem Z95:zG (F.DS env)=Ab [] zH Tryz.f95:=by kernel_rfl
theorem W6:AO 95 (zG (F.DS env)):=AG AE Tryz.func95 Tryz.call95 (Z95)
def tH(c:Jw):Sem [.one (.ptr),.one (.int .u64),.one (.int .u64)]:=fun x K Kp w=>c x.1 x.2.1 x.2.2.1 (fun w'=>K (.tuple ⟨[]⟩) w') w
theorem Z143(c0:Kl):tH (T0.CP env c0)=Ab [(95,Ao (zG c0))] By Tryz.f143:=by kernel_rfl
theorem kX:AO 143 (tH (F.CP env)):=AG (AA W6 AE) Tryz.func143 Tryz.call143 (Z143 _)
def G86(c:HU):Sem [.one (.ptr),.one (.int .u64),.one (.int .u64)]:=fun x K Kp w=>c x.1 x.2.1 x.2.2.1 (fun r1 w'=>K (.int .i64 r1) w') w
def zI:D6:={loops:=[(7,[(9,.one (.int .u64))]),(13,[(11,.one (.int .i64))])],Ah:=[(11,[(57,.one (.bool))])]}
theorem Z86(c0:Rx)(c1:Kl)(c2:Jw):G86 (T0.CA env c0 c1 c2)=Ab [(142,Ao (dE c0)),(94,Ao (nN c1)),(143,Ao (tH c2))] zI Tryz.f86:=by kernel_rfl
theorem tI:AO 86 (G86 (F.CA env)):=AG (AA Tn (AA Om (AA kX AE))) Tryz.func86 Tryz.call86 (Z86 _ _ _)
def G38(c:Fy):Sem [.one (.ptr),.one (.int .u64)]:=fun x K Kp w=>c x.1 x.2.1 (fun r1 w'=>K (.int .u64 r1) w') w
def zJ:D6:={loops:=[(2,[(5,.one (.int .u64))])],Ah:=[]}
theorem Z38(c0:Lv)(c1:HU):G38 (T0.BY env c0 c1)=Ab [(85,Ao (G85 c0)),(86,Ao (G86 c1))] zJ Tryz.f38:=by kernel_rfl
theorem tJ:AO 38 (G38 (F.BY env)):=AG (AA tG (AA tI AE)) Tryz.func38 Tryz.call38 (Z38 _ _)
def kY(c:Fy):Sem [.one (.ptr),.one (.int .u64)]:=fun x K Kp w=>c x.1 x.2.1 (fun r1 w'=>K (.int .i64 r1) w') w
def tK:D6:={loops:=[(2,[(12,.one (.int .i64))])],Ah:=[(5,[(25,.one (.bool))])]}
theorem Z144:kY (F.Fk env)=Ab [] tK Tryz.f144:=by kernel_rfl
theorem Yh:AO 144 (kY (F.Fk env)):=AG AE Tryz.func144 Tryz.call144 (Z144)
def G87(c:Fy):Sem [.one (.ptr),.one (.int .u64)]:=fun x K Kp w=>c x.1 x.2.1 (fun r1 w'=>K (.int .i64 r1) w') w
theorem Z87(c0:Fy):G87 (T0.FJ env c0)=Ab [(144,Ao (kY c0))] By Tryz.f87:=by kernel_rfl
theorem tL:AO 87 (G87 (F.FJ env)):=AG (AA Yh AE) Tryz.func87 Tryz.call87 (Z87 _)
def wY(c:Fy):Sem [.one (.ptr),.one (.int .u64)]:=fun x K Kp w=>c x.1 x.2.1 (fun r1 w'=>K (.int .i64 r1) w') w
theorem Z39(c0:Fy):wY (T0.Df env c0)=Ab [(87,Ao (G87 c0))] By Tryz.f39:=by kernel_rfl
theorem To:AO 39 (wY (F.Df env)):=AG (AA tL AE) Tryz.func39 Tryz.call39 (Z39 _)
def zK(c:Fy):Sem [.one (.ptr),.one (.int .u64)]:=fun x K Kp w=>c x.1 x.2.1 (fun r1 w'=>K (.int .i64 r1) w') w
def zL:D6:={loops:=[(2,[(5,.one (.int .i64))])],Ah:=[(6,[(44,.one (.bool))])]}
theorem Z40:zK (F.DT env)=Ab [] zL Tryz.f40:=by kernel_rfl
theorem W7:AO 40 (zK (F.DT env)):=AG AE Tryz.func40 Tryz.call40 (Z40)
def dO(c:R9):Sem [.one (.ptr),.one (.int .u64)]:=fun x K Kp w=>c x.1 x.2.1 (fun r1 w'=>K (.bool r1) w') w
theorem Z104(c0:Fy):dO (T0.Cp env c0)=Ab [(151,Ao (Wy c0))] By Tryz.f104:=by kernel_rfl
theorem Tp:AO 104 (dO (F.Cp env)):=AG (AA Np AE) Tryz.func104 Tryz.call104 (Z104 _)
def G88(c:R9):Sem [.one (.ptr),.one (.int .u64)]:=fun x K Kp w=>c x.1 x.2.1 (fun r1 w'=>K (.bool r1) w') w
theorem Z88(c0:R9):G88 (T0.Ei env c0)=Ab [(104,Ao (dO c0))] By Tryz.f88:=by kernel_rfl
theorem tM:AO 88 (G88 (F.Ei env)):=AG (AA Tp AE) Tryz.func88 Tryz.call88 (Z88 _)
def G89(c:WZ):Sem [.one (.ptr)]:=fun x K Kp w=>c x.1 (fun r1 d j w'=>K (.tuple ⟨[.int .u64 r1,.int .u64 d,.int .u64 j]⟩) w') w
theorem Z89(c0:Sb):G89 (T0.CZ env c0)=Ab [(145,Ao (cW c0))] By Tryz.f89:=by kernel_rfl
theorem dP:AO 89 (G89 (F.CZ env)):=AG (AA Ti AE) Tryz.func89 Tryz.call89 (Z89 _)
def zM(c:Lv):Sem [.one (.ptr),.one (.int .u64)]:=fun x K Kp w=>c x.1 x.2.1 (fun r1 d w'=>K (.tuple ⟨[.int .i64 r1,.int .i64 d]⟩) w') w
def zN:D6:={loops:=[(7,[(35,.one (.int .i64))])],Ah:=[(2,[(23,.one (.bool))]),(11,[(62,.one (.bool))])]}
theorem Z41(c0:R9)(c1:Fy)(c2:WZ):zM (T0.CW env c0 c1 c2)=Ab [(88,Ao (G88 c0)),(39,Ao (wY c1)),(89,Ao (G89 c2))] zN Tryz.f41:=by kernel_rfl
theorem W8:AO 41 (zM (F.CW env)):=AG (AA tM (AA To (AA dP AE))) Tryz.func41 Tryz.call41 (Z41 _ _ _)
def G91(c:R9):Sem [.one (.ptr),.one (.int .u64)]:=fun x K Kp w=>c x.1 x.2.1 (fun r1 w'=>K (.bool r1) w') w
theorem Z91:G91 (F.EA env)=Ab [] By Tryz.f91:=by kernel_rfl
theorem tN:AO 91 (G91 (F.EA env)):=AG AE Tryz.func91 Tryz.call91 (Z91)
def G42(c:Lv):Sem [.one (.ptr),.one (.int .u64)]:=fun x K Kp w=>c x.1 x.2.1 (fun r1 d w'=>K (.tuple ⟨[.int .i64 r1,.int .i64 d]⟩) w') w
def zO:D6:={loops:=[(7,[(9,.one (.int .i64))])],Ah:=[]}
theorem Z42(c0:nH)(c1:R9)(c2:Fy):G42 (T0.BN env c0 c1 c2)=Ab [(90,Ao (yL c0)),(91,Ao (G91 c1)),(40,Ao (zK c2))] zO Tryz.f42:=by kernel_rfl
theorem dQ:AO 42 (G42 (F.BN env)):=AG (AA W4 (AA tN (AA W7 AE))) Tryz.func42 Tryz.call42 (Z42 _ _ _)
def G93(c:Y54):Sem [.one (.ptr),.one (.int .u64)]:=fun x K Kp w=>c x.1 x.2.1 (fun r1 d w'=>K (.tuple ⟨[.int .u64 r1,.int .u64 d]⟩) w') Kp w
noncomputable def C93:Entry:=Ao (G93 (F.ES env))
theorem Z93(c0:R9):G93 (T0.ES env c0)=Ab [(104,Ao (dO c0))] By Tryz.f93:=by kernel_rfl
theorem dR:AO 93 (G93 (F.ES env)):=AG (AA Tp AE) Tryz.func93 Tryz.call93 (Z93 _)
end Go.Sh

/- Each shallow form is what the code of its function comes to, piece 2. No further condition. -/
import Derived.Test.YtbkjmfgdoceogaaGreatDoorT
import Derived.Test.YtbkjmfgdoceogaaGreatDoorProg
import Derived.KernelRfl
set_option linter.all false
set_option maxRecDepth 100000
set_option maxHeartbeats 4000000
namespace Go.Sh
open Go.Proofs
def pK(c:a9):Sem [.one (.int .u64),.one (.int .u64),.one (.int .i64),.one (.bool)]:=fun x K Kp w=>c x.1 x.2.1 x.2.2.1 x.2.2.2.1 (fun j d w'=>K (.tuple ⟨[.pointer j,.int .i64 d]⟩) w') w
def kC:Ed:={loops:=[],Aw:=[(2,[(24,.one (.bool))]),(10,[])]}
theorem uO(c0:PX)(c1:Y9):pK (T0.DQ env c0 c1)=Ad [(65,A2 (pG c0)),(66,A2 (pJ c1))] kC Tryz.f30:=by kernel_rfl
theorem eJ:AP 30 (pK (F.DQ env)):=AJ (AB eD (AB eH AF)) Tryz.func30 Tryz.call30 (uO _ _)
def m6(c:Rt):Sem [.one (.ptr)]:=fun x K Kp w=>c x.1 (fun d w'=>K (.bool d) w') w
def kD:Ed:={loops:=[(2,[(3,.one (.int .i64))])],Aw:=[]}
theorem uP:m6 (F.CR env)=Ad [] kD Tryz.f67:=by kernel_rfl
theorem Xd:AP 67 (m6 (F.CR env)):=AJ AF Tryz.func67 Tryz.call67 (uP)
def Zh(c:KO):Sem [.one (.ptr),.one (.int .u64)]:=fun x K Kp w=>c x.1 x.2.1 (fun j d w'=>K (.tuple ⟨[.int .u64 j,.bool d]⟩) w') w
def eK:Ed:={loops:=[(3,[(6,.one (.int .u64)),(7,.one (.int .u64)),(8,.one (.int .i64))]),(9,[(6,.one (.int .u64)),(9,.one (.int .u64))])],Aw:=[(6,[(37,.one (.bool))]),(7,[(6,.one (.int .u64))]),(14,[(6,.one (.int .u64))])]}
theorem pL:Zh (F.C3 env)=Ad [] eK Tryz.f118:=by kernel_rfl
theorem U3:AP 118 (Zh (F.C3 env)):=AJ AF Tryz.func118 Tryz.call118 (pL)
def eL(c:ZF):Sem [.one (.ptr)]:=fun x K Kp w=>c x.1 (fun j d w'=>K (.tuple ⟨[.int .u64 j,.bool d]⟩) w') w
theorem pM(c0:KO):eL (T0.BL env c0)=Ad [(118,A2 (Zh c0))] CX Tryz.f115:=by kernel_rfl
theorem Zi:AP 115 (eL (F.BL env)):=AJ (AB U3 AF) Tryz.func115 Tryz.call115 (pM _)
def Vq(c:KO):Sem [.one (.ptr),.one (.int .u64)]:=fun x K Kp w=>c x.1 x.2.1 (fun j d w'=>K (.tuple ⟨[.int .i64 j,.bool d]⟩) w') w
def eM:Ed:={loops:=[(2,[(6,.one (.int .i64))])],Aw:=[(4,[(6,.one (.int .i64))])]}
theorem pN:Vq (F.Bu env)=Ad [] eM Tryz.f124:=by kernel_rfl
theorem Nd:AP 124 (Vq (F.Bu env)):=AJ AF Tryz.func124 Tryz.call124 (pN)
def Zj(c:iS):Sem [.one (.ptr),.one (.int .u64)]:=fun x K Kp w=>c x.1 x.2.1 (fun v j d w'=>K (.tuple ⟨[.bool v,.bool j,.bool d]⟩) w') w
theorem pO(c0:KO):Zj (T0.BA env c0)=Ad [(124,A2 (Vq c0))] CX Tryz.f116:=by kernel_rfl
theorem U4:AP 116 (Zj (F.BA env)):=AJ (AB Nd AF) Tryz.func116 Tryz.call116 (pO _)
def m8(c:Wq):Sem [.one (.ptr),.one (.int .u64),.one (.int .u64)]:=fun x K Kp w=>c x.1 x.2.1 x.2.2.1 (fun d w'=>K (.bool d) w') w
def kE:Ed:={loops:=[(5,[(7,.one (.int .i64)),(9,.one (.int .u64))])],Aw:=[(2,[(21,.one (.bool))]),(8,[(58,.one (.bool))])]}
theorem uQ(c0:KO):m8 (T0.BW env c0)=Ad [(124,A2 (Vq c0))] kE Tryz.f83:=by kernel_rfl
theorem Xe:AP 83 (m8 (F.BW env)):=AJ (AB Nd AF) Tryz.func83 Tryz.call83 (uQ _)
def nA(c:JL):Sem [.one (.ptr),.one (.int .u64),.one (.int .u64)]:=fun x K Kp w=>c x.1 x.2.1 x.2.2.1 (fun j d w'=>K (.tuple ⟨[.int .u64 j,.int .u64 d]⟩) w') w
def kF:Ed:={loops:=[(3,[(8,.one (.int .u64)),(9,.one (.int .u64)),(10,.one (.int .u64))])],Aw:=[(8,[(8,.one (.int .u64))])]}
theorem uR(c0:iS):nA (T0.BM env c0)=Ad [(116,A2 (Zj c0))] kF Tryz.f84:=by kernel_rfl
theorem Xf:AP 84 (nA (F.BM env)):=AJ (AB U4 AF) Tryz.func84 Tryz.call84 (uR _)
def nB(c:iT):Sem [.one (.ptr),.one (.int .u64),.one (.int .u64),.one (.bool),.one (.bool)]:=fun x K Kp w=>c x.1 x.2.1 x.2.2.1 x.2.2.2.1 x.2.2.2.2.1 (fun w'=>K (.tuple ⟨[]⟩) w') w
def kG:Ed:={loops:=[(1,[(10,.one (.int .u64))])],Aw:=[]}
theorem uS(c0:KO):nB (T0.Bl env c0)=Ad [(124,A2 (Vq c0))] kG Tryz.f85:=by kernel_rfl
theorem Xg:AP 85 (nB (F.Bl env)):=AJ (AB Nd AF) Tryz.func85 Tryz.call85 (uS _)
def Zk(c:JL):Sem [.one (.ptr),.one (.int .u64),.one (.int .u64)]:=fun x K Kp w=>c x.1 x.2.1 x.2.2.1 (fun j d w'=>K (.tuple ⟨[.int .u64 j,.int .i64 d]⟩) w') w
theorem pP(c0:Wq)(c1:JL)(c2:iT):Zk (T0.BE env c0 c1 c2)=Ad [(83,A2 (m8 c0)),(84,A2 (nA c1)),(85,A2 (nB c2))] CX Tryz.f117:=by kernel_rfl
theorem U5:AP 117 (Zk (F.BE env)):=AJ (AB Xe (AB Xf (AB Xg AF))) Tryz.func117 Tryz.call117 (pP _ _ _)
def pQ(c:TF):Sem [.one (.ptr),.one (.ptr)]:=fun x K Kp w=>c x.1 x.2.1 (fun d w'=>K (.int .i64 d) w') w
def kH:Ed:={loops:=[(8,[(7,.one (.int .i64))])],Aw:=[]}
theorem uT(c0:Rt)(c1:ZF)(c2:iS)(c3:JL):pQ (T0.BX env c0 c1 c2 c3)=Ad [(67,A2 (m6 c0)),(115,A2 (eL c1)),(116,A2 (Zj c2)),(117,A2 (Zk c3))] kH Tryz.f68:=by kernel_rfl
theorem eN:AP 68 (pQ (F.BX env)):=AJ (AB Xd (AB Zi (AB U4 (AB U5 AF)))) Tryz.func68 Tryz.call68 (uT _ _ _ _)
def pR(c:TG):Sem [.one (.ptr),.one (.int .i64)]:=fun x K Kp w=>c x.1 x.2.1 (fun v j d w'=>K (.tuple ⟨[.int .u64 v,.int .i64 j,.int .i64 d]⟩) w') w
def kI:Ed:={loops:=[(5,[(7,.one (.int .i64)),(8,.one (.int .i64))]),(13,[(9,.one (.int .i64)),(10,.one (.int .i64))])],Aw:=[(2,[(16,.one (.bool))]),(10,[(7,.one (.int .i64))]),(17,[(9,.one (.int .i64))])]}
theorem uU:pR (F.C4 env)=Ad [] kI Tryz.f69:=by kernel_rfl
theorem eO:AP 69 (pR (F.C4 env)):=AJ AF Tryz.func69 Tryz.call69 (uU)
def pS(c:TG):Sem [.one (.ptr),.one (.int .u64)]:=fun x K Kp w=>c x.1 x.2.1 (fun v j d w'=>K (.tuple ⟨[.int .u64 v,.int .u64 j,.int .i64 d]⟩) w') w
theorem uV(c0:KO)(c1:JL):pS (T0.BN env c0 c1)=Ad [(118,A2 (Zh c0)),(117,A2 (Zk c1))] CX Tryz.f70:=by kernel_rfl
theorem eP:AP 70 (pS (F.BN env)):=AJ (AB U3 (AB U5 AF)) Tryz.func70 Tryz.call70 (uV _ _)
def Zl(c:Rt):Sem [.one (.ptr)]:=fun x K Kp w=>c x.1 (fun d w'=>K (.bool d) w') w
theorem pT:Zl (F.Cf env)=Ad [] CX Tryz.f119:=by kernel_rfl
theorem U6:AP 119 (Zl (F.Cf env)):=AJ AF Tryz.func119 Tryz.call119 (pT)
def Xh(c:PX):Sem [.one (.int .u64),.one (.int .u64)]:=fun x K Kp w=>c x.1 x.2.1 (fun d w'=>K (.bool d) w') w
theorem pU:Xh (F.C5 env)=Ad [] CX Tryz.f120:=by kernel_rfl
theorem Qf:AP 120 (Xh (F.C5 env)):=AJ AF Tryz.func120 Tryz.call120 (pU)
def Tf(c:KO):Sem [.one (.ptr),.one (.int .u64)]:=fun x K Kp w=>c x.1 x.2.1 (fun j d w'=>K (.tuple ⟨[.int .i64 j,.bool d]⟩) w') w
def eQ:Ed:={loops:=[(2,[(6,.one (.int .i64)),(7,.one (.int .i64))])],Aw:=[]}
theorem pV:Tf (F.BP env)=Ad [] eQ Tryz.f123:=by kernel_rfl
theorem Lh:AP 123 (Tf (F.BP env)):=AJ AF Tryz.func123 Tryz.call123 (pV)
def Zm(c:Ru):Sem [.one (.ptr),.one (.int .u64),.one (.int .u64)]:=fun x K Kp w=>c x.1 x.2.1 x.2.2.1 (fun j d w'=>K (.tuple ⟨[.int .u64 j,.bool d]⟩) w') w
def eR:Ed:={loops:=[],Aw:=[(3,[(36,.one (.bool))])]}
theorem pW(c0:KO):Zm (T0.Ay env c0)=Ad [(123,A2 (Tf c0))] eR Tryz.f121:=by kernel_rfl
theorem U7:AP 121 (Zm (F.Ay env)):=AJ (AB Lh AF) Tryz.func121 Tryz.call121 (pW _)
def eS(c:Ru):Sem [.one (.ptr),.one (.int .u64),.one (.int .u64)]:=fun x K Kp w=>c x.1 x.2.1 x.2.2.1 (fun j d w'=>K (.tuple ⟨[.int .u64 j,.bool d]⟩) w') w
def eT:Ed:={loops:=[(4,[(8,.one (.int .u64))])],Aw:=[(4,[(8,.one (.int .u64))]),(8,[(8,.one (.int .u64))]),(9,[(31,.one (.bool))])]}
theorem pX(c0:Ru):eS (T0.BF env c0)=Ad [(121,A2 (Zm c0))] eT Tryz.f122:=by kernel_rfl
theorem Zn:AP 122 (eS (F.BF env)):=AJ (AB U7 AF) Tryz.func122 Tryz.call122 (pX _)
def pY(c:JL):Sem [.one (.ptr),.one (.int .u64),.one (.int .u64)]:=fun x K Kp w=>c x.1 x.2.1 x.2.2.1 (fun j d w'=>K (.tuple ⟨[.int .u64 j,.int .i64 d]⟩) w') w
def kJ:Ed:={loops:=[(21,[(12,.one (.sl)),(13,.one (.int .u64))])],Aw:=[(2,[(24,.one (.bool))]),(10,[(9,.one (.bool))]),(12,[(8,.one (.int .u64)),(9,.one (.bool))]),(14,[(8,.one (.int .u64)),(9,.one (.bool))]),(16,[(8,.one (.int .u64)),(9,.one (.bool))])]}
theorem uW(c0:Rt)(c1:PX)(c2:Ru)(c3:Ru)(d:KO):pY (T0.BY env c0 c1 c2 c3 d)=Ad [(119,A2 (Zl c0)),(120,A2 (Xh c1)),(121,A2 (Zm c2)),(122,A2 (eS c3)),(123,A2 (Tf d))] kJ Tryz.f71:=by kernel_rfl
theorem eU:AP 71 (pY (F.BY env)):=AJ (AB U6 (AB Qf (AB U7 (AB Zn (AB Lh AF))))) Tryz.func71 Tryz.call71 (uW _ _ _ _ _)
def Zo(c:PX):Sem [.one (.int .i64),.one (.int .i64)]:=fun x K Kp w=>c x.1 x.2.1 (fun d w'=>K (.bool d) w') w
theorem pZ:Zo (F.EA env)=Ad [] CX Tryz.f148:=by kernel_rfl
theorem U8:AP 148 (Zo (F.EA env)):=AJ AF Tryz.func148 Tryz.call148 (pZ)
def Zp(c:Wr):Sem [.one (.ptr),.one (.int .i64),.one (.int .i64),.one (.bool)]:=fun x K Kp w=>c x.1 x.2.1 x.2.2.1 x.2.2.2.1 (fun d w'=>K (.int .i64 d) w') w
def eV:Ed:={loops:=[(4,[(9,.one (.int .i64))])],Aw:=[]}
theorem qA(c0:PX):Zp (T0.B4 env c0)=Ad [(148,A2 (Zo c0))] eV Tryz.f143:=by kernel_rfl
theorem U9:AP 143 (Zp (F.B4 env)):=AJ (AB U8 AF) Tryz.func143 Tryz.call143 (qA _)
def eW(c:Y3):Sem []:=fun x K Kp w=>c (fun d w'=>K (.pointer d) w') w
theorem qB(c0:Wr):eW (T0.Dg env c0)=Ad [(143,A2 (Zp c0))] CX Tryz.f125:=by kernel_rfl
theorem Zq:AP 125 (eW (F.Dg env)):=AJ (AB U9 AF) Tryz.func125 Tryz.call125 (qB _)
def qC(c:GD):Sem [.one (.ptr),.one (.int .u64),.one (.int .u64)]:=fun x K Kp w=>c x.1 x.2.1 x.2.2.1 (fun d w'=>K (.int .i64 d) w') w
def kK:Ed:={loops:=[(8,[(9,.one (.sl)),(10,.one (.int .u64))])],Aw:=[(2,[(26,.one (.bool))]),(5,[(53,.one (.bool))])]}
theorem uX(c0:KO)(c1:Y3):qC (T0.BZ env c0 c1)=Ad [(124,A2 (Vq c0)),(125,A2 (eW c1))] kK Tryz.f72:=by kernel_rfl
theorem eX:AP 72 (qC (F.BZ env)):=AJ (AB Nd (AB Zq AF)) Tryz.func72 Tryz.call72 (uX _ _)
def qD(c:GD):Sem [.one (.ptr),.one (.int .u64),.one (.int .u64)]:=fun x K Kp w=>c x.1 x.2.1 x.2.2.1 (fun d w'=>K (.int .i64 d) w') w
def kL:Ed:={loops:=[(8,[(9,.one (.bool)),(10,.one (.int .u64))]),(19,[(12,.one (.int .i64))])],Aw:=[(25,[(94,.one (.bool))]),(27,[(14,.one (.int .u64))])]}
theorem uY(c0:PX)(c1:KO)(c2:Rt):qD (T0.Bh env c0 c1 c2)=Ad [(120,A2 (Xh c0)),(123,A2 (Tf c1)),(119,A2 (Zl c2))] kL Tryz.f73:=by kernel_rfl
theorem eY:AP 73 (qD (F.Bh env)):=AJ (AB Qf (AB Lh (AB U6 AF))) Tryz.func73 Tryz.call73 (uY _ _ _)
def qE(c:El):Sem [.one (.ptr),.one (.int .u64)]:=fun x K Kp w=>c x.1 x.2.1 (fun d w'=>K (.int .i64 d) w') w
theorem uZ(c0:KO):qE (T0.Bv env c0)=Ad [(123,A2 (Tf c0))] CX Tryz.f74:=by kernel_rfl
theorem eZ:AP 74 (qE (F.Bv env)):=AJ (AB Lh AF) Tryz.func74 Tryz.call74 (uZ _)
def nC(c:Wr):Sem [.one (.ptr),.one (.int .u64),.one (.int .u64),.one (.bool)]:=fun x K Kp w=>c x.1 x.2.1 x.2.2.1 x.2.2.2.1 (fun d w'=>K (.int .i64 d) w') w
theorem u0(c0:Wq)(c1:JL)(c2:iT):nC (T0.A8 env c0 c1 c2)=Ad [(83,A2 (m8 c0)),(84,A2 (nA c1)),(85,A2 (nB c2))] CX Tryz.f40:=by kernel_rfl
theorem Xi:AP 40 (nC (F.A8 env)):=AJ (AB Xe (AB Xf (AB Xg AF))) Tryz.func40 Tryz.call40 (u0 _ _ _)
def qF(c:JL):Sem [.one (.ptr),.one (.int .i64),.one (.int .u64)]:=fun x K Kp w=>c x.1 x.2.1 x.2.2.1 (fun j d w'=>K (.tuple ⟨[.int .u64 j,.int .i64 d]⟩) w') w
def kM:Ed:={loops:=[(20,[(13,.one (.int .u64))])],Aw:=[(3,[(23,.one (.bool))]),(5,[]),(6,[(8,.one (.int .u64)),(9,.one (.int .i64))]),(8,[(8,.one (.int .u64)),(9,.one (.int .i64))]),(16,[(8,.one (.int .u64)),(9,.one (.int .i64))])]}
theorem u5(c0:Rt)(c1:TF)(c2:TG)(c3:TG)(v:JL)(j:GD)(d:GD)(C:El)(c8:Wr):qF (T0.Ba env c0 c1 c2 c3 v j d C c8)=Ad [(67,A2 (m6 c0)),(68,A2 (pQ c1)),(69,A2 (pR c2)),(70,A2 (pS c3)),(71,A2 (pY v)),(72,A2 (qC j)),(73,A2 (qD d)),(74,A2 (qE C)),(40,A2 (nC c8))] kM Tryz.f31:=by kernel_rfl
theorem e8:AP 31 (qF (F.Ba env)):=AJ (AB Xd (AB eN (AB eO (AB eP (AB eU (AB eX (AB eY (AB eZ (AB Xi AF))))))))) Tryz.func31 Tryz.call31 (u5 _ _ _ _ _ _ _ _ _)
def qG(c:Hg):Sem [.one (.ptr)]:=fun x K Kp w=>c x.1 (fun d w'=>K (.int .i64 d) w') w
theorem u6:qG (F.Dh env)=Ad [] CX Tryz.f75:=by kernel_rfl
theorem e9:AP 75 (qG (F.Dh env)):=AJ AF Tryz.func75 Tryz.call75 (u6)
def qH(c:TF):Sem [.one (.ptr),.one (.ptr)]:=fun x K Kp w=>c x.1 x.2.1 (fun d w'=>K (.int .i64 d) w') w
def kN:Ed:={loops:=[(3,[(6,.one (.int .i64))])],Aw:=[(5,[(6,.one (.int .i64))])]}
theorem u7(c0:Hg):qH (T0.Bw env c0)=Ad [(75,A2 (qG c0))] kN Tryz.f32:=by kernel_rfl
theorem fA:AP 32 (qH (F.Bw env)):=AJ (AB e9 AF) Tryz.func32 Tryz.call32 (u7 _)
def G9(c:Yu):Sem [.one (.ptr),.one (.int .i64),.one (.int .u64),.one (.int .i64),.one (.bool)]:=fun x K Kp w=>c x.1 x.2.1 x.2.2.1 x.2.2.2.1 x.2.2.2.2.1 (fun j d w'=>K (.tuple ⟨[.int .i64 j,.int .i64 d]⟩) w') w
theorem Z9(c0:a9)(c1:JL)(c2:TF):G9 (T0.Bb env c0 c1 c2)=Ad [(30,A2 (pK c0)),(31,A2 (qF c1)),(32,A2 (qH c2))] CX Tryz.f9:=by kernel_rfl
theorem kO:AP 9 (G9 (F.Bb env)):=AJ (AB eJ (AB e8 (AB fA AF))) Tryz.func9 Tryz.call9 (Z9 _ _ _)
def qI(c:Hg):Sem [.one (.ptr)]:=fun x K Kp w=>c x.1 (fun d w'=>K (.int .i64 d) w') w
def kQ:Ed:={loops:=[],Aw:=[(2,[(16,.one (.bool))])]}
theorem u9:qI (F.Fj env)=Ad [] kQ Tryz.f33:=by kernel_rfl
theorem fB:AP 33 (qI (F.Fj env)):=AJ AF Tryz.func33 Tryz.call33 (u9)
def qJ(c:iU):Sem [.one (.ptr),.one (.int .i64)]:=fun x K Kp w=>c x.1 x.2.1 (fun d w'=>K (.bool d) w') w
theorem vA:qJ (F.HN env)=Ad [] CX Tryz.f81:=by kernel_rfl
theorem fC:AP 81 (qJ (F.HN env)):=AJ AF Tryz.func81 Tryz.call81 (vA)
def qK(c:El):Sem [.one (.ptr),.one (.int .i64)]:=fun x K Kp w=>c x.1 x.2.1 (fun d w'=>K (.int .i64 d) w') w
theorem vB(c0:iU):qK (T0.EX env c0)=Ad [(81,A2 (qJ c0))] CX Tryz.f37:=by kernel_rfl
theorem fD:AP 37 (qK (F.EX env)):=AJ (AB fC AF) Tryz.func37 Tryz.call37 (vB _)
def nD(c:El):Sem [.one (.ptr),.one (.int .i64)]:=fun x K Kp w=>c x.1 x.2.1 (fun d w'=>K (.int .i64 d) w') w
theorem vC(c0:Hg)(c1:jM)(c2:iR)(c3:GD)(d:El):nD (T0.Cc env c0 c1 c2 c3 d)=Ad [(33,A2 (qI c0)),(34,A2 (mX c1)),(35,A2 (mZ c2)),(36,A2 (mV c3)),(37,A2 (qK d))] CX Tryz.f10:=by kernel_rfl
theorem Xj:AP 10 (nD (F.Cc env)):=AJ (AB fB (AB Xa (AB Xc (AB XX (AB fD AF))))) Tryz.func10 Tryz.call10 (vC _ _ _ _ _)
def qL(c:El):Sem [.one (.ptr),.one (.int .i64)]:=fun x K Kp w=>c x.1 x.2.1 (fun d w'=>K (.int .i64 d) w') w
def kR:Ed:={loops:=[(2,[(5,.one (.int .i64))])],Aw:=[]}
theorem vD:qL (F.DW env)=Ad [] kR Tryz.f38:=by kernel_rfl
theorem fE:AP 38 (qL (F.DW env)):=AJ AF Tryz.func38 Tryz.call38 (vD)
def qM(c:Hg):Sem [.one (.ptr)]:=fun x K Kp w=>c x.1 (fun d w'=>K (.int .i64 d) w') w
def kS:Ed:={loops:=[(3,[(3,.one (.int .i64)),(4,.one (.int .i64))])],Aw:=[]}
theorem vE:qM (F.DG env)=Ad [] kS Tryz.f82:=by kernel_rfl
theorem fF:AP 82 (qM (F.DG env)):=AJ AF Tryz.func82 Tryz.call82 (vE)
def qN(c:Hg):Sem [.one (.ptr)]:=fun x K Kp w=>c x.1 (fun d w'=>K (.int .i64 d) w') w
def kT:Ed:={loops:=[],Aw:=[(2,[(12,.one (.bool))])]}
theorem vF(c0:Hg):qN (T0.Bx env c0)=Ad [(82,A2 (qM c0))] kT Tryz.f39:=by kernel_rfl
theorem fG:AP 39 (qN (F.Bx env)):=AJ (AB fF AF) Tryz.func39 Tryz.call39 (vF _)
def qO(c:iU):Sem [.one (.ptr),.one (.int .i64)]:=fun x K Kp w=>c x.1 x.2.1 (fun d w'=>K (.bool d) w') w
theorem vG:qO (F.EY env)=Ad [] CX Tryz.f86:=by kernel_rfl
theorem fH:AP 86 (qO (F.EY env)):=AJ AF Tryz.func86 Tryz.call86 (vG)
def qP(c:El):Sem [.one (.ptr),.one (.int .i64)]:=fun x K Kp w=>c x.1 x.2.1 (fun d w'=>K (.int .i64 d) w') w
theorem vH(c0:iU):qP (T0.By env c0)=Ad [(86,A2 (qO c0))] CX Tryz.f41:=by kernel_rfl
theorem fI:AP 41 (qP (F.By env)):=AJ (AB fH AF) Tryz.func41 Tryz.call41 (vH _)
def qQ(c:El):Sem [.one (.ptr),.one (.int .i64)]:=fun x K Kp w=>c x.1 x.2.1 (fun d w'=>K (.int .i64 d) w') w
theorem vI(c0:El)(c1:Hg)(c2:Wr)(c3:El):qQ (T0.Bi env c0 c1 c2 c3)=Ad [(38,A2 (qL c0)),(39,A2 (qN c1)),(40,A2 (nC c2)),(41,A2 (qP c3))] CX Tryz.f11:=by kernel_rfl
theorem fJ:AP 11 (qQ (F.Bi env)):=AJ (AB fE (AB fG (AB Xi (AB fI AF)))) Tryz.func11 Tryz.call11 (vI _ _ _ _)
def kU(c:Hg):Sem [.one (.ptr)]:=fun x K Kp w=>c x.1 (fun d w'=>K (.int .u64 d) w') w
theorem vJ:kU (F.Cv env)=Ad [] CX Tryz.f50:=by kernel_rfl
theorem Tg:AP 50 (kU (F.Cv env)):=AJ AF Tryz.func50 Tryz.call50 (vJ)
def qR(c:Hg):Sem [.one (.ptr)]:=fun x K Kp w=>c x.1 (fun d w'=>K (.int .u64 d) w') w
theorem vK(c0:Hg):qR (T0.BQ env c0)=Ad [(50,A2 (kU c0))] CX Tryz.f44:=by kernel_rfl
theorem fK:AP 44 (qR (F.BQ env)):=AJ (AB Tg AF) Tryz.func44 Tryz.call44 (vK _)
def qS(c:PY):Sem [.one (.ptr)]:=fun x K Kp w=>c x.1 (fun v j d w'=>K (.tuple ⟨[.int .u64 v,.int .u64 j,.int .u64 d]⟩) w') w
theorem vL(c0:Rt):qS (T0.CN env c0)=Ad [(91,A2 (jV c0))] CX Tryz.f45:=by kernel_rfl
theorem fL:AP 45 (qS (F.CN env)):=AJ (AB Tb AF) Tryz.func45 Tryz.call45 (vL _)
def qT(c:Hg):Sem [.one (.ptr)]:=fun x K Kp w=>c x.1 (fun d w'=>K (.int .u64 d) w') w
theorem vM(c0:Hg):qT (T0.DR env c0)=Ad [(50,A2 (kU c0))] CX Tryz.f46:=by kernel_rfl
theorem fM:AP 46 (qT (F.DR env)):=AJ (AB Tg AF) Tryz.func46 Tryz.call46 (vM _)
def kV(c:PY):Sem [.one (.ptr)]:=fun x K Kp w=>c x.1 (fun v j d w'=>K (.tuple ⟨[.int .u64 v,.int .u64 j,.int .u64 d]⟩) w') w
def kX:Ed:={loops:=[(3,[(5,.one (.int .u64)),(20,.one (.int .i64))]),(6,[(5,.one (.int .u64)),(10,.one (.int .u64))])],Aw:=[]}
theorem vN(c0:Hg)(c1:PY)(c2:Hg):kV (T0.CF env c0 c1 c2)=Ad [(44,A2 (qR c0)),(45,A2 (qS c1)),(46,A2 (qT c2))] kX Tryz.f16:=by kernel_rfl
theorem Th:AP 16 (kV (F.CF env)):=AJ (AB fK (AB fL (AB fM AF))) Tryz.func16 Tryz.call16 (vN _ _ _)
noncomputable def vO:Entry:=fun args w K Kp=>unArgs [.one (.int .u64)] args.toList fun x=>F.Di env x.1 (fun d w'=>K (.float .f64 d) w') w
theorem Xk:FC Tryz.prog 93 vO:=
 W9 Tryz.func93 (by kernel_rfl) (by kernel_rfl) (by kernel_rfl) (e:=Extern.MathFloatBits.float64frombits) (by kernel_rfl) (QS rfl)
def qU(c:Y7):Sem [.one (.int .u64),.one (.int .u64)]:=fun x K Kp w=>c x.1 x.2.1 (fun d w'=>K (.int .u64 d) w') w
theorem vP(c0:bA):qU (T0.Ep env c0)=Ad [(93,fun args w K Kp=>unArgs [.one (.int .u64)] args.toList fun x=>c0 x.1 (fun d w'=>K (.float .f64 d) w') w)] CX Tryz.f48:=by kernel_rfl
theorem fN:AP 48 (qU (F.Ep env)):=AJ (Kw Xk AF) Tryz.func48 Tryz.call48 (vP _)
def kY(c:Hg):Sem [.one (.ptr)]:=fun x K Kp w=>c x.1 (fun d w'=>K (.int .u64 d) w') w
theorem vQ(c0:PY)(c1:Y7):kY (T0.BT env c0 c1)=Ad [(16,A2 (kV c0)),(48,A2 (qU c1))] CX Tryz.f18:=by kernel_rfl
theorem Ti:AP 18 (kY (F.BT env)):=AJ (AB Th (AB fN AF)) Tryz.func18 Tryz.call18 (vQ _ _)
def qV(c:Ws):Sem [.one (.ptr),.one (.int .u64)]:=fun x K Kp w=>c x.1 x.2.1 (fun j d w'=>K (.tuple ⟨[.int .u64 j,.int .u64 d]⟩) w') w
def kZ:Ed:={loops:=[],Aw:=[(3,[(20,.one (.bool))])]}
theorem vR(c0:cD)(c1:IH)(c2:IH):qV (T0.BR env c0 c1 c2)=Ad [(129,A2 (XU c0)),(111,A2 (Tc c1)),(112,A2 (Qe c2))] kZ Tryz.f87:=by kernel_rfl
theorem fO:AP 87 (qV (F.BR env)):=AJ (AB Qd (AB Lg (AB I1 AF))) Tryz.func87 Tryz.call87 (vR _ _ _)
def fP(c:iV):Sem [.one (.map),.one (.int .u64),.one (.int .u64)]:=fun x K Kp w=>c x.1 x.2.1 x.2.2.1 (fun w'=>K (.tuple ⟨[]⟩) w') w
def fQ:Ed:={loops:=[(2,[]),(7,[(7,.one (.int .u64))])],Aw:=[(3,[(18,.one (.bool))]),(5,[(28,.one (.bool))])]}
theorem qX:fP (F.Dt env)=Ad [] fQ Tryz.f130:=by kernel_rfl
theorem Zr:AP 130 (fP (F.Dt env)):=AJ AF Tryz.func130 Tryz.call130 (qX)
def fR(c:iV):Sem [.one (.map),.one (.int .u64),.one (.int .u64)]:=fun x K Kp w=>c x.1 x.2.1 x.2.2.1 (fun w'=>K (.tuple ⟨[]⟩) w') w
def fS:Ed:={loops:=[(2,[]),(7,[(7,.one (.int .u64))])],Aw:=[(3,[(18,.one (.bool))]),(5,[(28,.one (.bool))])]}
theorem qY:fR (F.CW env)=Ad [] fS Tryz.f131:=by kernel_rfl
theorem Zs:AP 131 (fR (F.CW env)):=AJ AF Tryz.func131 Tryz.call131 (qY)
def qZ(c:GD):Sem [.one (.ptr),.one (.int .u64),.one (.int .u64)]:=fun x K Kp w=>c x.1 x.2.1 x.2.2.1 (fun d w'=>K (.int .i64 d) w') w
theorem vS(c0:PX)(c1:GD)(c2:IH)(c3:IH)(j:iV)(d:iV):qZ (T0.Cg env c0 c1 c2 c3 j d)=Ad [(107,A2 (Za c0)),(76,A2 (Yv c1)),(111,A2 (Tc c2)),(112,A2 (Qe c3)),(130,A2 (fP j)),(131,A2 (fR d))] CX Tryz.f88:=by kernel_rfl
theorem fT:AP 88 (qZ (F.Cg env)):=AJ (AB U1 (AB Jv (AB Lg (AB I1 (AB Zr (AB Zs AF)))))) Tryz.func88 Tryz.call88 (vS _ _ _ _ _ _)
def nE(c:El):Sem [.one (.ptr),.one (.int .u64)]:=fun x K Kp w=>c x.1 x.2.1 (fun d w'=>K (.int .u64 d) w') w
def k9:Ed:={loops:=[(2,[(5,.one (.int .u64))])],Aw:=[]}
theorem vT(c0:Ws)(c1:GD):nE (T0.Bm env c0 c1)=Ad [(87,A2 (qV c0)),(88,A2 (qZ c1))] k9 Tryz.f42:=by kernel_rfl
theorem Xl:AP 42 (nE (F.Bm env)):=AJ (AB fO (AB fT AF)) Tryz.func42 Tryz.call42 (vT _ _)
def nF(c:El):Sem [.one (.ptr),.one (.int .u64)]:=fun x K Kp w=>c x.1 x.2.1 (fun d w'=>K (.int .u64 d) w') w
theorem vU(c0:Hg)(c1:El):nF (T0.Bn env c0 c1)=Ad [(18,A2 (kY c0)),(42,A2 (nE c1))] CX Tryz.f12:=by kernel_rfl
theorem Xm:AP 12 (nF (F.Bn env)):=AJ (AB Ti (AB Xl AF)) Tryz.func12 Tryz.call12 (vU _ _)
def fU(c:GD):Sem [.one (.ptr),.one (.int .i64),.one (.int .i64)]:=fun x K Kp w=>c x.1 x.2.1 x.2.2.1 (fun d w'=>K (.int .i64 d) w') w
def fV:Ed:={loops:=[(5,[(7,.one (.int .i64)),(8,.one (.int .i64))])],Aw:=[]}
theorem rA(c0:PX):fU (T0.Bz env c0)=Ad [(148,A2 (Zo c0))] fV Tryz.f134:=by kernel_rfl
theorem Zt:AP 134 (fU (F.Bz env)):=AJ (AB U8 AF) Tryz.func134 Tryz.call134 (rA _)
def rB(c:Hg):Sem [.one (.ptr)]:=fun x K Kp w=>c x.1 (fun d w'=>K (.int .i64 d) w') w
theorem vV(c0:GD):rB (T0.BB env c0)=Ad [(134,A2 (fU c0))] CX Tryz.f92:=by kernel_rfl
theorem fW:AP 92 (rB (F.BB env)):=AJ (AB Zt AF) Tryz.func92 Tryz.call92 (vV _)
def rC(c:Hg):Sem [.one (.ptr)]:=fun x K Kp w=>c x.1 (fun d w'=>K (.int .u64 d) w') w
def lA:Ed:={loops:=[(3,[(3,.one (.int .i64)),(4,.one (.int .i64))])],Aw:=[]}
theorem vW(c0:Hg):rC (T0.A4 env c0)=Ad [(92,A2 (rB c0))] lA Tryz.f47:=by kernel_rfl
theorem fX:AP 47 (rC (F.A4 env)):=AJ (AB fW AF) Tryz.func47 Tryz.call47 (vW _)
def lB(c:PY):Sem [.one (.ptr)]:=fun x K Kp w=>c x.1 (fun v j d w'=>K (.tuple ⟨[.int .u64 v,.int .u64 j,.int .u64 d]⟩) w') w
def lC:Ed:={loops:=[(3,[(5,.one (.int .u64)),(7,.one (.int .i64))]),(7,[(6,.one (.int .u64)),(8,.one (.int .i64))]),(10,[(6,.one (.int .u64)),(9,.one (.int .i64))])],Aw:=[(13,[(64,.one (.bool))])]}
theorem vX(c0:Hg):lB (T0.A5 env c0)=Ad [(47,A2 (rC c0))] lC Tryz.f17:=by kernel_rfl
theorem Tj:AP 17 (lB (F.A5 env)):=AJ (AB fX AF) Tryz.func17 Tryz.call17 (vX _)
def rD(c:bA):Sem [.one (.int .u64)]:=fun x K Kp w=>c x.1 (fun d w'=>K (.float .f64 d) w') w
theorem vY(c0:bA):rD (T0.DH env c0)=Ad [(93,fun args w K Kp=>unArgs [.one (.int .u64)] args.toList fun x=>c0 x.1 (fun d w'=>K (.float .f64 d) w') w)] CX Tryz.f94:=by kernel_rfl
theorem fY:AP 94 (rD (F.DH env)):=AJ (Kw Xk AF) Tryz.func94 Tryz.call94 (vY _)
def rE(c:Y7):Sem [.one (.int .u64),.one (.int .u64)]:=fun x K Kp w=>c x.1 x.2.1 (fun d w'=>K (.int .u64 d) w') w
theorem vZ(c0:bA):rE (T0.C6 env c0)=Ad [(94,A2 (rD c0))] CX Tryz.f49:=by kernel_rfl
theorem fZ:AP 49 (rE (F.C6 env)):=AJ (AB fY AF) Tryz.func49 Tryz.call49 (vZ _)
def nG(c:El):Sem [.one (.ptr),.one (.int .u64)]:=fun x K Kp w=>c x.1 x.2.1 (fun d w'=>K (.int .u64 d) w') w
def lD:Ed:={loops:=[],Aw:=[(5,[(8,.one (.int .u64))])]}
theorem v5(c0:PY)(c1:Y7):nG (T0.Ch env c0 c1)=Ad [(17,A2 (lB c0)),(49,A2 (rE c1))] lD Tryz.f19:=by kernel_rfl
theorem Xn:AP 19 (nG (F.Ch env)):=AJ (AB Tj (AB fZ AF)) Tryz.func19 Tryz.call19 (v5 _ _)
def gA(c:JL):Sem [.one (.ptr),.one (.int .i64),.one (.int .i64)]:=fun x K Kp w=>c x.1 x.2.1 x.2.2.1 (fun j d w'=>K (.tuple ⟨[.int .i64 j,.int .i64 d]⟩) w') w
def gB:Ed:={loops:=[(6,[(8,.one (.int .i64))]),(11,[(9,.one (.int .i64))])],Aw:=[(3,[(2,.one (.int .i64))]),(4,[(17,.one (.bool))]),(8,[(8,.one (.int .i64))])]}
theorem rG:gA (F.Du env)=Ad [] gB Tryz.f146:=by kernel_rfl
theorem Zu:AP 146 (gA (F.Du env)):=AJ AF Tryz.func146 Tryz.call146 (rG)
def gC(c:Ws):Sem [.one (.ptr),.one (.int .i64)]:=fun x K Kp w=>c x.1 x.2.1 (fun j d w'=>K (.tuple ⟨[.int .i64 j,.int .i64 d]⟩) w') w
def gE:Ed:={loops:=[(3,[(7,.one (.int .i64))])],Aw:=[]}
theorem rH(c0:JL)(c1:Wr):gC (T0.BC env c0 c1)=Ad [(146,A2 (gA c0)),(143,A2 (Zp c1))] gE Tryz.f132:=by kernel_rfl
theorem Zv:AP 132 (gC (F.BC env)):=AJ (AB Zu (AB U9 AF)) Tryz.func132 Tryz.call132 (rH _ _)
def rI(c:Ws):Sem [.one (.ptr),.one (.int .u64)]:=fun x K Kp w=>c x.1 x.2.1 (fun j d w'=>K (.tuple ⟨[.int .u64 j,.int .u64 d]⟩) w') w
def lE:Ed:={loops:=[(4,[(6,.one (.int .i64))])],Aw:=[(3,[(1,.one (.int .u64))])]}
theorem v7(c0:Ws):rI (T0.A6 env c0)=Ad [(132,A2 (gC c0))] lE Tryz.f89:=by kernel_rfl
theorem gF:AP 89 (rI (F.A6 env)):=AJ (AB Zv AF) Tryz.func89 Tryz.call89 (v7 _)
def gG(c:KO):Sem [.one (.ptr),.one (.int .u64)]:=fun x K Kp w=>c x.1 x.2.1 (fun j d w'=>K (.tuple ⟨[.int .i64 j,.bool d]⟩) w') w
def gH:Ed:={loops:=[(2,[(6,.one (.int .i64)),(7,.one (.int .i64))])],Aw:=[]}
theorem rJ:gG (F.Dv env)=Ad [] gH Tryz.f147:=by kernel_rfl
theorem Zw:AP 147 (gG (F.Dv env)):=AJ AF Tryz.func147 Tryz.call147 (rJ)
def gI(c:IH):Sem [.one (.ptr),.one (.int .u64),.one (.int .u64)]:=fun x K Kp w=>c x.1 x.2.1 x.2.2.1 (fun w'=>K (.tuple ⟨[]⟩) w') w
theorem rK(c0:KO):gI (T0.Bj env c0)=Ad [(147,A2 (gG c0))] CX Tryz.f133:=by kernel_rfl
theorem Zx:AP 133 (gI (F.Bj env)):=AJ (AB Zw AF) Tryz.func133 Tryz.call133 (rK _)
def rL(c:GD):Sem [.one (.ptr),.one (.int .u64),.one (.int .u64)]:=fun x K Kp w=>c x.1 x.2.1 x.2.2.1 (fun d w'=>K (.int .i64 d) w') w
def lF:Ed:={loops:=[(7,[(9,.one (.int .u64))]),(13,[(11,.one (.int .i64))])],Aw:=[(11,[(57,.one (.bool))])]}
theorem v9(c0:PX)(c1:KO)(c2:IH):rL (T0.Bc env c0 c1 c2)=Ad [(120,A2 (Xh c0)),(123,A2 (Tf c1)),(133,A2 (gI c2))] lF Tryz.f90:=by kernel_rfl
theorem gJ:AP 90 (rL (F.Bc env)):=AJ (AB Qf (AB Lh (AB Zx AF))) Tryz.func90 Tryz.call90 (v9 _ _ _)
def nH(c:El):Sem [.one (.ptr),.one (.int .u64)]:=fun x K Kp w=>c x.1 x.2.1 (fun d w'=>K (.int .u64 d) w') w
def lG:Ed:={loops:=[(2,[(5,.one (.int .u64))])],Aw:=[]}
theorem wA(c0:Ws)(c1:GD):nH (T0.Az env c0 c1)=Ad [(89,A2 (rI c0)),(90,A2 (rL c1))] lG Tryz.f43:=by kernel_rfl
theorem Xo:AP 43 (nH (F.Az env)):=AJ (AB gF (AB gJ AF)) Tryz.func43 Tryz.call43 (wA _ _)
def rM(c:GD):Sem [.one (.ptr),.one (.int .u64),.one (.int .u64)]:=fun x K Kp w=>c x.1 x.2.1 x.2.2.1 (fun d w'=>K (.int .u64 d) w') w
def lH:Ed:={loops:=[],Aw:=[(4,[(7,.one (.int .u64))])]}
theorem wB(c0:El)(c1:El):rM (T0.C7 env c0 c1)=Ad [(19,A2 (nG c0)),(43,A2 (nH c1))] lH Tryz.f13:=by kernel_rfl
theorem gK:AP 13 (rM (F.C7 env)):=AJ (AB Xn (AB Xo AF)) Tryz.func13 Tryz.call13 (wB _ _)
def nI(c:El):Sem [.one (.ptr),.one (.int .u64)]:=fun x K Kp w=>c x.1 x.2.1 (fun d w'=>K (.int .u64 d) w') w
theorem wC(c0:PY)(c1:El):nI (T0.BU env c0 c1)=Ad [(16,A2 (kV c0)),(42,A2 (nE c1))] CX Tryz.f14:=by kernel_rfl
theorem Xp:AP 14 (nI (F.BU env)):=AJ (AB Th (AB Xl AF)) Tryz.func14 Tryz.call14 (wC _ _)
def rN(c:El):Sem [.one (.ptr),.one (.int .u64)]:=fun x K Kp w=>c x.1 x.2.1 (fun d w'=>K (.int .u64 d) w') w
theorem wD(c0:PY)(c1:El):rN (T0.Cp env c0 c1)=Ad [(17,A2 (lB c0)),(43,A2 (nH c1))] CX Tryz.f15:=by kernel_rfl
theorem gL:AP 15 (rN (F.Cp env)):=AJ (AB Tj (AB Xo AF)) Tryz.func15 Tryz.call15 (wD _ _)
def rO(c:Y5):Sem [.one (.ptr)]:=fun x K Kp w=>c x.1 (fun d w'=>K (.pointer d) w') w
theorem wE:rO (F.FJ env)=Ad [] CX Tryz.f20:=by kernel_rfl
theorem gM:AP 20 (rO (F.FJ env)):=AJ AF Tryz.func20 Tryz.call20 (wE)
def rP(c:El):Sem [.one (.ptr),.one (.int .i64)]:=fun x K Kp w=>c x.1 x.2.1 (fun d w'=>K (.int .u64 d) w') w
theorem wF(c0:Hg):rP (T0.DI env c0)=Ad [(50,A2 (kU c0))] CX Tryz.f21:=by kernel_rfl
theorem gN:AP 21 (rP (F.DI env)):=AJ (AB Tg AF) Tryz.func21 Tryz.call21 (wF _)
def rQ(c:El):Sem [.one (.ptr),.one (.int .i64)]:=fun x K Kp w=>c x.1 x.2.1 (fun d w'=>K (.int .u64 d) w') w
def lI:Ed:={loops:=[(3,[(5,.one (.int .u64)),(6,.one (.int .i64))])],Aw:=[(6,[(29,.one (.bool))])]}
theorem wG:rQ (F.Dj env)=Ad [] lI Tryz.f22:=by kernel_rfl
theorem gO:AP 22 (rQ (F.Dj env)):=AJ AF Tryz.func22 Tryz.call22 (wG)
def rR(c:mS):Sem []:=fun x K Kp w=>c (fun d w'=>K (.bool d) w') w
def lJ:Ed:={loops:=[],Aw:=[(7,[(32,.one (.bool))])]}
theorem wH(c0:Y1)(c1:Yu)(c2:El)(c3:ZG)(j:Hg)(d:El)(v:El):rR (T0.Cq env c0 c1 c2 c3 j d v)=Ad [(4,A2 (G4 c0)),(8,A2 (G8 c1)),(10,A2 (nD c2)),(7,A2 (G7 c3)),(18,A2 (kY j)),(12,A2 (nF d)),(14,A2 (nI v))] lJ Tryz.f23:=by kernel_rfl
theorem gP:AP 23 (rR (F.Cq env)):=AJ (AB bB (AB bD (AB Xj (AB bC (AB Ti (AB Xm (AB Xp AF))))))) Tryz.func23 Tryz.call23 (wH _ _ _ _ _ _ _)
end Go.Sh

/- The shallow forms of the functions, printed by a program. No further condition. -/
import Derived.Test.YtgeilojialbgdaaGreatDoorM
set_option linter.all false
set_option maxRecDepth 100000
namespace Go.Sh
abbrev mA(b:Nat):Addr:=Addr.mk b 0 none
abbrev sM(b:Nat):Option Addr:=some ⟨b,0,none⟩
abbrev vS:Value:=.slice none 0 0
abbrev vP:Value:=.pointer none
abbrev vI:Value:=.int .i64 0
abbrev vU:Value:=.int .u64 0
abbrev iI(z:Int):Value:=.int .i64 z
abbrev iU(z:Int):Value:=.int .u64 z
abbrev aD(p:Addr)(i:Int)(n:Nat):Addr:=p.add (Int.toNat i*n)
abbrev Nv(w:World)(a:Addr)(x:Option Nat):Prop:=w.cell? a=some (.map x)
abbrev AC(A:Array Value)(t:TypeId)(w:World)(K:Nat->World->Prop):Prop:=AL (.cells A t) w K
abbrev cD(p:Prop)[Decidable p](A B:Prop):Prop:=CND (decide p) A B
abbrev Da(w:World)(a:Addr)(x:Option Addr):Prop:=w.cell? a=some (.pointer x)
abbrev EW(w:World)(a:Addr)(x:AY):Prop:=w.cell? a=some (.slice x.base x.len x.cap)
abbrev AU(w:World)(a:Addr)(k:IntKind)(x:Int):Prop:=w.cell? a=some (.int k x)
abbrev FC(w:World)(a:Addr)(x:Bool):Prop:=w.cell? a=some (.bool x)
abbrev BP(s:AY):Value:=.slice s.base s.len s.cap
abbrev Lr(b:Nat):AY:=⟨some ⟨b,0,none⟩,0,0⟩
abbrev P5(b:Nat):AY:=⟨some ⟨b,0,none⟩,1,1⟩
abbrev Br(i:Int)(n:Nat):Prop:=(0:Int)<=i/\i<(n:Nat)
abbrev C7(w:World)(b n:Nat)(x:AY):Prop:=w.cell? ((Addr.mk b 0 none).add n)=some (.slice x.base x.len x.cap)
abbrev rP(a:Option Addr)(w:World)(n:Nat)(f:Option Addr->Prop):Prop:=NC a λp=> ∃x,Da w (p.add n) x/\f x
abbrev Hb(a:Option Addr)(w:World)(f:Option Addr->Prop):Prop:=NC a λp=> ∃x,Da w p x/\f x
abbrev rS(a:Option Addr)(w:World)(n:Nat)(f:AY->Prop):Prop:=NC a λp=> ∃x,EW w (p.add n) x/\f x
abbrev u5(a:Option Addr)(w:World)(f:AY->Prop):Prop:=NC a λp=> ∃x,EW w p x/\f x
abbrev rB(a:Option Addr)(w:World)(n:Nat)(f:Bool->Prop):Prop:=NC a λp=> ∃x,FC w (p.add n) x/\f x
abbrev rI(a:Option Addr)(w:World)(n:Nat)(k:IntKind)(f:Int->Prop):Prop:=NC a λp=> ∃x,AU w (p.add n) k x/\f x
abbrev MX(a:Option Addr)(w:World)(k:IntKind)(f:Int->Prop):Prop:=NC a λp=> ∃x,AU w p k x/\f x
abbrev lW:=World->Prop
abbrev lO:=Option Addr
abbrev Y0:=AY->AY->AY->(AY->AY->AY->lW)->lW
abbrev Y1:=AY->(AY->lW)->lW
abbrev Y2:=AY->AY->AY->(lO->lW)->lW
abbrev Y3:=lO->lW->lW
abbrev Y4:=(lO->lW)->lW
abbrev Y5:=Int->(lO->Int->lW)->lW
abbrev Y6:=lO->(lO->lW)->lW
abbrev Y7:=lO->lO->lO->(lO->lW)->lW
abbrev Y8:=lO->Int->(lO->lW)->lW
abbrev Y9:=AY->AY->AY->Int->Int->(lO->Int->lW)->lW
abbrev Y10:=((Option Nat)->lW)->lW
abbrev Y11:=lO->Bool->Bool->lW->lW
abbrev Y12:=AY->AY->AY->Int->Int->Int->(lO->lW)->lW
abbrev Tr:=lO->(Bool->lW)->lW
abbrev Y14:=lO->Int->Int->Int->Int->Int->Int->Bool->Int->AY->AY->(Int->Int->lW)->lW
abbrev Y15:=lO->Int->Int->Int->Int->Int->Int->Bool->Int->AY->AY->Int->(Bool->lW)->lW
abbrev Y16:=AY->Value->(Int->lW)->lW
abbrev Y17:=AY->Value->(Bool->lW)->lW
abbrev Y18:=lO->lO->Int->(Bool->lW)->lW
abbrev lL:=lO->(Int->Bool->lW)->lW
abbrev OM:=lO->(Int->lW)->lW
abbrev Y21:=lO->(Int->Int->Int->lW)->lW
abbrev Y22:=Int->(Nat->lW)->lW
abbrev SC:=Int->Int->(Int->lW)->lW
abbrev Sp:=Int->(Int->lW)->lW
abbrev Y25:=lO->lO->(Bool->lW)->lW
abbrev Tc:=lO->(AY->lW)->lW
abbrev oD:=lO->Int->(Int->Bool->lW)->lW
abbrev vW:=lO->lO->(Int->Int->Int->Int->Int->Int->Bool->Int->AY->AY->lW)->lW
abbrev Vy:=lO->lO->lW->lW
abbrev Y30:=lO->lO->Int->Int->Int->lW->lW
abbrev Y31:=lO->lO->lO->Value->lW->lW
abbrev Wn:=lO->Int->(Int->Int->lW)->lW
abbrev Y33:=lO->AY->(Bool->lW)->lW
abbrev Y34:=AY->Int->Int->Value->lW->lW
abbrev Y35:=AY->Int->Int->Int->Value->lW->lW
abbrev Y36:=AY->Int->Int->lO->Value->(Int->Int->lW)->lW
abbrev Y37:=AY->Int->Int->Int->lO->Value->(Int->lW)->lW
abbrev Y38:=AY->Int->lO->Value->(Int->lW)->lW
abbrev Y39:=AY->Int->Int->Value->(Int->Int->lW)->lW
abbrev Y40:=AY->Int->Int->Value->(Bool->lW)->lW
abbrev Y41:=AY->Int->Int->Int->Value->(Int->lW)->lW
abbrev Y42:=AY->Int->Int->Int->Value->(Int->Bool->lW)->lW
abbrev Y43:=AY->Value->lW->lW
abbrev Y44:=lO->Int->(lO->Int->lW)->lW
abbrev lM:=lO->(Int->Int->Int->Int->Bool->Int->Int->Int->Bool->Bool->lW)->lW
abbrev Y46:=lO->Int->(lO->Bool->lW)->lW
abbrev u6:=lO->(Int->Int->lW)->lW
abbrev Y48:=lO->(Int->Int->Int->Int->Int->Int->Int->Int->Int->Int->Int->lW)->lW
abbrev Y49:=lO->(Value->lW)->lW
abbrev Y50:=AY->Value->(AY->lW)->lW
abbrev Y51:=Value->(AY->lW)->lW
abbrev cE:=lO->Int->(Bool->lW)->lW
abbrev Y53:=AY->Int->(Bool->lW)->lW
abbrev Y54:=lO->Int->(Int->Int->Int->Bool->lW)->lW
abbrev Y55:=(Bool->lW)->lW
abbrev Y56:=Int->Int->Int->Int->AY->(Bool->lW)->lW
abbrev pP:=Int->(Bool->lW)->lW
abbrev Y58:=Int->Int->lO->(Int->lW)->lW
abbrev Y59:=Int->Int->(AY->Int->lW)->lW
abbrev Y60:=(AY->lW)->lW
abbrev Y61:=Int->Value->(Int->lW)->lW
abbrev Y62:=Int->(Int->Int->lW)->lW
abbrev Y63:=Int->Int->Int->Int->Int->Int->Bool->Int->AY->AY->(Int->Bool->Bool->Int->Int->lW)->lW
abbrev Y64:=Bool->(Int->lW)->lW
abbrev u7:=lO->Int->Bool->(Int->lW)->lW
abbrev Y66:=AY->Int->(Int->lW)->lW
abbrev u9:=lO->Int->lW->lW
abbrev Y68:=lO->Int->Bool->(Int->Bool->lW)->lW
abbrev Qx:=lO->Int->Int->lW->lW
abbrev Kj:=lO->Int->(Int->lW)->lW
abbrev Y71:=lO->Int->(Int->Int->Bool->lW)->lW
abbrev PU:=lO->Int->Int->(Int->lW)->lW
abbrev Y73:=Option Nat->Int->Int->lW->lW
abbrev Y74:=Int->Int->(Bool->lW)->lW
abbrev Y75:=lO->Int->Int->Value->lW->lW
abbrev Y76:=lO->Int->Int->Int->AY->Int->(Int->lW)->lW
abbrev Y77:=lO->Int->Int->Int->Int->Int->Int->Bool->Int->AY->AY->Int->Bool->Bool->Int->Int->(Int->Int->Int->lW)->lW
abbrev Y78:=lO->Int->(lO->Int->Int->Int->Int->Bool->Int->Int->Int->Bool->Bool->Int->lW)->lW
abbrev Y79:=lO->Int->Bool->Bool->Bool->Int->(Int->lW)->lW
abbrev Y80:=lO->Int->Int->Int->Bool->Bool->Bool->(Int->lW)->lW
abbrev Y81:=lO->Int->Bool->Int->lW->lW
abbrev Y82:=lO->Int->Bool->lW->lW
abbrev Y83:=Int->Bool->Bool->Int->(Int->lW)->lW
abbrev Y84:=Int->Int->Int->(Int->Int->lW)->lW
abbrev Y85:=lO->lO->Int->Int->lW->lW
abbrev Y86:=lO->Int->Int->(lO->lW)->lW
abbrev pQ:=lO->Int->Int->(AY->lW)->lW
abbrev Y88:=lO->Int->Int->(Bool->lW)->lW
abbrev cF:=lO->Int->Int->(Int->Int->lW)->lW
abbrev Y90:=lO->Int->(AY->lW)->lW
abbrev Y91:=lO->lO->Int->Int->Int->Int->Bool->Int->Int->Int->Bool->Bool->lW->(Value->lW)->lW
abbrev Y92:=lO->(AY->Int->lW)->lW
abbrev Y93:=lO->Int->Int->Int->(Int->lW)->lW
abbrev Y94:=lO->Int->Int->Bool->Int->(Int->lW)->lW
abbrev Y95:=lO->Int->Int->lO->(Int->lW)->lW
abbrev Y96:=lO->Int->Bool->(Int->Bool->Int->lW)->lW
abbrev Y97:=lO->lO->Bool->lW->(Value->lW)->lW
abbrev Y98:=lO->Int->Bool->Bool->Bool->(Int->Bool->lW)->lW
abbrev Y99:=Int->Int->Int->Bool->(lO->Int->lW)->lW
abbrev dG:=lO->lO->(Int->lW)->lW
abbrev vX:=Int->Int->(Int->Bool->lW)->lW
abbrev Xt:=lO->Int->(Int->Int->Int->lW)->lW
abbrev Ze:=lO->Int->Int->(Int->Bool->lW)->lW
abbrev vY:=lO->(Bool->Bool->lW)->lW
abbrev Y105:=lO->lO->lO->lO->lW->lW
abbrev vZ:=lO->Int->Int->Int->Bool->(Int->Int->lW)->lW
abbrev pR:=lO->Bool->(Int->lW)->lW
abbrev v7:=lO->AY->(Int->lW)->lW
abbrev lN:=Nat->(Int->lW)->lW
abbrev wA:=Int->Int->Int->(Int->lW)->lW
abbrev wB:=lO->AY->(Int->Int->Int->lW)->lW
abbrev Y112:=lO->Int->Int->Int->Int->Int->Int->Bool->Int->AY->AY->(Int->Int->Int->lW)->(Value->lW)->lW
abbrev pS:=lO->lO->lW->(Value->lW)->lW
abbrev Y114:=AY->(Value->lW)->lW
abbrev Y115:=Value->lO->lW->lW
abbrev wC:=Int->lO->lO->(Bool->lW)->lW
abbrev Y117:=Int->Int->lO->lO->lW->lW
structure Env where
 call:CP
 pT:Yields
 seq:Seqs
 Ek:Nat
 AF:Nat
 Be:Nat
 Bs:Nat
 Es:Nat
 Qy:Nat
 Sq:Nat
 LD:Nat
 Ft:Nat
 Ab:Nat
 Et:Nat
 C8:Nat
 GV:Nat
 DI:Nat
 Jc:Nat
 A5:Nat
 GW:Nat
 Cn:Nat
 Gn:Nat
 El:Nat
 I3:Nat
 Ee:Nat
 LR:Nat
 CR:Nat
 EI:Nat
 BN:Nat
 Mo:Nat
 LS:Nat
 Ar:Nat
 Db:Nat
 JQ:Nat
 CT:Nat
 PE:Nat
 C9:Nat
 Hg:Nat
 A9:Nat
 BD:Nat
 Fa:Nat
 AB:Nat
 Ag:Nat
 DA:Nat
 Pe:Nat
 Bt:Nat
 BF:Nat
 ON:Nat
 Ue:Nat
 LU:Nat
 Co:Nat
 Kz:Nat
 dH:Nat
 V8:Nat
 Uf:Nat
 OO:Nat
 Hv:Nat
 DP:Nat
 Am:Nat
 Gp:Nat
 Qz:Nat
 Bn:Nat
 Eu:Nat
 GJ:Nat
 Fb:Nat
 Td:Nat
 Mp:Nat
 As:Nat
 Ug:Nat
 V9:Nat
 Uh:Nat
 Hw:Nat
 HM:Nat
 Nk:Nat
 Hx:Nat
 OP:Nat
 Fu:Nat
 Hy:Nat
 IP:Nat
 OQ:Nat
 Gq:Nat
 Ir:Nat
 Hz:Nat
 IA:Nat
 HO:Nat
 L4:Nat
 IB:Nat
 Ik:Nat
 Jd:Nat
 GK:Nat
 Dv:Nat
 K0:Nat
 JC:Nat
 LW:Nat
 Il:Nat
 GL:Nat
 Nq:Nat
 Gr:Nat
 Mq:Nat
 Ls:Nat
 NL:Nat
 Mr:Nat
 AH:Nat
variable(E:Env)
def F.I4:Y0:=λcO cP cQ K w=>
 AC #[BP cO,BP cP,BP cQ] E.Ek w λb1 w2=>AC #[vS,vS,vS] E.Ek w2 λe w4=> ∃u,EW w4.drew (mA b1) u/\ ∃j,EW w4.drew ((mA b1).add 1) j/\ ∃a,EW w4.drew ((mA b1).add 2) a/\(AC ⟨[]⟩ E.AF w4.drew λb8 w9=>C7 w9 b1 2 a/\C7 w9 b1 1 j/\w9.cell? (mA b1)=some (BP u)/\(APP E.AF 1 8 #[vU] (Lr b8) u w9 λGM aZ=>C7 aZ b1 2 a/\C7 aZ b1 1 j/\(AC ⟨[]⟩ E.Be aZ λcS a0=>C7 a0 b1 2 a/\C7 a0 b1 1 j/\(APP E.Be 1 1 #[.bool false] (Lr cS) j a0 λM6 dV=>C7 dV b1 2 a/\AC ⟨[]⟩ E.AF dV λd8 dX=>C7 dX b1 2 a/\APP E.AF 1 8 #[vU] (Lr d8) a dX λs18 eI=>stCells (mA e) 0 [BP GM,BP M6,BP s18] eI λa1=> ∃c3,EW a1 ((mA e).add 0) c3/\ ∃c4,EW a1 ((mA e).add 1) c4/\ ∃c5,EW a1 ((mA e).add 2) c5/\K c3 c4 c5 a1)/\(AC ⟨[]⟩ E.AF a0 λd9 cE=>C7 cE b1 2 a/\C7 cE b1 1 j/\APP E.Be 1 1 #[.bool false] (Lr cS) j cE λNl d1=>C7 d1 b1 2 a/\APP E.AF 1 8 #[vU] (Lr d9) a d1 λRq eJ=>stCells (mA e) 0 [BP GM,BP Nl,BP Rq] eJ λa2=> ∃c6,EW a2 ((mA e).add 0) c6/\ ∃c7,EW a2 ((mA e).add 1) c7/\ ∃c8,EW a2 ((mA e).add 2) c8/\K c6 c7 c8 a2))/\(AC ⟨[]⟩ E.AF aZ λeA cF=>C7 cF b1 2 a/\C7 cF b1 1 j/\AC ⟨[]⟩ E.Be cF λeB cG=>C7 cG b1 2 a/\C7 cG b1 1 j/\APP E.Be 1 1 #[.bool false] (Lr eB) j cG λs38 d2=>C7 d2 b1 2 a/\APP E.AF 1 8 #[vU] (Lr eA) a d2 λeH eK=>stCells (mA e) 0 [BP GM,BP s38,BP eH] eK λa3=> ∃c9,EW a3 ((mA e).add 0) c9/\ ∃dA,EW a3 ((mA e).add 1) dA/\ ∃dB,EW a3 ((mA e).add 2) dB/\K c9 dA dB a3))/\(AC ⟨[]⟩ E.Be w9 λcD aX=>C7 aX b1 2 a/\C7 aX b1 1 j/\aX.cell? (mA b1)=some (BP u)/\(APP E.AF 1 8 #[vU] (Lr b8) u aX λs48 a4=>C7 a4 b1 2 a/\C7 a4 b1 1 j/\(APP E.Be 1 1 #[.bool false] (Lr cD) j a4 λwD d3=>C7 d3 b1 2 a/\AC ⟨[]⟩ E.AF d3 λeC d4=>C7 d4 b1 2 a/\APP E.AF 1 8 #[vU] (Lr eC) a d4 λvA eL=>stCells (mA e) 0 [BP s48,BP wD,BP vA] eL λa5=> ∃dC,EW a5 ((mA e).add 0) dC/\ ∃dD,EW a5 ((mA e).add 1) dD/\ ∃dE,EW a5 ((mA e).add 2) dE/\K dC dD dE a5)/\(AC ⟨[]⟩ E.AF a4 λeD cH=>C7 cH b1 2 a/\C7 cH b1 1 j/\APP E.Be 1 1 #[.bool false] (Lr cD) j cH λs62 d5=>C7 d5 b1 2 a/\APP E.AF 1 8 #[vU] (Lr eD) a d5 λs64 eM=>stCells (mA e) 0 [BP s48,BP s62,BP s64] eM λa6=> ∃dF,EW a6 ((mA e).add 0) dF/\ ∃dG,EW a6 ((mA e).add 1) dG/\ ∃dH,EW a6 ((mA e).add 2) dH/\K dF dG dH a6))/\(AC ⟨[]⟩ E.AF aX λeE a7=>C7 a7 b1 2 a/\C7 a7 b1 1 j/\a7.cell? (mA b1)=some (BP u)/\APP E.AF 1 8 #[vU] (Lr b8) u a7 λs72 cI=>C7 cI b1 2 a/\C7 cI b1 1 j/\APP E.Be 1 1 #[.bool false] (Lr cD) j cI λs74 d6=>C7 d6 b1 2 a/\APP E.AF 1 8 #[vU] (Lr eE) a d6 λs76 eN=>stCells (mA e) 0 [BP s72,BP s74,BP s76] eN λa8=> ∃dI,EW a8 ((mA e).add 0) dI/\ ∃dJ,EW a8 ((mA e).add 1) dJ/\ ∃dK,EW a8 ((mA e).add 2) dK/\K dI dJ dK a8))/\(AC ⟨[]⟩ E.AF w9 λc2 aY=>C7 aY b1 2 a/\C7 aY b1 1 j/\aY.cell? (mA b1)=some (BP u)/\(APP E.AF 1 8 #[vU] (Lr b8) u aY λs84 cJ=>C7 cJ b1 2 a/\C7 cJ b1 1 j/\AC ⟨[]⟩ E.Be cJ λeF cK=>C7 cK b1 2 a/\C7 cK b1 1 j/\APP E.Be 1 1 #[.bool false] (Lr eF) j cK λs88 d7=>C7 d7 b1 2 a/\APP E.AF 1 8 #[vU] (Lr c2) a d7 λs90 eO=>stCells (mA e) 0 [BP s84,BP s88,BP s90] eO λa9=> ∃dL,EW a9 ((mA e).add 0) dL/\ ∃dM,EW a9 ((mA e).add 1) dM/\ ∃dN,EW a9 ((mA e).add 2) dN/\K dL dM dN a9)/\(AC ⟨[]⟩ E.Be aY λeG bA=>C7 bA b1 2 a/\C7 bA b1 1 j/\bA.cell? (mA b1)=some (BP u)/\APP E.AF 1 8 #[vU] (Lr b8) u bA λs98 cL=>C7 cL b1 2 a/\C7 cL b1 1 j/\APP E.Be 1 1 #[.bool false] (Lr eG) j cL λs100 b2=>C7 b2 b1 2 a/\APP E.AF 1 8 #[vU] (Lr c2) a b2 λs102 dR=>stCells (mA e) 0 [BP s98,BP s100,BP s102] dR λaA=> ∃bD,EW aA ((mA e).add 0) bD/\ ∃bE,EW aA ((mA e).add 1) bE/\ ∃bF,EW aA ((mA e).add 2) bF/\K bD bE bF aA)))/\(AC ⟨[]⟩ E.Be w4.drew λY v=>C7 v b1 2 a/\C7 v b1 1 j/\v.cell? (mA b1)=some (BP u)/\(AC ⟨[]⟩ E.AF v λbB J=>C7 J b1 2 a/\C7 J b1 1 j/\J.cell? (mA b1)=some (BP u)/\(APP E.AF 1 8 #[vU] (Lr bB) u J λwE aB=>C7 aB b1 2 a/\C7 aB b1 1 j/\(APP E.Be 1 1 #[.bool false] (Lr Y) j aB λdO b4=>C7 b4 b1 2 a/\AC ⟨[]⟩ E.AF b4 λcR b5=>C7 b5 b1 2 a/\APP E.AF 1 8 #[vU] (Lr cR) a b5 λs118 dS=>stCells (mA e) 0 [BP wE,BP dO,BP s118] dS λaC=> ∃bG,EW aC ((mA e).add 0) bG/\ ∃bH,EW aC ((mA e).add 1) bH/\ ∃bI,EW aC ((mA e).add 2) bI/\K bG bH bI aC)/\(AC ⟨[]⟩ E.AF aB λcT aQ=>C7 aQ b1 2 a/\C7 aQ b1 1 j/\APP E.Be 1 1 #[.bool false] (Lr Y) j aQ λs126 b6=>C7 b6 b1 2 a/\APP E.AF 1 8 #[vU] (Lr cT) a b6 λs128 dT=>stCells (mA e) 0 [BP wE,BP s126,BP s128] dT λaD=> ∃bJ,EW aD ((mA e).add 0) bJ/\ ∃bK,EW aD ((mA e).add 1) bK/\ ∃bL,EW aD ((mA e).add 2) bL/\K bJ bK bL aD))/\(AC ⟨[]⟩ E.AF J λcU aE=>C7 aE b1 2 a/\C7 aE b1 1 j/\aE.cell? (mA b1)=some (BP u)/\APP E.AF 1 8 #[vU] (Lr bB) u aE λs136 aR=>C7 aR b1 2 a/\C7 aR b1 1 j/\APP E.Be 1 1 #[.bool false] (Lr Y) j aR λdP b7=>C7 b7 b1 2 a/\APP E.AF 1 8 #[vU] (Lr cU) a b7 λs140 dU=>stCells (mA e) 0 [BP s136,BP dP,BP s140] dU λaF=> ∃bM,EW aF ((mA e).add 0) bM/\ ∃bN,EW aF ((mA e).add 1) bN/\ ∃bO,EW aF ((mA e).add 2) bO/\K bM bN bO aF))/\(AC ⟨[]⟩ E.AF v λcV aG=>C7 aG b1 2 a/\C7 aG b1 1 j/\aG.cell? (mA b1)=some (BP u)/\AC ⟨[]⟩ E.AF aG λcW aH=>C7 aH b1 2 a/\C7 aH b1 1 j/\aH.cell? (mA b1)=some (BP u)/\APP E.AF 1 8 #[vU] (Lr cW) u aH λpU aS=>C7 aS b1 2 a/\C7 aS b1 1 j/\APP E.Be 1 1 #[.bool false] (Lr Y) j aS λs152 b9=>C7 b9 b1 2 a/\APP E.AF 1 8 #[vU] (Lr cV) a b9 λs154 dW=>stCells (mA e) 0 [BP pU,BP s152,BP s154] dW λaI=> ∃bP,EW aI ((mA e).add 0) bP/\ ∃bQ,EW aI ((mA e).add 1) bQ/\ ∃bR,EW aI ((mA e).add 2) bR/\K bP bQ bR aI))/\(AC ⟨[]⟩ E.AF w4.drew λaP O=>C7 O b1 2 a/\C7 O b1 1 j/\O.cell? (mA b1)=some (BP u)/\(AC ⟨[]⟩ E.AF O λbC T=>C7 T b1 2 a/\C7 T b1 1 j/\T.cell? (mA b1)=some (BP u)/\(APP E.AF 1 8 #[vU] (Lr bC) u T λs164 aT=>C7 aT b1 2 a/\C7 aT b1 1 j/\AC ⟨[]⟩ E.Be aT λcX aU=>C7 aU b1 2 a/\C7 aU b1 1 j/\APP E.Be 1 1 #[.bool false] (Lr cX) j aU λdQ cA=>C7 cA b1 2 a/\APP E.AF 1 8 #[vU] (Lr aP) a cA λs170 dY=>stCells (mA e) 0 [BP s164,BP dQ,BP s170] dY λaJ=> ∃bS,EW aJ ((mA e).add 0) bS/\ ∃bT,EW aJ ((mA e).add 1) bT/\ ∃bU,EW aJ ((mA e).add 2) bU/\K bS bT bU aJ)/\(AC ⟨[]⟩ E.Be T λcY aK=>C7 aK b1 2 a/\C7 aK b1 1 j/\aK.cell? (mA b1)=some (BP u)/\APP E.AF 1 8 #[vU] (Lr bC) u aK λwF aV=>C7 aV b1 2 a/\C7 aV b1 1 j/\APP E.Be 1 1 #[.bool false] (Lr cY) j aV λs180 cB=>C7 cB b1 2 a/\APP E.AF 1 8 #[vU] (Lr aP) a cB λs182 dZ=>stCells (mA e) 0 [BP wF,BP s180,BP s182] dZ λaL=> ∃bV,EW aL ((mA e).add 0) bV/\ ∃bW,EW aL ((mA e).add 1) bW/\ ∃bX,EW aL ((mA e).add 2) bX/\K bV bW bX aL))/\(AC ⟨[]⟩ E.Be O λcZ aM=>C7 aM b1 2 a/\C7 aM b1 1 j/\aM.cell? (mA b1)=some (BP u)/\AC ⟨[]⟩ E.AF aM λc0 aN=>C7 aN b1 2 a/\C7 aN b1 1 j/\aN.cell? (mA b1)=some (BP u)/\APP E.AF 1 8 #[vU] (Lr c0) u aN λs192 aW=>C7 aW b1 2 a/\C7 aW b1 1 j/\APP E.Be 1 1 #[.bool false] (Lr cZ) j aW λs194 cC=>C7 cC b1 2 a/\APP E.AF 1 8 #[vU] (Lr aP) a cC λwG d0=>stCells (mA e) 0 [BP s192,BP s194,BP wG] d0 λaO=> ∃bY,EW aO ((mA e).add 0) bY/\ ∃bZ,EW aO ((mA e).add 1) bZ/\ ∃b0,EW aO ((mA e).add 2) b0/\K bY bZ b0 aO))
def F.Ap:Y1:=λa0 K w=>
 CND (a0.base.isNone) (K ⟨none,0,0⟩ w) (AC ⟨[]⟩ E.AF w λb1 a=>APP E.AF 1 8 #[vU] (Lr b1) a0 a λs3 e=>K s3 e)
def F.CX:Y1:=λa0 K w=>
 CND (a0.base.isNone) (K ⟨none,0,0⟩ w) (AC ⟨[]⟩ E.Be w λb1 a=>APP E.Be 1 1 #[.bool false] (Lr b1) a0 a λs3 e=>K s3 e)
def T0.KV(q0:Y1)(q1:Y1):Y2:=λa6 a7 a8 K w=>
 AC #[BP a6,BP a7,BP a8] E.Ek w λb1 w2=> ∃x3,EW w2.drew (mA b1) x3/\ ∃e,EW w2.drew ((mA b1).add 1) e/\ ∃a,EW w2.drew ((mA b1).add 2) a/\(q0 x3 (λr6 w7=>C7 w7 b1 2 a/\C7 w7 b1 1 e/\(q1 e (λr8 w9=>C7 w9 b1 2 a/\(q0 a (λbR cB=>(AL (.map #[] 0) cB λc0 d2=>AL (.map #[] 0) d2 λc1 d3=>AC #[BP r6,BP r8,BP bR,vS,vU,vS,vU,vS,vU,.map (some c0),.map (some c1)] E.Bs d3 λc2 d4=>K (sM c2) d4)/\(AL (.map #[] 0) cB λc3 d5=>AL (.map #[] 0) d5 λc4 d6=>AC #[BP r6,BP r8,BP bR,vS,vU,vS,vU,vS,vU,.map (some c4),.map (some c3)] E.Bs d6 λc5 d7=>K (sM c5) d7)) w9)/\(AL (.map #[] 0) w9 λbP aY=>C7 aY b1 2 a/\(q0 a (λdQ d8=>AL (.map #[] 0) d8 λc6 d9=>AC #[BP r6,BP r8,BP dQ,vS,vU,vS,vU,vS,vU,.map (some bP),.map (some c6)] E.Bs d9 λc7 eA=>K (sM c7) eA) aY)/\(AL (.map #[] 0) aY λc8 cS=>C7 cS b1 2 a/\q0 a (λdR eB=>AC #[BP r6,BP r8,BP dR,vS,vU,vS,vU,vS,vU,.map (some bP),.map (some c8)] E.Bs eB λc9 eC=>K (sM c9) eC) cS))/\(AL (.map #[] 0) w9 λbQ aZ=>C7 aZ b1 2 a/\(q0 a (λdS eD=>AL (.map #[] 0) eD λdA eE=>AC #[BP r6,BP r8,BP dS,vS,vU,vS,vU,vS,vU,.map (some dA),.map (some bQ)] E.Bs eE λdB eF=>K (sM dB) eF) aZ)/\(AL (.map #[] 0) aZ λdC cT=>C7 cT b1 2 a/\q0 a (λdT eG=>AC #[BP r6,BP r8,BP dT,vS,vU,vS,vU,vS,vU,.map (some dC),.map (some bQ)] E.Bs eG λdD eH=>K (sM dD) eH) cT))) w7)/\(AL (.map #[] 0) w7 λaW aM=>C7 aM b1 2 a/\C7 aM b1 1 e/\(q1 e (λb7 a0=>C7 a0 b1 2 a/\(q0 a (λdU eI=>AL (.map #[] 0) eI λdE eJ=>AC #[BP r6,BP b7,BP dU,vS,vU,vS,vU,vS,vU,.map (some aW),.map (some dE)] E.Bs eJ λdF eK=>K (sM dF) eK) a0)/\(AL (.map #[] 0) a0 λdG cU=>C7 cU b1 2 a/\q0 a (λdV eL=>AC #[BP r6,BP b7,BP dV,vS,vU,vS,vU,vS,vU,.map (some aW),.map (some dG)] E.Bs eL λdH eM=>K (sM dH) eM) cU)) aM)/\(AL (.map #[] 0) aM λdI a1=>C7 a1 b1 2 a/\C7 a1 b1 1 e/\q1 e (λdW cW=>C7 cW b1 2 a/\q0 a (λdX eN=>AC #[BP r6,BP dW,BP dX,vS,vU,vS,vU,vS,vU,.map (some aW),.map (some dI)] E.Bs eN λdJ eO=>K (sM dJ) eO) cW) a1))/\(AL (.map #[] 0) w7 λaX aN=>C7 aN b1 2 a/\C7 aN b1 1 e/\(q1 e (λb8 a2=>C7 a2 b1 2 a/\(q0 a (λdY eP=>AL (.map #[] 0) eP λdK eQ=>AC #[BP r6,BP b8,BP dY,vS,vU,vS,vU,vS,vU,.map (some dK),.map (some aX)] E.Bs eQ λdL eR=>K (sM dL) eR) a2)/\(AL (.map #[] 0) a2 λdM cX=>C7 cX b1 2 a/\q0 a (λdZ eS=>AC #[BP r6,BP b8,BP dZ,vS,vU,vS,vU,vS,vU,.map (some dM),.map (some aX)] E.Bs eS λdN eT=>K (sM dN) eT) cX)) aN)/\(AL (.map #[] 0) aN λdO a3=>C7 a3 b1 2 a/\C7 a3 b1 1 e/\q1 e (λd0 cY=>C7 cY b1 2 a/\q0 a (λd1 eU=>AC #[BP r6,BP d0,BP d1,vS,vU,vS,vU,vS,vU,.map (some dO),.map (some aX)] E.Bs eU λdP eV=>K (sM dP) eV) cY) a3))) w2.drew)/\(AL (.map #[] 0) w2.drew λv j=>C7 j b1 2 a/\C7 j b1 1 e/\j.cell? (mA b1)=some (BP x3)/\(q0 x3 (λaD O=>C7 O b1 2 a/\C7 O b1 1 e/\(q1 e (λaO aF=>C7 aF b1 2 a/\(q0 a (λbS b9=>AL (.map #[] 0) b9 λa9 cA=>AC #[BP aD,BP aO,BP bS,vS,vU,vS,vU,vS,vU,.map (some v),.map (some a9)] E.Bs cA λbA cC=>K (sM bA) cC) aF)/\(AL (.map #[] 0) aF λbB aQ=>C7 aQ b1 2 a/\q0 a (λbT cD=>AC #[BP aD,BP aO,BP bT,vS,vU,vS,vU,vS,vU,.map (some v),.map (some bB)] E.Bs cD λbC cE=>K (sM bC) cE) aQ)) O)/\(AL (.map #[] 0) O λbD aG=>C7 aG b1 2 a/\C7 aG b1 1 e/\q1 e (λbU aR=>C7 aR b1 2 a/\q0 a (λbV cF=>AC #[BP aD,BP bU,BP bV,vS,vU,vS,vU,vS,vU,.map (some v),.map (some bD)] E.Bs cF λbE cG=>K (sM bE) cG) aR) aG)) j)/\(AL (.map #[] 0) j λbF T=>C7 T b1 2 a/\C7 T b1 1 e/\T.cell? (mA b1)=some (BP x3)/\q0 x3 (λbW aH=>C7 aH b1 2 a/\C7 aH b1 1 e/\q1 e (λbX aS=>C7 aS b1 2 a/\q0 a (λbY cH=>AC #[BP bW,BP bX,BP bY,vS,vU,vS,vU,vS,vU,.map (some v),.map (some bF)] E.Bs cH λbG cI=>K (sM bG) cI) aS) aH) T))/\(AL (.map #[] 0) w2.drew λJ u=>C7 u b1 2 a/\C7 u b1 1 e/\u.cell? (mA b1)=some (BP x3)/\(q0 x3 (λaE Y=>C7 Y b1 2 a/\C7 Y b1 1 e/\(q1 e (λaP aI=>C7 aI b1 2 a/\(q0 a (λbZ cJ=>AL (.map #[] 0) cJ λbH cK=>AC #[BP aE,BP aP,BP bZ,vS,vU,vS,vU,vS,vU,.map (some bH),.map (some J)] E.Bs cK λbI cL=>K (sM bI) cL) aI)/\(AL (.map #[] 0) aI λbJ aT=>C7 aT b1 2 a/\q0 a (λb0 cM=>AC #[BP aE,BP aP,BP b0,vS,vU,vS,vU,vS,vU,.map (some bJ),.map (some J)] E.Bs cM λbK cN=>K (sM bK) cN) aT)) Y)/\(AL (.map #[] 0) Y λbL aJ=>C7 aJ b1 2 a/\C7 aJ b1 1 e/\q1 e (λb2 aU=>C7 aU b1 2 a/\q0 a (λb3 cO=>AC #[BP aE,BP b2,BP b3,vS,vU,vS,vU,vS,vU,.map (some bL),.map (some J)] E.Bs cO λbM cP=>K (sM bM) cP) aU) aJ)) u)/\(AL (.map #[] 0) u λbN aA=>C7 aA b1 2 a/\C7 aA b1 1 e/\aA.cell? (mA b1)=some (BP x3)/\q0 x3 (λb4 aK=>C7 aK b1 2 a/\C7 aK b1 1 e/\q1 e (λb5 aV=>C7 aV b1 2 a/\q0 a (λb6 cQ=>AC #[BP b4,BP b5,BP b6,vS,vU,vS,vU,vS,vU,.map (some bN),.map (some J)] E.Bs cQ λbO cR=>K (sM bO) cR) aV) aK) aA))
def F.KV:Y2:=T0.KV E (F.Ap E) (F.CX E)
def F.DB:Y3:=λa0 K w=>
 NC a0 λp1=>stCells (p1.add 8) 0 [vS] w λw2=>BK (Int×Unit) (0,()) w2 λs3 _ O a=>cD (s3.1<4) (NC a0 λp6=> ∃T,EW O (p6.add 8) T/\AL (.map #[] 0) O λY w9=>AC ⟨[.map (some Y)]⟩ E.Es w9 λe u=>APP E.Es 1 8 #[.map none] T (P5 e) u λFj v=>NC a0 λj=>stCells (j.add 8) 0 [BP Fj] v λJ=>a (i64 (s3.1+1),()) J) (K O)
def T0.HZ(q0:Y3):Y4:=λK w=>
 AC #[vS,vU,vS,vU,vS,vU,vS,vU,vS] E.Qy w λb1 a=>q0 (sM b1) (λe=>K (sM b1) e) a
def F.HZ:Y4:=T0.HZ E (F.DB E)
def F.Ms:Y4:=λK w=>
 AL (.map #[] 0) w λb1 e=>AC #[vS,vU,vS,.map (some b1)] E.Sq e λa j=>K (sM a) j
def F.Ts:Y5:=λa0 K w=>
 At (Bool×Unit) (λa=>cD (a0<1) (a (true,()) w) (a (decide (a0>16384),()) w)) λs2 _ e=>CND s2.1 (K none 1 e) (AC #[iI a0,vS,vP,vI] E.LD e λj u=>K (sM j) 0 u)
def F.NM:Y4:=λK w=>
 AC #[vU,vU,vU] E.Ft w λb1 a=>K (sM b1) a
def T0.IQ(q0:Y4)(q1:Y4)(q2:Y5)(q3:Y4):Y6:=λa0 K w=>
 q0 (λr1 w2=>q1 (λr3 w4=>AL (.map #[] 0) w4 λY w6=>AC #[.pointer a0,.pointer r1,.pointer r3,vP,.map (some Y),vP,vP,vP,vP,vP,vP,vP,vP,vP,vP,vP,vP,vP,vP,vP,vP,vP,vP,vP,vP,vP,vP,vP,vP,vP,vP,vP,vP,vP,vP,vP,vP,vP,vP,vP,vP,vP,vP,vP,vP,vP,vP,vP,vP,vP,vP,vP,vP,vP,vP,vP,vP,vP,vP,vP,vP,vP,vP,vP,vP,vP,vP,vP,vP,vU,vU] E.Ab w6 λj w8=>q2 1 (λr9 aD v=>stCells ((mA j).add 3) 0 [.pointer r9] v λJ=>BK (Int×Unit) (0,()) J λIS _ e a=>cD (IS.1<64) (q3 (λu O=>Br IS.1 64/\stCells (((mA j).add 5).add (Int.toNat IS.1*1)) 0 [.pointer u] O λT=>a (i64 (IS.1+1),()) T) e.drew) (K (sM j) e)) w8) w2) w
def F.IQ:Y6:=T0.IQ E (F.HZ E) (F.Ms E) (F.Ts E) (F.NM E)
def F.Q3:Y4:=λK w=>
 AL (.map #[] 0) w λb1 u=>AL (.map #[] 0) u λa v=>AL (.map #[] 0) v λe J=>AC #[.map (some b1),.map (some a),.map (some e)] E.Et J λj O=>K (sM j) O
def F.L5:Y4:=λK w=>
 AC #[vP,vI] E.C8 w λb1 a=>K (sM b1) a
def F.PF:Y4:=λK w=>
 AC #[vS] E.GV w λb1 a=>K (sM b1) a
def F.PG:Y7:=λa0 a1 a2 K w=>
 AC #[.pointer a0,.pointer a1,.pointer a2,vS,vU,vU,vU,vU] E.DI w λb1 a=>K (sM b1) a
def F.PH:Y6:=λa0 K w=>
 AL (.map #[] 0) w λb1 J=>AC #[.pointer a0,vS,vS,vS,vS,vS,vS,vS,vS,vS,vS,vS,vS,vS,vS,vS,vS,vS,vS,vS,vS,vS,vS,vS,vS,vS,vS,vS,vS,vS,vS,vS,vS,vS,vS,vS,vS,vS,vS,vS,vS,vS,vS,vS,vS,vS,vS,vS,vS,vS,vS,vS,vS,vS,vS,vS,vS,vS,vS,vS,vS,vS,vS,vS,vS,vS,vS,vS,vS,vS,vS,vS,vS,vS,vS,vS,vS,vS,vS,vS,vS,vS,vS,vS,vS,vS,vS,vS,vS,vS,vS,vS,vS,vS,vS,vS,vS,vS,vS,vS,vS,vS,vS,vS,vS,vS,vS,vS,vS,vS,vS,vS,vS,vS,vS,vS,vS,vS,vS,vS,vS,vS,vS,vS,vS,vS,vS,vS,vS,vS,vS,vS,vS,vS,vS,vS,vS,vS,vS,vS,vS,vS,vS,vS,vS,vS,vS,vS,vS,vS,vS,vS,vS,vS,vS,vS,vS,vS,vS,vS,vS,vS,vS,vS,vS,vS,vS,vS,vS,vS,vS,vS,vS,vS,vS,vS,vS,vS,vS,vS,vS,vS,vS,vS,vS,vS,vS,vS,vS,vS,vS,vS,vS,vS,vS,vS,vS,vS,vS,vS,vS,vS,vS,vS,vS,vS,vS,vS,vS,vS,vS,vS,vS,vS,vS,vS,vS,vS,vS,vS,vS,vS,vS,vS,vS,vS,vS,vS,vS,vS,vS,vS,vS,vS,vS,vS,vS,vS,vS,vS,vS,vS,vS,vS,vS,vS,vS,vS,vS,vS,vS,vS,vS,vS,vS,vS,vS,.map none,.map none,.map none,.map none,.map (some b1)] E.Jc J λj O=>BK (Int×Unit) (0,()) O λs5 _ u a=>cD (s5.1<4) (AL (.map #[] 0) u λv T=>Br s5.1 4/\stCells (((mA j).add 257).add (Int.toNat s5.1*1)) 0 [.map (some v)] T λe=>a (i64 (s5.1+1),()) e) (K (sM j) u)
def F.L6:Y6:=λa0 K w=>
 AC #[.pointer a0] E.A5 w λb1 a=>K (sM b1) a
def F.PI:Y8:=λa0 a1 K w=>
 AC #[.pointer a0,iI a1,vI,vI,vI,vI,vI,vI,vI,vI,vI,vI,vI,vI,vI,vI,vI,vI,vI,vI,vI,vI,vI,vI,vI,vI,vI,vI,vI,vI,vI,vI,vI,vI,vI,vI,vI,vI,vI,vI,vI,vI,vI,vI,vI,vI,vI,vI,vI,vI,vI,vI,vI,vI,vI,vI,vI,vI,vI,vI,vI,vI,vI,vI,vI,vI,vI,vI,vI,vI,vI,vI,vI,vI,vI,vI,vI,vI,vI,vI,vI,vI,vI,vI,vI,vI,vI,vI,vI,vI,vI,vI,vI,vI,vI,vI,vI,vI,vI,vI,vI,vI,vI,vI,vI,vI,vI,vI,vI,vI,vI,vI,vI,vI,vI,vI,vI,vI,vI,vI,vI,vI,vI,vI,vI,vI,vI,vI,vI,vI,vI,vI,vI,vI,vI,vI,vI,vI,vU,vI] E.GW w λb1 a=>K (sM b1) a
def T0.IC(q0:Y2)(q1:Y6)(q2:Y4)(q3:Y4)(q4:Y4)(q5:Y7)(q6:Y6)(q7:Y6)(q8:Y8):Y9:=λJ O T a1 a2 K w=>
 AC #[BP J,BP O,BP T] E.Ek w λb1 w2=>At (Bool×Unit) (λJ3=>cD (a1<1) (J3 (true,()) w2) (J3 (decide (a1>64),()) w2)) λs4 _ w5=>CND s4.1 (K none 1 w5) (∃c6,EW w5 ((mA b1).add 0) c6/\ ∃c7,EW w5 ((mA b1).add 1) c7/\ ∃c8,EW w5 ((mA b1).add 2) c8/\q0 c6 c7 c8 (λr9 aT=>q1 r9 (λaL aU=>q2 (λaM aV=>q3 (λaN aW=>AL (.map #[] 0) aW λaJ aX=>q4 (λaO aY=>AC #[.pointer aL,.pointer aM,.pointer aN,vP,vS,vP,.map (some aJ),.pointer aO,iI a2,.bool false,vU,vU] E.Cn aY λa j=> ∃aE,Da j.drew (mA a) aE/\ ∃aF,Da j.drew ((mA a).add 1) aF/\ ∃aG,Da j.drew ((mA a).add 2) aG/\q5 aE aF aG (λaP aZ=>stCells ((mA a).add 3) 0 [.pointer aP] aZ λY=> ∃aH,Da Y (mA a) aH/\q6 aH (λaQ a0=>stCells ((mA a).add 5) 0 [.pointer aQ] a0 λaA=> ∃aI,Da aA ((mA a).add 3) aI/\q7 aI (λaR a3=>BK (Int×Unit) (0,()) a3 λWo _ v e=>cD (Wo.1<a1) (∃u,EW v.drew ((mA a).add 4) u/\q8 aR Wo.1 (λaS aB=>C7 aB a 4 u/\AC ⟨[.pointer aS]⟩ E.Gn aB λaK aC=>C7 aC a 4 u/\APP E.Gn 1 8 #[vP] u (P5 aK) aC λvB a4=>stCells ((mA a).add 4) 0 [BP vB] a4 λa5=>e (i64 (Wo.1+1),()) a5) v.drew) (K (sM a) 0 v)) aA) Y) j.drew) aX) aV) aU) aT) w5)
def F.IC:Y9:=T0.IC E (F.KV E) (F.IQ E) (F.Q3 E) (F.L5 E) (F.PF E) (F.PG E) (F.PH E) (F.L6 E) (F.PI E)
def F.Ui:Y8:=λa0 a1 K w=>
 AC #[.pointer a0,iU a1] E.El w λb1 a=>K (sM b1) a
def F.PJ:Y10:=λK w=>
 AL (.map #[] 0) w λb1 w2=>KT .i64 1 (.func (.func E.Hw) #[] #[]) (some b1) w2 λw3=>KT .i64 2 (.func (.func E.HM) #[] #[]) (some b1) w3 λw4=>KT .i64 3 (.func (.func E.Nk) #[] #[]) (some b1) w4 λw5=>KT .i64 4 (.func (.func E.Hx) #[] #[]) (some b1) w5 λw6=>KT .i64 5 (.func (.func E.OP) #[] #[]) (some b1) w6 λw7=>KT .i64 6 (.func (.func E.Fu) #[] #[]) (some b1) w7 λw8=>KT .i64 7 (.func (.func E.Hy) #[] #[]) (some b1) w8 λw9=>KT .i64 8 (.func (.func E.IP) #[] #[]) (some b1) w9 λa=>KT .i64 9 (.func (.func E.OQ) #[] #[]) (some b1) a λe=>KT .i64 10 (.func (.func E.Gq) #[] #[]) (some b1) e λj=>KT .i64 11 (.func (.func E.Ir) #[] #[]) (some b1) j λu=>KT .i64 12 (.func (.func E.Hz) #[] #[]) (some b1) u λv=>KT .i64 13 (.func (.func E.IA) #[] #[]) (some b1) v λJ=>KT .i64 14 (.func (.func E.HO) #[] #[]) (some b1) J λO=>KT .i64 15 (.func (.func E.L4) #[] #[]) (some b1) O λT=>KT .i64 16 (.func (.func E.IB) #[] #[]) (some b1) T λY=>K (some b1) Y
def T0.K1(q0:Y9)(q1:Y8)(q2:Y10):Y9:=λu v J a1 a2 K w=>
 AC #[BP u,BP v,BP J] E.Ek w λb1 w2=> ∃c3,EW w2 ((mA b1).add 0) c3/\ ∃c4,EW w2 ((mA b1).add 1) c4/\ ∃c5,EW w2 ((mA b1).add 2) c5/\q0 c3 c4 c5 a1 a2 (λr6 r7 w8=>CND (r7 !=0) (K none r7 w8) (At ((Option Addr)×Unit) (λJ9=>NC r6 λO=> ∃e,Da w8.drew O e/\(q1 e 4607632778762754458 (λT Y=>(((0:Int)<=a1/\a1<=a1/\a1<9223372036854775808/\((24:Nat):Int)*a1<=140737488355328)/\AC (LJ #[vS] (Int.toNat a1*1)) E.I3 Y λaF aU=>q2 (λaP aV=>AC #[.pointer r6,.pointer T,vS,.slice (sM aF) (Int.toNat a1) (Int.toNat a1),vS,vS,iI (-1),iI (-1),.bool false,.bool false,.map aP] E.Ee aV λaG aW=>J9 ((sM aG),()) aW) aU)/\(q2 (λaQ aX=>((0:Int)<=a1/\a1<=a1/\a1<9223372036854775808/\((24:Nat):Int)*a1<=140737488355328)/\AC (LJ #[vS] (Int.toNat a1*1)) E.I3 aX λaH aY=>AC #[.pointer r6,.pointer T,vS,.slice (sM aH) (Int.toNat a1) (Int.toNat a1),vS,vS,iI (-1),iI (-1),.bool false,.bool false,.map aQ] E.Ee aY λaI aZ=>J9 ((sM aI),()) aZ) Y)) w8.drew)/\(((0:Int)<=a1/\a1<=a1/\a1<9223372036854775808/\((24:Nat):Int)*a1<=140737488355328)/\AC (LJ #[vS] (Int.toNat a1*1)) E.I3 w8.drew λaJ aA=>aA.cell? O=some (.pointer e)/\q1 e 4607632778762754458 (λaR a0=>q2 (λaS a3=>AC #[.pointer r6,.pointer aR,vS,.slice (sM aJ) (Int.toNat a1) (Int.toNat a1),vS,vS,iI (-1),iI (-1),.bool false,.bool false,.map aS] E.Ee a3 λaK a4=>J9 ((sM aK),()) a4) a0) aA)) λGM _ aT=>BK (Int×Unit) (0,()) aT λWo _ j a=>cD (Wo.1<(i64 (a1+2))) (rS GM.1 j 2 λa9=>AC #[iI Wo.1,vI,vI,vI,vI,.bool false,.bool false,vU,vU] E.LR j λaL a5=>AC ⟨[.pointer (sM aL)]⟩ E.CR a5 λaM a6=>APP E.CR 1 8 #[vP] a9 (P5 aM) a6 λs45 a7=>NC GM.1 λaN=>stCells (aN.add 2) 0 [BP s45] a7 λa8=>a (i64 (Wo.1+1),()) a8) (K GM.1 0 j))) w2
def F.K1:Y9:=T0.K1 E (F.IC E) (F.Ui E) (F.PJ E)
def F.JD(E:Env):Y11:=λa0 a1 a2 K w=>
 NC a0 λp1=>stCells (p1.add 8) 0 [.bool a1,.bool a2] w λa=>K a
def T0.EO(q0:Y0)(q1:Y9)(q2:Y11):Y12:=λj u v a1 a2 a3 K w=>
 AC #[BP j,BP u,BP v] E.Ek w λb1 T=> ∃c3,EW T ((mA b1).add 0) c3/\ ∃c4,EW T ((mA b1).add 1) c4/\ ∃c5,EW T ((mA b1).add 2) c5/\q0 c3 c4 c5 (λr6 r7 r8 w9=>q1 r6 r7 r8 a1 a2 (λa aA J=>At (Bool×Unit) (λe=>CND (a.isNone) (e (true,()) J) (e (aA !=0,()) J)) λM6 _ O=>CND M6.1 (K none O) (q2 a (((EA .i64 0 a3 1):Int)==1) (((EA .i64 0 a3 2):Int)==2) (λaB=>AC #[.pointer a,vS,vS,vS,vS,vI,.bool true,vI,vS] E.EI aB λY aC=>K (sM Y) aC) O)) w9) T
def F.EO:Y12:=T0.EO E (F.I4 E) (F.K1 E) (F.JD E)
def F.BE(E:Env):Tr:=λa0 K w=>
 rB a0 w 9 λx2=>K x2 w
def T0.Ev(q0:Tr)(q1:Y1)(q2:Y1):Y14:=λa0 aU aV aW aX aY aZ a1 a2 a3 a4 K w=>
 AC #[iI aU,iI aV,iU aW,iU aX,iI aY,iU aZ,.bool a1,iI a2,BP a3,BP a4] E.BN w λb1 w2=>Hb a0 w2 λx4=>q0 x4 (λr5 w6=>CND r5 (K 0 41 w6) (At (Bool×Unit) (λJ7=> ∃a7,AU w6.drew ((mA b1).add 1) .i64 a7/\cD (a7<0) (J7 (true,()) w6.drew) (∃a8,AU w6.drew ((mA b1).add 1) .i64 a8/\rS a0 w6.drew 3 λbQ=>cD (a8≥((bQ.len:Nat):Int)) (J7 (true,()) w6.drew) (∃a9,AU w6.drew (mA b1) .i64 a9/\cD (a9<1) (J7 (true,()) w6.drew) (∃bA,AU w6.drew (mA b1) .i64 bA/\J7 (decide (bA>9),()) w6.drew)))) λs8 _ w9=>CND s8.1 (K 0 1 w9) (∃bB,EW w9 (((mA b1).add 7).add 1) bB/\q1 bB (λbJ bM=>stCells (((mA b1).add 7).add 1) 0 [BP bJ] bM λa6=> ∃bC,EW a6 ((mA b1).add 9) bC/\q2 bC (λbK bN=>stCells ((mA b1).add 9) 0 [BP bK] bN λa=>NC a0 λaQ=> ∃aO,EW a.drew (aQ.add 4) aO/\ ∃T,AU a.drew ((mA b1).add 0) .i64 T/\ ∃Y,AU a.drew ((mA b1).add 1) .i64 Y/\ ∃aA,AU a.drew ((mA b1).add 2) .u64 aA/\ ∃aB,AU a.drew ((mA b1).add 3) .u64 aB/\ ∃aC,AU a.drew ((mA b1).add 4) .i64 aC/\ ∃aE,AU a.drew ((mA b1).add 5) .u64 aE/\ ∃aF,FC a.drew ((mA b1).add 6) aF/\ ∃aG,AU a.drew ((mA b1).add 7) .i64 aG/\ ∃aH,EW a.drew ((mA b1).add 8) aH/\ ∃aI,EW a.drew ((mA b1).add 9) aI/\AC #[iI T,iI Y,iU aA,iU aB,iI aC,iU aE,.bool aF,iI aG,BP aH,BP aI,vU,vU,vI,.bool false] E.Mo a.drew λbE e=>(e.cell? ((mA b1).add 0)=some (iI T)/\(e.cell? ((mA b1).add 1)=some (iI Y)/\(e.cell? ((mA b1).add 2)=some (iU aA)/\(e.cell? ((mA b1).add 3)=some (iU aB)/\(e.cell? ((mA b1).add 4)=some (iI aC)/\(e.cell? ((mA b1).add 5)=some (iU aE)/\(e.cell? ((mA b1).add 6)=some (.bool aF)/\(e.cell? ((mA b1).add 7)=some (iI aG)/\(C7 e b1 8 aH/\(C7 e b1 9 aI/\True))))))))))/\e.cell? (aQ.add 4)=some (BP aO)/\AC ⟨[.pointer (sM bE)]⟩ E.LS e λbF j=>(j.cell? ((mA b1).add 0)=some (iI T)/\(j.cell? ((mA b1).add 1)=some (iI Y)/\(j.cell? ((mA b1).add 2)=some (iU aA)/\(j.cell? ((mA b1).add 3)=some (iU aB)/\(j.cell? ((mA b1).add 4)=some (iI aC)/\(j.cell? ((mA b1).add 5)=some (iU aE)/\(j.cell? ((mA b1).add 6)=some (.bool aF)/\(j.cell? ((mA b1).add 7)=some (iI aG)/\(C7 j b1 8 aH/\(C7 j b1 9 aI/\True))))))))))/\j.cell? (aQ.add 4)=some (BP aO)/\APP E.LS 1 8 #[vP] aO (P5 bF) j λbL u=>(u.cell? ((mA b1).add 0)=some (iI T)/\(u.cell? ((mA b1).add 1)=some (iI Y)/\(u.cell? ((mA b1).add 2)=some (iU aA)/\(u.cell? ((mA b1).add 3)=some (iU aB)/\(u.cell? ((mA b1).add 4)=some (iI aC)/\(u.cell? ((mA b1).add 5)=some (iU aE)/\(u.cell? ((mA b1).add 6)=some (.bool aF)/\(u.cell? ((mA b1).add 7)=some (iI aG)/\(C7 u b1 8 aH/\(C7 u b1 9 aI/\True))))))))))/\NC a0 λbH=>stCells (bH.add 4) 0 [BP bL] u λv=>rS a0 v 4 λbR=>JB (i64 (((bR.len:Nat):Int)-1):Int) λaP=>NC a0 λaR=> ∃aK,EW v.drew (aR.add 3) aK/\ ∃aL,AU v.drew ((mA b1).add 1) .i64 aL/\NC a0 λaS=> ∃aM,EW v.drew (aS.add 3) aM/\ ∃O,AU v.drew ((mA b1).add 1) .i64 O/\NC aM.base λa5=>Br O aM.len/\ ∃aT,EW v.drew (aD a5 O 1) aT/\AC ⟨[iI aP]⟩ E.Ar v.drew λbG J=>J.cell? (aD a5 O 1)=some (BP aT)/\J.cell? ((mA b1).add 1)=some (iI O)/\J.cell? (aS.add 3)=some (BP aM)/\J.cell? ((mA b1).add 1)=some (iI aL)/\J.cell? (aR.add 3)=some (BP aK)/\APP E.Ar 1 8 #[vI] aT (P5 bG) J λUj aJ=>aJ.cell? ((mA b1).add 1)=some (iI O)/\aJ.cell? (aS.add 3)=some (BP aM)/\aJ.cell? ((mA b1).add 1)=some (iI aL)/\aJ.cell? (aR.add 3)=some (BP aK)/\NC aK.base λbI=>Br aL aK.len/\stCells (aD bI aL 1) 0 [BP Uj] aJ λbO=>K aP 0 bO) a6) w9))) w2
def F.Ev:Y14:=T0.Ev E (F.BE E) (F.CX E) (F.Ap E)
def T0.Ct(q0:Y14)(q1:Tr):Y15:=λa0 O T Y aA aB aC aD aE aF aG a2 K w=>
 AC #[iI O,iI T,iU Y,iU aA,iI aB,iU aC,.bool aD,iI aE,BP aF,BP aG] E.BN w λb1 e=>Hb a0 e.drew λx4=> ∃c5,AU e.drew ((mA b1).add 0) .i64 c5/\ ∃c6,AU e.drew ((mA b1).add 1) .i64 c6/\ ∃c7,AU e.drew ((mA b1).add 2) .u64 c7/\ ∃c8,AU e.drew ((mA b1).add 3) .u64 c8/\ ∃c9,AU e.drew ((mA b1).add 4) .i64 c9/\ ∃aH,AU e.drew ((mA b1).add 5) .u64 aH/\ ∃aI,FC e.drew ((mA b1).add 6) aI/\ ∃aJ,AU e.drew ((mA b1).add 7) .i64 aJ/\ ∃aK,EW e.drew ((mA b1).add 8) aK/\ ∃aL,EW e.drew ((mA b1).add 9) aL/\q0 x4 c5 c6 c7 c8 c9 aH aI aJ aK aL (λaZ aO a=>CND (aO !=0) (CND (aO==41) (Hb a0 a λa8=>Hb a8 a λa9=>q1 a9 K a) (K false a)) (rS a0 a 3 λbA=>CND (aZ !=((bA.len:Nat):Int)) (K false a) (rS a0 a 3 λbB=>AC ⟨[iU a2]⟩ E.AF a λaT a3=>APP E.AF 1 8 #[vU] bB (P5 aT) a3 λoE a4=>NC a0 λaW=>stCells (aW.add 3) 0 [BP oE] a4 λj=>NC a0 λaM=> ∃v,EW j.drew (aM.add 4) v/\ ∃aR,AU j.drew (mA b1) .i64 aR/\AC ⟨[iI aR]⟩ E.Ar j.drew λaU aP=>aP.cell? (aM.add 4)=some (BP v)/\APP E.Ar 1 8 #[vI] v (P5 aU) aP λa1 a5=>NC a0 λaX=>stCells (aX.add 4) 0 [BP a1] a5 λu=>NC a0 λaN=> ∃J,EW u.drew (aN.add 8) J/\ ∃aS,EW u.drew ((mA b1).add 9) aS/\AC ⟨[BP aS]⟩ E.Db u.drew λaV aQ=>aQ.cell? (aN.add 8)=some (BP J)/\APP E.Db 1 24 #[vS] J (P5 aV) aQ λs48 a6=>NC a0 λaY=>stCells (aY.add 8) 0 [BP s48] a6 λa7=>K true a7))) e.drew
def F.Ct:Y15:=T0.Ct E (F.Ev E) (F.BE E)
def F.DQ:Y16:=λa0 a1 K w=>
 BK (Int×Unit) (0,()) w λs1 _ e a=>cD (s1.1<((a0.len:Nat):Int)) (NC a0.base λJ=>Br s1.1 a0.len/\ ∃u,Da e (aD J s1.1 1) u/\DYN E.call a1 #[.pointer u] e λO j=> ∃v:Bool,O= .bool v/\CND v (K s1.1 j) (a (i64 (s1.1+1),()) j)) (K (-1) e)
def T0.An(E:Env)(q0:Y16):Y17:=λa0 a1 K w=>
 q0 a0 a1 (λr1 a=>K (decide (r1≥0)) a) w
def F.An:Y17:=T0.An E (F.DQ E)
def T0.Bg(q0:Y17):Tr:=λa0 K w=>
 rS a0 w 4 λx2=>q0 x2 (.func (.func E.Ik) #[] #[]) K w
def F.Bg:Tr:=T0.Bg E (F.An E)
def F.C4:Y16:=λa0 a1 K w=>
 BK (Int×Unit) (0,()) w λs1 _ e a=>cD (s1.1<((a0.len:Nat):Int)) (NC a0.base λJ=>Br s1.1 a0.len/\ ∃u,Da e (aD J s1.1 1) u/\DYN E.call a1 #[.pointer u] e λO j=> ∃v:Bool,O= .bool v/\CND v (K s1.1 j) (a (i64 (s1.1+1),()) j)) (K (-1) e)
def T0.Al(E:Env)(q0:Y16):Y17:=λa0 a1 K w=>
 q0 a0 a1 (λr1 a=>K (decide (r1≥0)) a) w
def F.Al:Y17:=T0.Al E (F.C4 E)
def T0.Em(q0:Tr)(e:Y17):Tr:=λa0 K w=>
 q0 a0 (λr1 a=>CND (!r1) (rI a0 a 6 .i64 λv=>CND (v==(-1)) (rS a0 a 2 λJ=>e J (.func (.func E.Jd) #[] #[]) (λj u=>K (!j) u) a) (K false a)) (K false a)) w
def F.Em:Tr:=T0.Em E (F.Bg E) (F.Al E)
def F.KK(E:Env):Y18:=λa0 a1 a2 K w=>
 CND (a2==6) (rI a0 w 6 .i64 λx2=>K (x2 !=(-1)) w) (CND (a2==13) (rS a0 w 2 λx4=>BK (Int×Unit) (0,()) w λs5 _ a j=>cD (s5.1<((x4.len:Nat):Int)) (NC x4.base λp8=>Br s5.1 x4.len/\ ∃x9,Da a (aD p8 s5.1 1) x9/\At (Bool×Unit) (λe=>oB x9 a1 a.drew λv=>CND (!v) (rI x9 a.drew 2 .i64 λJ=>CND (J !=0) (e (true,()) a.drew) (rI x9 a.drew 3 .i64 λO=>cD (O>0) (e (true,()) a.drew) (rI a0 a.drew 6 .i64 λT=>MX x9 a.drew .i64 λY=>e (T==Y,()) a.drew))) (e (false,()) a.drew)) λvC _ u=>CND vC.1 (K true u) (j (i64 (s5.1+1),()) u)) (K false a)) (K false w))
def F.FG(E:Env):Y6:=λa0 K w=>
 rS a0 w.drew 2 λx2=>rS a0 w.drew 3 λa=>NC x2.base λj=>Br ((a.len:Nat):Int) x2.len/\ ∃e,Da w.drew (j.add (Int.toNat ((a.len:Nat):Int)*1)) e/\K e w.drew
def F.GD:lL:=λa0 K w=>
 NC a0 λp1=> ∃x2,Nv w (p1.add 2) x2/\ ∃Y,N3 w x2 Y/\AL (Jz x2 Y) w λb4 w5=>BK ((Option Addr)×Unit) (none,()) w5 λs6 _ w7 e=>At (Bool×Unit) (λJ9=>TZ b4 w7 (λaK=>J9 (false,()) aK) λaT aU aL=>J9 (true,()) aL) λGM _ v=>At (Bool×Unit) (λaF=>CND GM.1 (aF (GM.1,()) v) (CND (s6.1.isNone) (K 0 false v) (MX s6.1 v .i64 λaN=>K aN true v))) λUl _ aA=>oA b4 aA λaG aJ aS=>unVT (.agg [.int .i64,.bool,.bool,.bool]) aG λJ=>vH aJ λj=>AC #[vI,.bool false,.bool false,.bool false] E.JQ aA λT aM=>stCells (mA T) 0 [iI J.1,.bool J.2.1,.bool J.2.2.1,.bool J.2.2.2.1] aM λa=>At (Bool×Unit) (λu=> ∃aB,FC a.drew ((mA T).add 3) aB/\CND (!aB) (cD ((((j.len:Nat):Int):Int)>0) (CND (s6.1.isNone) (u (true,()) a.drew) (NC j.base λaH=>Br 0 j.len/\ ∃aC,Da a.drew (aD aH 0 1) aC/\rI aC a.drew 1 .u64 λaO=>rI s6.1 a.drew 1 .u64 λaP=>u (decide (aO<aP),()) a.drew)) (u (false,()) a.drew)) (u (false,()) a.drew)) λoE _ O=>CND oE.1 (NC j.base λaI=>Br 0 j.len/\ ∃aE,Da O (aD aI 0 1) aE/\e (aE,()) O) (e (s6.1,()) O)
def F.FD(E:Env):Y6:=λa0 K w=>
 rS a0 w.drew 2 λx2=>rS a0 w.drew 3 λa=>NC x2.base λj=>Br (i64 (((a.len:Nat):Int)+1)) x2.len/\ ∃e:(Option Addr),w.drew.cell? (j.add (Int.toNat (i64 (((a.len:Nat):Int)+1))*1))=some (.pointer e)/\K e w.drew
def F.HP(E:Env):OM:=λa0 K w=>
 NC a0 λp1=> ∃x2:Int,w.cell? (p1.add 1)=some (iU x2)/\K x2 w
def T0.Ba(E:Env)(q0:OM):OM:=λa0 K w=>
 NC a0 λp1=>q0 (some (p1.add 4)) K w
def F.Ba:OM:=T0.Ba E (F.HP E)
def F.Ef(E:Env):Tr:=λa0 K w=>
 rI a0 w 1 .u64 λx2=>K (x2==0) w
def T0.C2(E:Env)(q0:Tr):Y21:=λa0 K w=>
 q0 a0 (λr1 a=>CND r1 (K 0 0 0 a) (MX a0 a.drew .u64 λe=>rI a0 a.drew 1 .u64 λj=>rI a0 a.drew 2 .u64 λu=>K e j u a.drew)) w
def F.C2:Y21:=T0.C2 E (F.Ef E)
def T0.EP(E:Env)(q0:OM):OM:=λa0 K w=>
 NC a0 λp1=>q0 (some p1) K w
def F.EP:OM:=T0.EP E (F.HP E)
def T0.DR(E:Env)(q0:OM)(q1:Y21)(q2:OM):Y21:=λa0 K w=>
 rP a0 w 1 λx2=>q0 x2 (λr3 a=>NC a0 λe=> ∃c6,Da a ((e.add 5).add 0) c6/\ ∃c7,Da a ((e.add 5).add 1) c7/\ ∃c8,Da a ((e.add 5).add 2) c8/\ ∃c9,Da a ((e.add 5).add 3) c9/\ ∃T,Da a ((e.add 5).add 4) T/\ ∃Y,Da a ((e.add 5).add 5) Y/\ ∃aA,Da a ((e.add 5).add 6) aA/\ ∃aB,Da a ((e.add 5).add 7) aB/\ ∃aC,Da a ((e.add 5).add 8) aC/\ ∃aD,Da a ((e.add 5).add 9) aD/\ ∃aE,Da a ((e.add 5).add 10) aE/\ ∃aF,Da a ((e.add 5).add 11) aF/\ ∃aG,Da a ((e.add 5).add 12) aG/\ ∃aH,Da a ((e.add 5).add 13) aH/\ ∃aI,Da a ((e.add 5).add 14) aI/\ ∃aJ,Da a ((e.add 5).add 15) aJ/\ ∃aK,Da a ((e.add 5).add 16) aK/\ ∃aL,Da a ((e.add 5).add 17) aL/\ ∃aM,Da a ((e.add 5).add 18) aM/\ ∃aN,Da a ((e.add 5).add 19) aN/\ ∃aO,Da a ((e.add 5).add 20) aO/\ ∃aP,Da a ((e.add 5).add 21) aP/\ ∃aQ,Da a ((e.add 5).add 22) aQ/\ ∃aR,Da a ((e.add 5).add 23) aR/\ ∃aS,Da a ((e.add 5).add 24) aS/\ ∃aT,Da a ((e.add 5).add 25) aT/\ ∃aU,Da a ((e.add 5).add 26) aU/\ ∃aV,Da a ((e.add 5).add 27) aV/\ ∃aW,Da a ((e.add 5).add 28) aW/\ ∃aX,Da a ((e.add 5).add 29) aX/\ ∃aY,Da a ((e.add 5).add 30) aY/\ ∃aZ,Da a ((e.add 5).add 31) aZ/\ ∃a1,Da a ((e.add 5).add 32) a1/\ ∃a2,Da a ((e.add 5).add 33) a2/\ ∃a3,Da a ((e.add 5).add 34) a3/\ ∃a4,Da a ((e.add 5).add 35) a4/\ ∃a5,Da a ((e.add 5).add 36) a5/\ ∃a6,Da a ((e.add 5).add 37) a6/\ ∃a7,Da a ((e.add 5).add 38) a7/\ ∃a8,Da a ((e.add 5).add 39) a8/\ ∃a9,Da a ((e.add 5).add 40) a9/\ ∃bA,Da a ((e.add 5).add 41) bA/\ ∃bB,Da a ((e.add 5).add 42) bB/\ ∃bC,Da a ((e.add 5).add 43) bC/\ ∃bD,Da a ((e.add 5).add 44) bD/\ ∃bE,Da a ((e.add 5).add 45) bE/\ ∃bF,Da a ((e.add 5).add 46) bF/\ ∃bG,Da a ((e.add 5).add 47) bG/\ ∃bH,Da a ((e.add 5).add 48) bH/\ ∃bI,Da a ((e.add 5).add 49) bI/\ ∃bJ,Da a ((e.add 5).add 50) bJ/\ ∃bK,Da a ((e.add 5).add 51) bK/\ ∃bL,Da a ((e.add 5).add 52) bL/\ ∃bM,Da a ((e.add 5).add 53) bM/\ ∃bN,Da a ((e.add 5).add 54) bN/\ ∃bO,Da a ((e.add 5).add 55) bO/\ ∃bP,Da a ((e.add 5).add 56) bP/\ ∃bQ,Da a ((e.add 5).add 57) bQ/\ ∃bR,Da a ((e.add 5).add 58) bR/\ ∃bS,Da a ((e.add 5).add 59) bS/\ ∃bT,Da a ((e.add 5).add 60) bT/\ ∃bU,Da a ((e.add 5).add 61) bU/\ ∃bV,Da a ((e.add 5).add 62) bV/\ ∃bW,Da a ((e.add 5).add 63) bW/\BK (Int×Int×Unit) (r3,0,()) a λYv _ J u=>cD (Yv.2.1<64) (Br Yv.2.1 64/\q1 (List.getD [c6,c7,c8,c9,T,Y,aA,aB,aC,aD,aE,aF,aG,aH,aI,aJ,aK,aL,aM,aN,aO,aP,aQ,aR,aS,aT,aU,aV,aW,aX,aY,aZ,a1,a2,a3,a4,a5,a6,a7,a8,a9,bA,bB,bC,bD,bE,bF,bG,bH,bI,bJ,bK,bL,bM,bN,bO,bP,bQ,bR,bS,bT,bU,bV,bW] (Int.toNat Yv.2.1) none) (λcB cC b1 b3=>BK (Int×Int×Unit) (Yv.1,b1,()) b3 λj _ bZ v=>CND (j.2.1 !=0) (JB (EA .u64 0 j.2.1 (u64 (j.2.1-1)):Int) λbY=>v (u64 (j.1+1),bY,()) bZ) (u (j.1,i64 (Yv.2.1+1),()) bZ)) J) (rP a0 J.drew 2 λb4=>NC a0 λbX=> ∃O,AU J.drew (bX.add 70) .u64 O/\q2 b4 (λb2 b0=>b0.cell? (bX.add 70)=some (iU O)/\K (u64 (b2*512)) O Yv.1 b0) J.drew)) w
def F.DR:Y21:=T0.DR E (F.Ba E) (F.C2 E) (F.EP E)
def F.Ew(E:Env):Y22:=λa0 K w=>
 K (Int.toNat a0) w
def T0.Dw(E:Env)(q0:Y22):SC:=λa0 a1 K w=>
 q0 a1 (λr1 u=>FRES (Kl .mul (Ng a0) r1) u λa j=>CND ((EN a 4895412794951729152==some .gt||EN a 4895412794951729152==some .eq)) (K 18446744073709551615 j) (CND ((EN a 4607182418800017408==some .gt||EN a 4607182418800017408==some .eq)) (∃e:Int,TX a=some e/\(IntKind.min .u64<=e/\e<=IntKind.max .u64)/\K e j) (K 0 j))) w
def F.Dw:SC:=T0.Dw E (F.Ew E)
def T0.DJ(E:Env)(q0:Y21)(O:SC):OM:=λa0 K w=>
 Hb a0 w λx2=>q0 x2 (λj e u J=>rI a0 J 1 .u64 λT=>O e T (λv a=>cD (((u64 (j-u)):Int)<=(LI e v)) (K 0 a) (JB (u64 ((u64 (j-u))-(LI e v)):Int) λt11=>K t11 a)) J) w
def F.DJ:OM:=T0.DJ E (F.DR E) (F.Dw E)
def F.HX(E:Env):Sp:=λa0 K w=>
 CND (a0==1) (K 1 w) (At (Bool×Unit) (λe=>CND (a0==4) (e (a0==4,()) w) (e (a0==5,()) w)) λs2 _ a=>CND s2.1 (K 9 a) (CND (a0==7) (K 10 a) (CND (a0==6) (K 12 a) (K 6 a))))
def T0.ER(E:Env)(q0:Y18)(q1:Y6)(q2:lL)(q3:Y6)(q4:OM)(q5:Sp):Y25:=λa0 a1 K w=>
 rI a1 w 2 .i64 λx2=>CND (x2 !=0) (rI a1 w 2 .i64 λx4=>q0 a0 a1 x4 (λr5 w6=>K (!r5) w6) w) (rI a0 w 7 .i64 λx8=>CND (x8 !=(-1)) (K false w) (q1 a0 (λr9 j=>oB a1 r9 j λaM=>CND aM (Hb a0 j λaV=>rP aV j 1 λaW=>q2 aW (λa6 aN aC=>NC a0 λaJ=>Br 0 2/\ ∃aF,FC aC ((aJ.add 8).add (Int.toNat 0*1)) aF/\CND aF (K aN aC) (K false aC)) j) (q3 a0 (λaO a=>oB a1 aO a λaP=>CND aP (NC a0 λaK=>Br 1 2/\ ∃aG,FC a ((aK.add 8).add (Int.toNat 1*1)) aG/\CND aG (rP a0 a 1 λaX=>q4 aX (λaQ aE=>cD (aQ>0) (q0 a0 a1 6 (λaR aU=>K (!aR) aU) aE) (K false aE)) a) (K false a)) (rS a0 a.drew 3 λaH=>MX a1 a.drew .i64 λaI=>NC aH.base λaL=>Br aI aH.len/\ ∃O,EW a.drew (aD aL aI 1) O/\cD ((((O.len:Nat):Int):Int)>0) (NC a0 λY=> ∃u,EW a.drew.drew (Y.add 4) u/\NC O.base λaA=>Br 0 O.len/\ ∃e,AU a.drew.drew (aD aA 0 1) .i64 e/\NC u.base λaB=>Br e u.len/\ ∃T,Da a.drew.drew (aD aB e 1) T/\MX T a.drew.drew .i64 λaY=>q5 aY (λaS v=>v.cell? (aD aB e 1)=some (.pointer T)/\v.cell? (aD aA 0 1)=some (iI e)/\v.cell? (Y.add 4)=some (BP u)/\q0 a0 a1 aS (λaT J=>J.cell? (aD aB e 1)=some (.pointer T)/\J.cell? (aD aA 0 1)=some (iI e)/\J.cell? (Y.add 4)=some (BP u)/\K (!aT) J) v) a.drew.drew) (K false a.drew.drew))) j)) w))
def F.ER:Y25:=T0.ER E (F.KK E) (F.FG E) (F.GD E) (F.FD E) (F.DJ E) (F.HX E)
def T0.Bh(q0:Tr)(q1:Y25):Tc:=λa0 K w=>
 rS a0 w 2 λx2=>BK (AY×Int×Unit) (⟨none,0,0⟩,0,()) w λs3 _ u a=>cD (s3.2.1<((x2.len:Nat):Int)) (NC x2.base λp6=>Br s3.2.1 x2.len/\ ∃x7,Da u (aD p6 s3.2.1 1) x7/\At (Bool×Unit) (λJ8=>Hb a0 u λaB=>q0 aB (λJ j=>CND (!J) (q1 a0 x7 (λO T=>J8 (O,()) T) j) (J8 (false,()) j)) u) λs9 _ e=>CND s9.1 (MX x7 e .i64 λaC=>AC ⟨[iI aC]⟩ E.Ar e λv Y=>APP E.Ar 1 8 #[vI] s3.1 (P5 v) Y λs21 aA=>a (s21,i64 (s3.2.1+1),()) aA) (a (s3.1,i64 (s3.2.1+1),()) e)) (K s3.1 u)
def F.Bh:Tc:=T0.Bh E (F.BE E) (F.ER E)
def T0.Ey(E:Env)(q0:Tc):oD:=λa0 a1 K w=>
 q0 a0 (λr1 v=>BK (Int×Unit) (0,()) v λs3 _ e a=>cD (s3.1<((r1.len:Nat):Int)) (NC r1.base λu=>Br s3.1 r1.len/\ ∃j,AU e (aD u s3.1 1) .i64 j/\cD (j≥a1) (K s3.1 true e) (a (i64 (s3.1+1),()) e)) (K 0 (decide ((((r1.len:Nat):Int):Int)>0)) e)) w
def F.Ey:oD:=T0.Ey E (F.Bh E)
def F.En:vW:=λa0 a1 K w=>
 AC #[vI,vI,vU,vU,vI,vU,.bool false,vI,vS,vS] E.BN w λb1 e=>rS a0 e.drew 4 λx4=>rI a1 e.drew 1 .i64 λx6=>NC x4.base λp7=>Br x6 x4.len/\ ∃x8,Da e.drew (aD p7 x6 1) x8/\NC x8 λj=> ∃u,AU e.drew (j.add 0) .i64 u/\ ∃v,AU e.drew (j.add 1) .i64 v/\ ∃J,AU e.drew (j.add 2) .u64 J/\ ∃O,AU e.drew (j.add 3) .u64 O/\ ∃T,AU e.drew (j.add 4) .i64 T/\ ∃Y,AU e.drew (j.add 5) .u64 Y/\ ∃aA,FC e.drew (j.add 6) aA/\ ∃aB,AU e.drew (j.add 7) .i64 aB/\ ∃aC,EW e.drew (j.add 8) aC/\ ∃aE,EW e.drew (j.add 9) aE/\stCells (mA b1) 0 [iI u,iI v,iU J,iU O,iI T,iU Y,.bool aA,iI aB,BP aC,BP aE] e.drew λa=> ∃aF,AU a ((mA b1).add 0) .i64 aF/\ ∃aG,AU a ((mA b1).add 1) .i64 aG/\ ∃aH,AU a ((mA b1).add 2) .u64 aH/\ ∃aI,AU a ((mA b1).add 3) .u64 aI/\ ∃aJ,AU a ((mA b1).add 4) .i64 aJ/\ ∃aK,AU a ((mA b1).add 5) .u64 aK/\ ∃aL,FC a ((mA b1).add 6) aL/\ ∃aM,AU a ((mA b1).add 7) .i64 aM/\ ∃aN,EW a ((mA b1).add 8) aN/\ ∃aO,EW a ((mA b1).add 9) aO/\K aF aG aH aI aJ aK aL aM aN aO a
def T0.Bu(E:Env)(q0:Y6)(q1:Y6)(q2:vW)(q3:Sp):Vy:=λa0 a1 K w=>
 q0 a0 (λr1 w2=>oB a1 r1 w2 λr3=>CND r3 (NC a1 λp4=>stCells (p4.add 2) 0 [iI 10] w2 λw5=>K w5) (q1 a0 (λr6 e=>oB a1 r6 e λr8=>CND r8 (NC a1 λp9=>stCells (p9.add 2) 0 [iI 6] e λaL=>K aL) (rS a0 e.drew 3 λu=>MX a1 e.drew .i64 λv=>rS a0 e.drew 3 λJ=>MX a1 e.drew .i64 λO=>NC J.base λaB=>Br O J.len/\ ∃j,EW e.drew (aD aB O 1) j/\NC j.base λaC=>Br 0 j.len/\ ∃T,AU e.drew (aD aC 0 1) .i64 T/\rS a0 e.drew 3 λY=>MX a1 e.drew .i64 λaA=>NC Y.base λaE=>Br aA Y.len/\ ∃a,EW e.drew (aD aE aA 1) a/\((0:Int)<=1/\(1:Int)<=(a.len:Nat))/\NC a1 λaF=>stCells (aF.add 1) 0 [iI T] e.drew λaN=>NC u.base λaG=>Br v u.len/\stCells (aD aG v 1) 0 [.slice (KE a.base a.cap (Int.toNat 1) 1) (a.len-(Int.toNat 1)) (a.cap-(Int.toNat 1))] aN λaO=>NC a1 λaH=>stCells (aH.add 8) 0 [vU] aO λaP=>q2 a0 a1 (λaJ aZ a2 a3 a4 a5 a6 a7 a8 a9 aQ=>q3 aJ (λaK aR=>NC a1 λaI=>stCells (aI.add 2) 0 [iI aK] aR λaS=>K aS) aQ) aP)) w2)) w
def F.Bu:Vy:=T0.Bu E (F.FG E) (F.FD E) (F.En E) (F.HX E)
def F.JE(E:Env):Y3:=λa0 K w=>
 False
def F.Cp:Y30:=λa0 a1 u v J K w=>
 AC #[iU u,iU v,iI J] E.CT w λb1 e=>rS a0 e.drew 4 λx4=>rI a1 e.drew 1 .i64 λx6=>NC x4.base λp7=>Br x6 x4.len/\ ∃x8,Da e.drew (aD p7 x6 1) x8/\ ∃c9,AU e.drew ((mA b1).add 0) .u64 c9/\ ∃O,AU e.drew ((mA b1).add 1) .u64 O/\ ∃T,AU e.drew ((mA b1).add 2) .i64 T/\NC x8 λaC=>stCells (aC.add 10) 0 [iU c9,iU O,iI T] e.drew λaH=>NC x8 λaE=>stCells (aE.add 13) 0 [.bool true] aH λa=>NC a0 λY=> ∃j,EW a.drew (Y.add 5) j/\rI a1 a.drew 1 .i64 λaL=>AC ⟨[iI aL]⟩ E.Ar a.drew λaB aA=>aA.cell? (Y.add 5)=some (BP j)/\APP E.Ar 1 8 #[vI] j (P5 aB) aA λwH aI=>NC a0 λaF=>stCells (aF.add 5) 0 [BP wH] aI λaJ=>NC a1 λaG=>stCells (aG.add 2) 0 [vI] aJ λaK=>K aK
def T0.FR(q0:Y3)(q1:Y30):Y31:=λa0 a1 a2 x0 K w=>
 isIf x0=true/\CND (isNilI x0) (K w) (TAS x0 E.PE (.agg ⟨[]⟩) λv1 b2=>unVT (.agg []) v1 λx3=>CND b2 (AC #[] E.PE w λb4 w5=>stCells (mA b4) 0 [] w5 λu=>Hb a0 u λx8=>MX x8 u .i64 λv=>NC a1 λj=>stCells j 0 [iI v] u λe=>Hb a2 e λJ=>Hb J e λO=>q0 O (λa=>Hb a0 a.drew λT=>MX T a.drew .i64 λY=>Hb a2 a.drew λaA=>rS aA a.drew 3 λaB=>cD (Y<((aB.len:Nat):Int)) (Hb a2 a.drew λaC=>Hb a0 a.drew λaD=>q1 aC aD 0 0 40 K a.drew) (K a.drew)) e) (PAN x0 False))
def F.FR:Y31:=T0.FR E (F.JE E) (F.Cp E)
def T0.Fv(q0:Tc)(q1:Tr)(q2:Tr)(q3:Vy):Wn:=λa0 a1 K w=>
 AC #[.pointer a0] E.C9 w λb1 w2=>AC #[vI] E.Ar w2 λT w4=> ∃x5,Da w4 (mA b1) x5/\q0 x5 (λj w7=> ∃x8,Da w7 (mA b1) x8/\Hb x8 w7 λbE=>q1 bE (λa6 Y=>CND a6 (stCells (mA T) 0 [vI] Y λaK=> ∃aO,AU aK (mA T) .i64 aO/\K aO 41 aK) (At (Bool×Unit) (λaF=>CND ((((j.len:Nat):Int):Int)==0) (∃aP,Da Y (mA b1) aP/\q2 aP (λa7 bA=>aF (a7,()) bA) Y) (aF (false,()) Y)) λZf _ u=>CND Zf.1 (stCells (mA T) 0 [vI] u λaL=> ∃aQ,AU aL (mA T) .i64 aQ/\K aQ 21 aL) (CND ((((j.len:Nat):Int):Int)==0) (stCells (mA T) 0 [vI] u λaM=> ∃aR,AU aM (mA T) .i64 aR/\K aR 22 aM) (∃aC,Da u.drew (mA b1) aC/\NC aC λaH=> ∃aA,EW u.drew (aH.add 2) aA/\((j.len:Nat):Int)≠(0:Int)/\((j.len:Nat):Int)≠(0:Int)/\NC j.base λaI=>Br (Int.tmod (i64 ((Int.tmod a1 ((j.len:Nat):Int))+((j.len:Nat):Int))) ((j.len:Nat):Int)) j.len/\ ∃O:Int,u.drew.cell? (aI.add (Int.toNat (Int.tmod (i64 ((Int.tmod a1 ((j.len:Nat):Int))+((j.len:Nat):Int))) ((j.len:Nat):Int))*1))=some (iI O)/\NC aA.base λaJ=>Br O aA.len/\ ∃aE,Da u.drew (aD aJ O 1) aE/\AC #[vP] E.CR u.drew λe J=>J.cell? (aD aJ O 1)=some (.pointer aE)/\J.cell? (aI.add (Int.toNat (Int.tmod (i64 ((Int.tmod a1 ((j.len:Nat):Int))+((j.len:Nat):Int))) ((j.len:Nat):Int))*1))=some (iI O)/\J.cell? (aH.add 2)=some (BP aA)/\J.cell? (mA b1)=some (.pointer aC)/\stCells (mA e) 0 [.pointer aE] J λv=>At Unit (λaG=> ∃aS,Da v (mA e) aS/\rI aS v 2 .i64 λbF=>CND (bF==0) (∃aT,Da v (mA b1) aT/\ ∃aU,Da v (mA e) aU/\q3 aT aU (λbB=>aG (()) bB) v) (aG (()) v)) λWo _ a=> ∃aV,Da a.drew (mA b1) aV/\NC aV λa5=> ∃aW,Nv a.drew (a5.add 10) aW/\ ∃aX,Da a.drew (mA e) aX/\rI aX a.drew 2 .i64 λbG=>n9 .i64 bG aW a.drew (.nilFunc) λa9 bJ bI=> ∃aY:Value,a9=aY/\ ∃aZ,Da a.drew (mA b1) aZ/\ ∃a2,Da a.drew (mA e) a2/\DYN E.call aY #[.pointer aZ,.pointer a2] a.drew λa8 aB=>a8= .tuple ⟨[]⟩/\ ∃a3,Da aB (mA e) a3/\MX a3 aB .i64 λbH=>stCells (mA T) 0 [iI bH] aB λbC=>F.FR E (sM e) (sM T) (sM b1) .nilIface (λaN=> ∃a4,AU aN (mA T) .i64 a4/\K a4 0 aN) bC)))) w7) w4
def F.Fv:Wn:=T0.Fv E (F.Bh E) (F.BE E) (F.Bg E) (F.Bu E)
def T0.CN(E:Env)(q0:Tr)(q1:Tr)(q2:oD)(q3:Wn):Y33:=λa0 a1 K w=>
 BK (Int×Int×Unit) (0,0,()) w λs1 _ w2 e=>cD (s1.2.1<200000) (At (Bool×Unit) (λJ4=>q0 a0 (λr7 w8=>CND r7 (J4 (true,()) w8) (Hb a0 w8 λaG=>q1 aG (λO aC=>J4 (O,()) aC) w8)) w2) λs5 _ w6=>CND s5.1 (K true w6) (q2 a0 s1.1 (λT Y a=>CND (!Y) (K false a) (At (Int×Unit) (λj=>cD (s1.2.1<((a1.len:Nat):Int)) (NC a1.base λJ=>Br s1.2.1 a1.len/\ ∃v,AU a (aD J s1.2.1 1) .i64 v/\j (v,()) a) (j (T,()) a)) λUl _ aE=>q3 a0 Ul.1 (λaA aB u=>CND (aB !=0) (K false u) (e (i64 (aA+1),i64 (s1.2.1+1),()) u)) aE)) w6)) (K false w2)
def F.CN:Y33:=T0.CN E (F.Em E) (F.BE E) (F.Ey E) (F.Fv E)
def F.Te(E:Env):Sp:=λa0 K w=>
 At (Int×Int×Unit) (λu=>cD (a0≥65536) ((0:Int)<=16/\JB (Int.fdiv a0 (2^(min (Int.toNat 16) (IntKind.bits .u32))):Int) λe=>u (e,16,()) w) (u (a0,0,()) w)) λs2 _ J=>At (Int×Int×Unit) (λv=>cD (s2.1≥256) ((0:Int)<=8/\JB (Int.fdiv s2.1 (2^(min (Int.toNat 8) (IntKind.bits .u32))):Int) λj=>v (j,i64 (s2.2.1+8),()) J) (v (s2.1,s2.2.1,()) J)) λs6 _ T=>oS ⟨#[0,1,2,2,3,3,3,3,4,4,4,4,4,4,4,4,5,5,5,5,5,5,5,5,5,5,5,5,5,5,5,5,6,6,6,6,6,6,6,6,6,6,6,6,6,6,6,6,6,6,6,6,6,6,6,6,6,6,6,6,6,6,6,6,7,7,7,7,7,7,7,7,7,7,7,7,7,7,7,7,7,7,7,7,7,7,7,7,7,7,7,7,7,7,7,7,7,7,7,7,7,7,7,7,7,7,7,7,7,7,7,7,7,7,7,7,7,7,7,7,7,7,7,7,7,7,7,7,8,8,8,8,8,8,8,8,8,8,8,8,8,8,8,8,8,8,8,8,8,8,8,8,8,8,8,8,8,8,8,8,8,8,8,8,8,8,8,8,8,8,8,8,8,8,8,8,8,8,8,8,8,8,8,8,8,8,8,8,8,8,8,8,8,8,8,8,8,8,8,8,8,8,8,8,8,8,8,8,8,8,8,8,8,8,8,8,8,8,8,8,8,8,8,8,8,8,8,8,8,8,8,8,8,8,8,8,8,8,8,8,8,8,8,8,8,8,8,8,8,8,8,8,8,8,8,8]⟩ (IntKind.wrap .u8 s6.1) λO=>JB (i64 (s6.2.1+(i64 O)):Int) λa=>K a T
def F.I6(E:Env):Sp:=λa0 K w=>
 At (Int×Int×Unit) (λO=>cD (a0≥4294967296) ((0:Int)<=32/\JB (Int.fdiv a0 (2^(min (Int.toNat 32) (IntKind.bits .u64))):Int) λv=>O (v,32,()) w) (O (a0,0,()) w)) λs2 _ w3=>At (Int×Int×Unit) (λT=>cD (s2.1≥65536) ((0:Int)<=16/\JB (Int.fdiv s2.1 (2^(min (Int.toNat 16) (IntKind.bits .u64))):Int) λJ=>T (J,i64 (s2.2.1+16),()) w3) (T (s2.1,s2.2.1,()) w3)) λs6 _ w7=>At (Int×Int×Unit) (λY=>cD (s6.1≥256) ((0:Int)<=8/\JB (Int.fdiv s6.1 (2^(min (Int.toNat 8) (IntKind.bits .u64))):Int) λe=>Y (e,i64 (s6.2.1+8),()) w7) (Y (s6.1,s6.2.1,()) w7)) λGM _ u=>oS ⟨#[0,1,2,2,3,3,3,3,4,4,4,4,4,4,4,4,5,5,5,5,5,5,5,5,5,5,5,5,5,5,5,5,6,6,6,6,6,6,6,6,6,6,6,6,6,6,6,6,6,6,6,6,6,6,6,6,6,6,6,6,6,6,6,6,7,7,7,7,7,7,7,7,7,7,7,7,7,7,7,7,7,7,7,7,7,7,7,7,7,7,7,7,7,7,7,7,7,7,7,7,7,7,7,7,7,7,7,7,7,7,7,7,7,7,7,7,7,7,7,7,7,7,7,7,7,7,7,7,8,8,8,8,8,8,8,8,8,8,8,8,8,8,8,8,8,8,8,8,8,8,8,8,8,8,8,8,8,8,8,8,8,8,8,8,8,8,8,8,8,8,8,8,8,8,8,8,8,8,8,8,8,8,8,8,8,8,8,8,8,8,8,8,8,8,8,8,8,8,8,8,8,8,8,8,8,8,8,8,8,8,8,8,8,8,8,8,8,8,8,8,8,8,8,8,8,8,8,8,8,8,8,8,8,8,8,8,8,8,8,8,8,8,8,8,8,8,8,8,8,8,8,8,8,8,8,8]⟩ (IntKind.wrap .u8 GM.1) λj=>JB (i64 (GM.2.1+(i64 j)):Int) λa=>K a u
def T0.Eo(E:Env)(q0:Sp):Sp:=λa0 K w=>
 q0 a0 K w
def F.Eo:Sp:=T0.Eo E (F.I6 E)
def F.BL:Y34:=λa0 a1 a2 a3 K w=>
 BK (Int×Unit) (i64 (a1+1),()) w λs1 _ w2 a=>cD (s1.1<a2) (BK (Int×Unit) (s1.1,()) w2 λs4 _ T j=>cD (s4.1>a1) (NC a0.base λp7=>Br s4.1 a0.len/\ ∃x8,AU T.drew (aD p7 s4.1 1) .i64 x8/\NC a0.base λp9=>Br (i64 (s4.1-1)) a0.len/\ ∃u,AU T.drew (p9.add (Int.toNat (i64 (s4.1-1))*1)) .i64 u/\DYN E.call a3 #[iI x8,iI u] T.drew λaE e=> ∃v:Int,aE=iI v/\cD (v<0) (NC a0.base λY=>Br (i64 (s4.1-1)) a0.len/\ ∃J,AU e.drew (Y.add (Int.toNat (i64 (s4.1-1))*1)) .i64 J/\NC a0.base λaA=>Br s4.1 a0.len/\ ∃O,AU e.drew (aD aA s4.1 1) .i64 O/\NC a0.base λaB=>Br s4.1 a0.len/\stCells (aD aB s4.1 1) 0 [iI J] e.drew λaF=>NC a0.base λaC=>Br (i64 (s4.1-1)) a0.len/\stCells (aC.add (Int.toNat (i64 (s4.1-1))*1)) 0 [iI O] aF λaG=>j (i64 (s4.1-1),()) aG) (a (i64 (s1.1+1),()) e)) (a (i64 (s1.1+1),()) T.drew)) (K w2)
def F.D9:Y35:=λa0 a1 a2 e a4 K w=>
 BK (Int×Unit) (a1,()) w λs1 _ J u=>JB (i64 ((i64 (2*s1.1))+1):Int) λa=>cD (a≥a2) (K J) (At (Int×Unit) (λJ5=>At (Bool×Unit) (λJ8=>cD (((i64 (a+1)):Int)<a2) (NC a0.base λaF=>Br (i64 (e+a)) a0.len/\ ∃O,AU J.drew (aF.add (Int.toNat (i64 (e+a))*1)) .i64 O/\NC a0.base λaG=>Br (i64 ((i64 (e+a))+1)) a0.len/\ ∃T:Int,J.drew.cell? (aG.add (Int.toNat (i64 ((i64 (e+a))+1))*1))=some (iI T)/\DYN E.call a4 #[iI O,iI T] J.drew λaN aP=> ∃Y:Int,aN=iI Y/\J8 (decide (Y<0),()) aP) (J8 (false,()) J.drew)) λs9 _ v=>CND s9.1 (J5 (i64 (a+1),()) v) (J5 (a,()) v)) λs6 _ w7=>NC a0.base λaH=>Br (i64 (e+s1.1)) a0.len/\ ∃aA,AU w7.drew (aH.add (Int.toNat (i64 (e+s1.1))*1)) .i64 aA/\NC a0.base λaI=>Br (i64 (e+s6.1)) a0.len/\ ∃aB,AU w7.drew (aI.add (Int.toNat (i64 (e+s6.1))*1)) .i64 aB/\DYN E.call a4 #[iI aA,iI aB] w7.drew λaO j=> ∃aC:Int,aO=iI aC/\CND (!(decide (aC<0))) (K j) (NC a0.base λaJ=>Br (i64 (e+s6.1)) a0.len/\ ∃aD,AU j.drew (aJ.add (Int.toNat (i64 (e+s6.1))*1)) .i64 aD/\NC a0.base λaK=>Br (i64 (e+s1.1)) a0.len/\ ∃aE,AU j.drew (aK.add (Int.toNat (i64 (e+s1.1))*1)) .i64 aE/\NC a0.base λaL=>Br (i64 (e+s1.1)) a0.len/\stCells (aL.add (Int.toNat (i64 (e+s1.1))*1)) 0 [iI aD] j.drew λaQ=>NC a0.base λaM=>Br (i64 (e+s6.1)) a0.len/\stCells (aM.add (Int.toNat (i64 (e+s6.1))*1)) 0 [iI aE] aQ λaR=>u (s6.1,()) aR))
def T0.Ao(E:Env)(q0:Y35):Y34:=λa0 a1 a2 a3 K w=>
 2≠(0:Int)/\JB (i64 (Int.tdiv (i64 ((i64 (a2-a1))-1)) 2):Int) λJ=>BK (Int×Unit) (J,()) w λs2 _ w3 a=>cD (s2.1≥0) (q0 a0 s2.1 (i64 (a2-a1)) a1 a3 (λw5=>a (i64 (s2.1-1),()) w5) w3) (JB (i64 ((i64 (a2-a1))-1):Int) λO=>BK (Int×Unit) (O,()) w3 λs7 _ v e=>cD (s7.1≥0) (NC a0.base λT=>Br (i64 (a1+s7.1)) a0.len/\ ∃j,AU v.drew (T.add (Int.toNat (i64 (a1+s7.1))*1)) .i64 j/\NC a0.base λY=>Br a1 a0.len/\ ∃u,AU v.drew (aD Y a1 1) .i64 u/\NC a0.base λaA=>Br a1 a0.len/\stCells (aD aA a1 1) 0 [iI j] v.drew λaC=>NC a0.base λaB=>Br (i64 (a1+s7.1)) a0.len/\stCells (aB.add (Int.toNat (i64 (a1+s7.1))*1)) 0 [iI u] aC λaE=>q0 a0 0 s7.1 a1 a3 (λaF=>e (i64 (s7.1-1),()) aF) aE) (K v))
def F.Ao:Y34:=T0.Ao E (F.D9 E)
def T0.CF(E:Env)(q0:Sp):Sp:=λa0 K w=>
 q0 (u64 a0) (λr1 a=>(0:Int)<=r1/\JB (u64 (1*2^(min (Int.toNat r1) (IntKind.bits .u64))):Int) λt3=>K t3 a) w
def F.CF:Sp:=T0.CF E (F.Eo E)
def F.GN(E:Env):OM:=λa0 K w=>
 MX a0 w.drew .u64 λx2=>MX a0 w.drew .u64 λx4=>(0:Int)<=13/\NC a0 λp5=>stCells p5 0 [iU (EA .u64 2 x2 (u64 (x4*2^(min (Int.toNat 13) (IntKind.bits .u64)))))] w.drew λv=>MX a0 v.drew .u64 λx8=>MX a0 v.drew .u64 λJ=>(0:Int)<=7/\NC a0 λj=>stCells j 0 [iU (EA .u64 2 x8 (Int.fdiv J (2^(min (Int.toNat 7) (IntKind.bits .u64)))))] v.drew λa=>MX a0 a.drew .u64 λO=>MX a0 a.drew .u64 λT=>(0:Int)<=17/\NC a0 λu=>stCells u 0 [iU (EA .u64 2 O (u64 (T*2^(min (Int.toNat 17) (IntKind.bits .u64)))))] a.drew λe=>MX a0 e .u64 λY=>K Y e
def T0.Ai(q0:Sp)(q1:OM):Y34:=λa0 a1 a2 a3 K w=>
 cD (((i64 (a2-a1)):Int)≥8) (AC #[vU] E.Hg w λb1 w2=>stCells (mA b1) 0 [iU (u64 (i64 (a2-a1)))] w2 λw3=>q0 (i64 (a2-a1)) (λr4 w5=>4≠(0:Int)/\JB (i64 ((i64 (a1+(i64 ((i64 (Int.tdiv (i64 (a2-a1)) 4))*2))))-1):Int) λj=>BK (Int×Unit) (j,()) w5 λs7 _ w8 u=>4≠(0:Int)/\cD (s7.1<=(i64 ((i64 (a1+(i64 ((i64 (Int.tdiv (i64 (a2-a1)) 4))*2))))+1))) (q1 (sM b1) (λaF O=>JB (i64 (EA .u64 0 aF (u64 (r4-1))):Int) λa=>At (Int×Unit) (λJ=>cD (a≥(i64 (a2-a1))) (JB (i64 (a-(i64 (a2-a1))):Int) λe=>J (e,()) O) (J (a,()) O)) λM6 _ v=>NC a0.base λaA=>Br (i64 (a1+M6.1)) a0.len/\ ∃T,AU v.drew (aA.add (Int.toNat (i64 (a1+M6.1))*1)) .i64 T/\NC a0.base λaB=>Br s7.1 a0.len/\ ∃Y,AU v.drew (aD aB s7.1 1) .i64 Y/\NC a0.base λaC=>Br s7.1 a0.len/\stCells (aD aC s7.1 1) 0 [iI T] v.drew λaG=>NC a0.base λaE=>Br (i64 (a1+M6.1)) a0.len/\stCells (aE.add (Int.toNat (i64 (a1+M6.1))*1)) 0 [iI Y] aG λaH=>u (i64 (s7.1+1),()) aH) w8) (K w8)) w3) (K w)
def F.Ai:Y34:=T0.Ai E (F.CF E) (F.GN E)
def F.Ea:Y36:=λa0 a1 a2 u O K w=>
 NC a0.base λp1=>Br a2 a0.len/\ ∃x2,AU w.drew (aD p1 a2 1) .i64 x2/\NC a0.base λT=>Br a1 a0.len/\ ∃v,AU w.drew (aD T a1 1) .i64 v/\DYN E.call O #[iI x2,iI v] w.drew λY j=> ∃J:Int,Y=iI J/\cD (J<0) (MX u j .i64 λx9=>NC u λa=>stCells a 0 [iI (i64 (x9+1))] j λe=>K a2 a1 e) (K a1 a2 j)
def T0.BA(E:Env)(q0:Y36):Y37:=λa0 a1 a2 j a e K w=>
 q0 a0 a1 a2 a e (λr1 u O=>q0 a0 u j a e (λv r5 T=>q0 a0 r1 v a e (λr7 J Y=>K J Y) T) O) w
def F.BA:Y37:=T0.BA E (F.Ea E)
def T0.A2(E:Env)(q0:Y37):Y38:=λa0 a1 a2 a K w=>
 q0 a0 (i64 (a1-1)) a1 (i64 (a1+1)) a2 a K w
def F.A2:Y38:=T0.A2 E (F.BA E)
def T0.Ah(q0:Y38)(q1:Y37):Y39:=λa0 a1 a2 v K w=>
 AC #[vI] E.Ar w λb1 w2=>4≠(0:Int)/\JB (i64 (a1+(i64 ((i64 (Int.tdiv (i64 (a2-a1)) 4))*1))):Int) λj=>4≠(0:Int)/\JB (i64 (a1+(i64 ((i64 (Int.tdiv (i64 (a2-a1)) 4))*2))):Int) λa=>4≠(0:Int)/\JB (i64 (a1+(i64 ((i64 (Int.tdiv (i64 (a2-a1)) 4))*3))):Int) λu=>At (Int×Unit) (λJ6=>cD (((i64 (a2-a1)):Int)≥8) (At (Int×Int×Int×Unit) (λJ9=>cD (((i64 (a2-a1)):Int)≥50) (q0 a0 j (sM b1) v (λO aC=>q0 a0 a (sM b1) v (λT aD=>q0 a0 u (sM b1) v (λY aE=>J9 (O,T,Y,()) aE) aD) aC) w2) (J9 (j,a,u,()) w2)) λGM _ aB=>q1 a0 GM.1 GM.2.1 GM.2.2.1 (sM b1) v (λaA aF=>J6 (aA,()) aF) aB) (J6 (a,()) w2)) λs7 _ J=> ∃e,AU J (mA b1) .i64 e/\CND (e==0) (K s7.1 1 J) (CND (e==12) (K s7.1 2 J) (K s7.1 0 J))
def F.Ah:Y39:=T0.Ah E (F.A2 E) (F.BA E)
def F.BS(E:Env):Y34:=λa0 a1 a2 a3 K w=>
 BK (Int×Int×Unit) (a1,i64 (a2-1),()) w λs1 _ e a=>cD (s1.1<s1.2.1) (NC a0.base λO=>Br s1.2.1 a0.len/\ ∃v,AU e.drew (aD O s1.2.1 1) .i64 v/\NC a0.base λT=>Br s1.1 a0.len/\ ∃J,AU e.drew (aD T s1.1 1) .i64 J/\NC a0.base λY=>Br s1.1 a0.len/\stCells (aD Y s1.1 1) 0 [iI v] e.drew λw9=>NC a0.base λj=>Br s1.2.1 a0.len/\stCells (aD j s1.2.1 1) 0 [iI J] w9 λu=>a (i64 (s1.1+1),i64 (s1.2.1-1),()) u) (K e)
def F.Aw:Y40:=λa0 a1 a2 a3 K w=>
 BK (Int×Int×Unit) (i64 (a1+1),0,()) w λs1 _ w2 a=>cD (s1.2.1<5) (At (Int×Unit) (λJ4=>BK (Int×Unit) (s1.1,()) w2 λs7 _ w8 Y=>cD (s7.1<a2) (NC a0.base λaW=>Br s7.1 a0.len/\ ∃aF,AU w8.drew (aD aW s7.1 1) .i64 aF/\NC a0.base λaX=>Br (i64 (s7.1-1)) a0.len/\ ∃aG,AU w8.drew (aX.add (Int.toNat (i64 (s7.1-1))*1)) .i64 aG/\DYN E.call a3 #[iI aF,iI aG] w8.drew λbI aA=> ∃aH:Int,bI=iI aH/\CND (!(decide (aH<0))) (Y (i64 (s7.1+1),()) aA) (J4 (s7.1,()) aA)) (J4 (s7.1,()) w8.drew)) λs5 _ w6=>CND (s5.1==a2) (K true w6) (cD (((i64 (a2-a1)):Int)<50) (K false w6) (NC a0.base λaY=>Br (i64 (s5.1-1)) a0.len/\ ∃aI,AU w6.drew (aY.add (Int.toNat (i64 (s5.1-1))*1)) .i64 aI/\NC a0.base λaZ=>Br s5.1 a0.len/\ ∃aJ,AU w6.drew (aD aZ s5.1 1) .i64 aJ/\NC a0.base λa4=>Br s5.1 a0.len/\stCells (aD a4 s5.1 1) 0 [iI aI] w6.drew λbL=>NC a0.base λa5=>Br (i64 (s5.1-1)) a0.len/\stCells (a5.add (Int.toNat (i64 (s5.1-1))*1)) 0 [iI aJ] bL λaB=>At Unit (λT=>cD (((i64 (s5.1-a1)):Int)≥2) (BK (Int×Unit) (i64 (s5.1-1),()) aB λRq _ u e=>cD (Rq.1≥1) (NC a0.base λa6=>Br Rq.1 a0.len/\ ∃aK,AU u.drew (aD a6 Rq.1 1) .i64 aK/\NC a0.base λa7=>Br (i64 (Rq.1-1)) a0.len/\ ∃aL,AU u.drew (a7.add (Int.toNat (i64 (Rq.1-1))*1)) .i64 aL/\DYN E.call a3 #[iI aK,iI aL] u.drew λbJ v=> ∃aM:Int,bJ=iI aM/\CND (!(decide (aM<0))) (T (()) v) (NC a0.base λa8=>Br (i64 (Rq.1-1)) a0.len/\ ∃aN,AU v.drew (a8.add (Int.toNat (i64 (Rq.1-1))*1)) .i64 aN/\NC a0.base λa9=>Br Rq.1 a0.len/\ ∃aO,AU v.drew (aD a9 Rq.1 1) .i64 aO/\NC a0.base λbA=>Br Rq.1 a0.len/\stCells (aD bA Rq.1 1) 0 [iI aN] v.drew λbM=>NC a0.base λbB=>Br (i64 (Rq.1-1)) a0.len/\stCells (bB.add (Int.toNat (i64 (Rq.1-1))*1)) 0 [iI aO] bM λbN=>e (i64 (Rq.1-1),()) bN)) (T (()) u)) (T (()) aB)) λNl _ aC=>cD (((i64 (a2-s5.1)):Int)≥2) (BK (Int×Unit) (i64 (s5.1+1),()) aC λWp _ J j=>cD (Wp.1<a2) (NC a0.base λbC=>Br Wp.1 a0.len/\ ∃aP,AU J.drew (aD bC Wp.1 1) .i64 aP/\NC a0.base λbD=>Br (i64 (Wp.1-1)) a0.len/\ ∃aQ,AU J.drew (bD.add (Int.toNat (i64 (Wp.1-1))*1)) .i64 aQ/\DYN E.call a3 #[iI aP,iI aQ] J.drew λbK O=> ∃aR:Int,bK=iI aR/\CND (!(decide (aR<0))) (a (s5.1,i64 (s1.2.1+1),()) O) (NC a0.base λbE=>Br (i64 (Wp.1-1)) a0.len/\ ∃aS,AU O.drew (bE.add (Int.toNat (i64 (Wp.1-1))*1)) .i64 aS/\NC a0.base λbF=>Br Wp.1 a0.len/\ ∃aT,AU O.drew (aD bF Wp.1 1) .i64 aT/\NC a0.base λbG=>Br Wp.1 a0.len/\stCells (aD bG Wp.1 1) 0 [iI aS] O.drew λbO=>NC a0.base λbH=>Br (i64 (Wp.1-1)) a0.len/\stCells (bH.add (Int.toNat (i64 (Wp.1-1))*1)) 0 [iI aT] bO λbP=>j (i64 (Wp.1+1),()) bP)) (a (s5.1,i64 (s1.2.1+1),()) J)) (a (s5.1,i64 (s1.2.1+1),()) aC)))) (K false w2)
def F.BH:Y41:=λa0 a1 a2 a3 a4 K w=>
 NC a0.base λp1=>Br a3 a0.len/\ ∃x2,AU w.drew (aD p1 a3 1) .i64 x2/\NC a0.base λp3=>Br a1 a0.len/\ ∃x4,AU w.drew (aD p3 a1 1) .i64 x4/\NC a0.base λp5=>Br a1 a0.len/\stCells (aD p5 a1 1) 0 [iI x2] w.drew λw6=>NC a0.base λp7=>Br a3 a0.len/\stCells (aD p7 a3 1) 0 [iI x4] w6 λw8=>BK (Int×Int×Unit) (i64 (a1+1),i64 (a2-1),()) w8 λs9 _ aV a=>At (Int×Unit) (λO=>BK (Int×Int×Unit) (s9.1,s9.2.1,()) aV λSr _ u e=>cD (Sr.1<=Sr.2.1) (NC a0.base λaL=>Br a1 a0.len/\ ∃aB,AU u.drew (aD aL a1 1) .i64 aB/\NC a0.base λaM=>Br Sr.1 a0.len/\ ∃aC,AU u.drew (aD aM Sr.1 1) .i64 aC/\DYN E.call a4 #[iI aB,iI aC] u.drew λaT Y=> ∃aE:Int,aT=iI aE/\CND (!(decide (aE<0))) (e (i64 (Sr.1+1),Sr.2.1,()) Y) (O (Sr.1,()) Y)) (O (Sr.1,()) u.drew)) λIS _ aW=>At (Int×Unit) (λT=>BK (Int×Unit) (s9.2.1,()) aW λRq _ J j=>cD (IS.1<=Rq.1) (NC a0.base λaN=>Br a1 a0.len/\ ∃aF,AU J.drew (aD aN a1 1) .i64 aF/\NC a0.base λaO=>Br Rq.1 a0.len/\ ∃aG,AU J.drew (aD aO Rq.1 1) .i64 aG/\DYN E.call a4 #[iI aF,iI aG] J.drew λaU aA=> ∃aH:Int,aU=iI aH/\cD (aH<0) (j (i64 (Rq.1-1),()) aA) (T (Rq.1,()) aA)) (T (Rq.1,()) J.drew)) λNl _ v=>cD (IS.1>Nl.1) (K IS.1 v) (NC a0.base λaP=>Br Nl.1 a0.len/\ ∃aI,AU v.drew (aD aP Nl.1 1) .i64 aI/\NC a0.base λaQ=>Br IS.1 a0.len/\ ∃aJ,AU v.drew (aD aQ IS.1 1) .i64 aJ/\NC a0.base λaR=>Br IS.1 a0.len/\stCells (aD aR IS.1 1) 0 [iI aI] v.drew λaX=>NC a0.base λaS=>Br Nl.1 a0.len/\stCells (aD aS Nl.1 1) 0 [iI aJ] aX λaY=>a (i64 (IS.1+1),i64 (Nl.1-1),()) aY)
def F.Bi:Y42:=λa0 a1 a2 a3 a4 K w=>
 NC a0.base λp1=>Br a3 a0.len/\ ∃x2,AU w.drew (aD p1 a3 1) .i64 x2/\NC a0.base λp3=>Br a1 a0.len/\ ∃x4,AU w.drew (aD p3 a1 1) .i64 x4/\NC a0.base λp5=>Br a1 a0.len/\stCells (aD p5 a1 1) 0 [iI x2] w.drew λw6=>NC a0.base λp7=>Br a3 a0.len/\stCells (aD p7 a3 1) 0 [iI x4] w6 λw8=>At (Int×Unit) (λJ9=>BK (Int×Unit) (i64 (a1+1),()) w8 λFj _ T j=>cD (Fj.1<=(i64 (a2-1))) (NC a0.base λbB=>Br Fj.1 a0.len/\ ∃aK,AU T.drew (aD bB Fj.1 1) .i64 aK/\NC a0.base λbC=>Br a1 a0.len/\ ∃aL,AU T.drew (aD bC a1 1) .i64 aL/\DYN E.call a4 #[iI aK,iI aL] T.drew λbZ aG=> ∃aM:Int,bZ=iI aM/\cD (aM<0) (j (i64 (Fj.1+1),()) aG) (J9 (Fj.1,()) aG)) (J9 (Fj.1,()) T.drew)) λGM _ b3=>At (Int×Unit) (λaC=>BK (Int×Unit) (i64 (a2-1),()) b3 λYw _ Y u=>cD (GM.1<=Yw.1) (NC a0.base λbD=>Br Yw.1 a0.len/\ ∃aN,AU Y.drew (aD bD Yw.1 1) .i64 aN/\NC a0.base λbE=>Br a1 a0.len/\ ∃aO,AU Y.drew (aD bE a1 1) .i64 aO/\DYN E.call a4 #[iI aN,iI aO] Y.drew λb0 aH=> ∃aP:Int,b0=iI aP/\CND (!(decide (aP<0))) (u (i64 (Yw.1-1),()) aH) (aC (Yw.1,()) aH)) (aC (Yw.1,()) Y.drew)) λUm _ a=>cD (GM.1>Um.1) (NC a0.base λbF=>Br a1 a0.len/\ ∃aQ,AU a.drew (aD bF a1 1) .i64 aQ/\NC a0.base λbG=>Br Um.1 a0.len/\ ∃aR,AU a.drew (aD bG Um.1 1) .i64 aR/\NC a0.base λbH=>Br Um.1 a0.len/\stCells (aD bH Um.1 1) 0 [iI aQ] a.drew λb4=>NC a0.base λbI=>Br a1 a0.len/\stCells (aD bI a1 1) 0 [iI aR] b4 λb5=>K Um.1 true b5) (NC a0.base λbJ=>Br Um.1 a0.len/\ ∃aS,AU a.drew (aD bJ Um.1 1) .i64 aS/\NC a0.base λbK=>Br GM.1 a0.len/\ ∃aT,AU a.drew (aD bK GM.1 1) .i64 aT/\NC a0.base λbL=>Br GM.1 a0.len/\stCells (aD bL GM.1 1) 0 [iI aS] a.drew λb6=>NC a0.base λbM=>Br Um.1 a0.len/\stCells (aD bM Um.1 1) 0 [iI aT] b6 λb7=>BK (Int×Int×Unit) (i64 (GM.1+1),i64 (Um.1-1),()) b7 λQW _ b8 v=>At (Int×Unit) (λaE=>BK (Int×Int×Unit) (QW.1,QW.2.1,()) b8 λUj _ aA J=>cD (Uj.1<=Uj.2.1) (NC a0.base λbN=>Br Uj.1 a0.len/\ ∃aU,AU aA.drew (aD bN Uj.1 1) .i64 aU/\NC a0.base λbO=>Br a1 a0.len/\ ∃aV,AU aA.drew (aD bO a1 1) .i64 aV/\DYN E.call a4 #[iI aU,iI aV] aA.drew λb1 aI=> ∃aW:Int,b1=iI aW/\cD (aW<0) (J (i64 (Uj.1+1),Uj.2.1,()) aI) (aE (Uj.1,()) aI)) (aE (Uj.1,()) aA.drew)) λjA _ b9=>At (Int×Unit) (λaF=>BK (Int×Unit) (QW.2.1,()) b9 λYv _ aB O=>cD (jA.1<=Yv.1) (NC a0.base λbP=>Br Yv.1 a0.len/\ ∃aX,AU aB.drew (aD bP Yv.1 1) .i64 aX/\NC a0.base λbQ=>Br a1 a0.len/\ ∃aY,AU aB.drew (aD bQ a1 1) .i64 aY/\DYN E.call a4 #[iI aX,iI aY] aB.drew λb2 aJ=> ∃aZ:Int,b2=iI aZ/\CND (!(decide (aZ<0))) (O (i64 (Yv.1-1),()) aJ) (aF (Yv.1,()) aJ)) (aF (Yv.1,()) aB.drew)) λlP _ e=>cD (jA.1>lP.1) (NC a0.base λbR=>Br a1 a0.len/\ ∃a5,AU e.drew (aD bR a1 1) .i64 a5/\NC a0.base λbS=>Br lP.1 a0.len/\ ∃a6,AU e.drew (aD bS lP.1 1) .i64 a6/\NC a0.base λbT=>Br lP.1 a0.len/\stCells (aD bT lP.1 1) 0 [iI a5] e.drew λcA=>NC a0.base λbU=>Br a1 a0.len/\stCells (aD bU a1 1) 0 [iI a6] cA λcB=>K lP.1 false cB) (NC a0.base λbV=>Br lP.1 a0.len/\ ∃a7,AU e.drew (aD bV lP.1 1) .i64 a7/\NC a0.base λbW=>Br jA.1 a0.len/\ ∃a8,AU e.drew (aD bW jA.1 1) .i64 a8/\NC a0.base λbX=>Br jA.1 a0.len/\stCells (aD bX jA.1 1) 0 [iI a7] e.drew λcC=>NC a0.base λbY=>Br lP.1 a0.len/\stCells (aD bY lP.1 1) 0 [iI a8] cC λcE=>v (i64 (jA.1+1),i64 (lP.1-1),()) cE))
def F.slices_pdqsortCmpFunc_int_(E:Env):Nat->AY->Int->Int->Int->Value->(World->Prop)->World->Prop
 | 0,_,_,_,_,_,_,_=>False
 | n0+1,a0,a1,a2,a3,a4,K,w=>
 BK (Int×Int×Int×Bool×Bool×Unit) (a1,a2,a3,true,true,()) w λs1 _ w2 j=>
 cD (((i64 (s1.2.1-s1.1)):Int)<=12) (
 F.BL E a0 s1.1 s1.2.1 a4 (λw4=>
 K w4
 ) w2
 ) (
 CND (s1.2.2.1==0) (
 F.Ao E a0 s1.1 s1.2.1 a4 (λw5=>
 K w5
 ) w2
 ) (
 At (Int×Unit) (λJ6=>
 CND (!s1.2.2.2.1) (
 F.Ai E a0 s1.1 s1.2.1 a4 (λw9=>
 J6 (i64 (s1.2.2.1-1),()) w9
 ) w2
 ) (
 J6 (s1.2.2.1,()) w2
 )
 ) λs7 _ w8=>
 F.Ah E a0 s1.1 s1.2.1 a4 (λaB aC aF=>
 At (Int×Int×Unit) (λT=>
 CND (aC==2) (
 F.BS E a0 s1.1 s1.2.1 a4 (λaT=>
 JB (i64 ((i64 (s1.2.1-1))-(i64 (aB-s1.1))):Int) λu=>
 T (u,1,()) aT
 ) aF
 ) (
 T (aB,aC,()) aF
 )
 ) λM6 _ O=>
 At Unit (λY=>
 At (Bool×Unit) (λJ=>
 CND s1.2.2.2.1 (
 CND s1.2.2.2.2.1 (
 J (M6.2.1==1,()) O
 ) (
 J (false,()) O
 )
 ) (
 J (false,()) O
 )
 ) λwH _ aG=>
 CND wH.1 (
 F.Aw E a0 s1.1 s1.2.1 a4 (λaQ aH=>
 CND aQ (
 K aH
 ) (
 Y (()) aH
 )
 ) aG
 ) (
 Y (()) aG
 )
 ) λJR _ v=>
 At (Bool×Unit) (λaA=>
 cD (s1.1>0) (
 NC a0.base λaO=>
 ((0:Int)<=(i64 (s1.1-1))/\((i64 (s1.1-1)):Int)<(a0.len:Nat))/\
 ∃aK:Int,v.drew.cell? (aO.add (Int.toNat (i64 (s1.1-1))*1))=some (iI aK)/\
 NC a0.base λaP=>
 ((0:Int)<=M6.1/\M6.1<(a0.len:Nat))/\
 ∃aL:Int,v.drew.cell? (aD aP M6.1 1)=some (iI aL)/\
 DYN E.call a4 #[iI aK,iI aL] v.drew λaR aU=>
 ∃aM:Int,aR=iI aM/\
 aA (!(decide (aM<0)),()) aU
 ) (
 aA (false,()) v.drew
 )
 ) λs27 _ aI=>
 CND s27.1 (
 F.BH E a0 s1.1 s1.2.1 M6.1 a4 (λaS aV=>
 j (aS,s1.2.1,s7.1,s1.2.2.2.1,s1.2.2.2.2.1,()) aV
 ) aI
 ) (
 F.Bi E a0 s1.1 s1.2.1 M6.1 a4 (λe aE aJ=>
 8≠(0:Int)/\
 JB (i64 (Int.tdiv (i64 (s1.2.1-s1.1)) 8):Int) λa=>
 cD (((i64 (e-s1.1)):Int)<(i64 (s1.2.1-e))) (
 F.slices_pdqsortCmpFunc_int_ E n0 a0 s1.1 e s7.1 a4 (λaW=>
 j (i64 (e+1),s1.2.1,s7.1,decide (((i64 (e-s1.1)):Int)≥a),aE,()) aW
 ) aJ
 ) (
 F.slices_pdqsortCmpFunc_int_ E n0 a0 (i64 (e+1)) s1.2.1 s7.1 a4 (λaX=>
 j (s1.1,e,s7.1,decide (((i64 (s1.2.1-e)):Int)≥a),aE,()) aX
 ) aJ
 )
 ) aI
 )
 ) w8
 )
 )
def T0.BI(q0:Sp):Y43:=λa0 a1 K w=>
 q0 (u64 (((a0.len:Nat):Int))) (λr1 e=> ∃a,F.slices_pdqsortCmpFunc_int_ E a a0 0 ((a0.len:Nat):Int) r1 a1 K e) w
def F.BI:Y43:=T0.BI E (F.Eo E)
def T0.Cq(q0:Y43):Tc:=λa0 K w=>
 AC #[.pointer a0] E.A9 w λb1 J=> ∃x3,Da J (mA b1) x3/\NC x3 λp4=> ∃x5,Nv J (p4.add 4) x5/\ ∃j,N3 J x5 j/\AL (Jz x5 j) J λb7 w8=>BK (AY×Unit) (⟨none,0,0⟩,()) w8 λs9 _ aA a=>At (Bool×Unit) (λe=>TZ b7 aA (λaB=>e (false,()) aB) λaL aN aC=>e (true,()) aC) λIS _ u=>At (Bool×Unit) (λO=>CND IS.1 (O (IS.1,()) u) (q0 s9.1 (.func (.func E.GK) #[] #[.pointer (sM b1)]) (λaD=>K s9.1 aD) u)) λwI _ v=>oA b7 v λY aO aK=>T7 .i64 Y λaG=>AC ⟨[iI aG]⟩ E.Ar v λT aE=>APP E.Ar 1 8 #[vI] s9.1 (P5 T) aE λLp aF=>a (Lp,()) aF
def F.Cq:Tc:=T0.Cq E (F.BI E)
def F.Dp(E:Env):Y44:=λa0 a1 K w=>
 NC a0 λp1=> ∃x2,Nv w (p1.add 4) x2/\n9 .i64 a1 x2 w (vP) λu a j=> ∃e:(Option Addr),u= .pointer e/\CND (!a) (K none 35 w) (K e 0 w)
def F.Av:lM:=λa0 K w=>
 AC #[vU,vI,vI,vI,.bool false,vI,vI,vI,.bool false,.bool false] E.BD w λb1 e=>NC a0 λj=> ∃c4,AU e (j.add 0) .u64 c4/\ ∃c5,AU e (j.add 1) .i64 c5/\ ∃c6,AU e (j.add 2) .i64 c6/\ ∃c7,AU e (j.add 3) .i64 c7/\ ∃c8,FC e (j.add 4) c8/\ ∃c9,AU e (j.add 5) .i64 c9/\ ∃u,AU e (j.add 6) .i64 u/\ ∃v,AU e (j.add 7) .i64 v/\ ∃J,FC e (j.add 8) J/\ ∃O,FC e (j.add 9) O/\stCells (mA b1) 0 [iU c4,iI c5,iI c6,iI c7,.bool c8,iI c9,iI u,iI v,.bool J,.bool O] e λa=> ∃T,AU a ((mA b1).add 0) .u64 T/\ ∃Y,AU a ((mA b1).add 1) .i64 Y/\ ∃aA,AU a ((mA b1).add 2) .i64 aA/\ ∃aB,AU a ((mA b1).add 3) .i64 aB/\ ∃aC,FC a ((mA b1).add 4) aC/\ ∃aD,AU a ((mA b1).add 5) .i64 aD/\ ∃aE,AU a ((mA b1).add 6) .i64 aE/\ ∃aF,AU a ((mA b1).add 7) .i64 aF/\ ∃aG,FC a ((mA b1).add 8) aG/\ ∃aH,FC a ((mA b1).add 9) aH/\K T Y aA aB aC aD aE aF aG aH a
def T0.Bv(E:Env)(q0:Y44)(O:lM):Y46:=λa0 a1 K w=>
 Hb a0 w λx2=>q0 x2 a1 (λu r4 v=>At (Bool×Unit) (λj=>CND (r4 !=0) (j (true,()) v) (O u (λr9 T a Y aA aB aC aD aE aF e=>j (a !=1,()) e) v)) λs7 _ J=>CND s7.1 (K none false J) (K u true J)) w
def F.Bv:Y46:=T0.Bv E (F.Dp E) (F.Av E)
def T0.CY(q0:Tc)(q1:Y46)(q2:lM):u6:=λa0 K w=>
 Hb a0 w λx2=>q0 x2 (λr3 w4=>BK (Int×Int×Int×Unit) (0,0,0,()) w4 λs5 _ w6 j=>cD (s5.2.2.1<((r3.len:Nat):Int)) (NC r3.base λp8=>Br s5.2.2.1 r3.len/\ ∃x9,AU w6 (aD p8 s5.2.2.1 1) .i64 x9/\q1 a0 x9 (λaA aB J=>CND aB (q2 aA (λaC aE aF aG aH aI aJ aK aL aM aO=>AC #[vU,vI,vI,vI,.bool false,vI,vI,vI,.bool false,.bool false] E.BD aO λu aP=>stCells (mA u) 0 [iU aC,iI aE,iI aF,iI aG,.bool aH,iI aI,iI aJ,iI aK,.bool aL,.bool aM] aP λv=> ∃O,AU v ((mA u).add 7) .i64 O/\ ∃T,AU v ((mA u).add 5) .i64 T/\JB (u64 (s5.1+(u64 ((u64 O)*(u64 T)))):Int) λe=> ∃Y,AU v ((mA u).add 1) .i64 Y/\JB (u64 (s5.2.1+(u64 Y)):Int) λa=>j (e,a,i64 (s5.2.2.1+1),()) v) J) (j (s5.1,s5.2.1,i64 (s5.2.2.1+1),()) J)) w6) (K s5.1 s5.2.1 w6)) w
def F.CY:u6:=T0.CY E (F.Cq E) (F.Bv E) (F.Av E)
def F.Im(E:Env):OM:=λa0 K w=>
 rI a0 w 4 .u64 λx2=>K x2 w
def T0.CZ(q0:Tc)(q1:Y44)(q2:lM):OM:=λa0 K w=>
 Hb a0 w λx2=>q0 x2 (λr3 w4=>BK (Int×Int×Unit) (0,0,()) w4 λs5 _ O a=>cD (s5.2.1<((r3.len:Nat):Int)) (NC r3.base λp8=>Br s5.2.1 r3.len/\ ∃x9,AU O (aD p8 s5.2.1 1) .i64 x9/\Hb a0 O λaO=>q1 aO x9 (λT aS aL=>q2 T (λY aA aB aC aE aF aG aH aI aJ aM=>AC #[vU,vI,vI,vI,.bool false,vI,vI,vI,.bool false,.bool false] E.BD aM λj aN=>stCells (mA j) 0 [iU Y,iI aA,iI aB,iI aC,.bool aE,iI aF,iI aG,iI aH,.bool aI,.bool aJ] aN λe=> ∃v,AU e ((mA j).add 2) .i64 v/\CND (v==2) (∃J,AU e ((mA j).add 1) .i64 J/\JB (u64 (s5.1+(u64 ((u64 J)*8192))):Int) λu=>a (u,i64 (s5.2.1+1),()) e) (a (s5.1,i64 (s5.2.1+1),()) e)) aL) O) (K s5.1 O)) w
def F.CZ:OM:=T0.CZ E (F.Cq E) (F.Dp E) (F.Av E)
def T0.CU(q0:u6)(q1:Y21)(q2:OM)(q3:OM):Y48:=λa0 K w=>
 AC (Array.replicate 11 (vU)) E.Fa w λb1 w2=>q0 a0 (λr3 r4 w5=>Hb a0 w5 λx7=>q1 x7 (λr8 r9 aH Y=>At ((Option Addr)×Unit) (λaG=>NC a0 λJ=> ∃j,AU Y.drew (J.add 10) .u64 j/\NC a0 λbE=> ∃aF,Da Y.drew (bE.add 3) aF/\NC a0 λaA=> ∃T,Da Y.drew (aA.add 5) T/\NC a0 λO=> ∃u,AU Y.drew (O.add 11) .u64 u/\(q2 aF (λbF aB=>aB.cell? (O.add 11)=some (iU u)/\aB.cell? (aA.add 5)=some (.pointer T)/\aB.cell? (J.add 10)=some (iU j)/\(q3 T (λbN aJ=>aJ.cell? (O.add 11)=some (iU u)/\aJ.cell? (J.add 10)=some (iU j)/\AC (Array.replicate 11 (vU)) E.Fa aJ λaO aK=>aK.cell? (O.add 11)=some (iU u)/\aK.cell? (J.add 10)=some (iU j)/\stCells (mA aO) 0 [iU j,iU bF,iU r3,vU,vU,iU (u64 (r4*8192)),vU,iU (u64 (aH*8192)),iU bN,iU u,vU] aK λbT=>aG ((sM aO),()) bT) aB)/\(AC (Array.replicate 11 (vU)) E.Fa aB λaP aD=>aD.cell? (O.add 11)=some (iU u)/\aD.cell? (aA.add 5)=some (.pointer T)/\aD.cell? (J.add 10)=some (iU j)/\q3 T (λbP aL=>aL.cell? (O.add 11)=some (iU u)/\aL.cell? (J.add 10)=some (iU j)/\stCells (mA aP) 0 [iU j,iU bF,iU r3,vU,vU,iU (u64 (r4*8192)),vU,iU (u64 (aH*8192)),iU bP,iU u,vU] aL λbU=>aG ((sM aP),()) bU) aD)) Y.drew)/\(AC (Array.replicate 11 (vU)) E.Fa Y.drew λaQ aC=>aC.cell? (O.add 11)=some (iU u)/\aC.cell? (aA.add 5)=some (.pointer T)/\aC.cell? (bE.add 3)=some (.pointer aF)/\aC.cell? (J.add 10)=some (iU j)/\q2 aF (λbQ aE=>aE.cell? (O.add 11)=some (iU u)/\aE.cell? (aA.add 5)=some (.pointer T)/\aE.cell? (J.add 10)=some (iU j)/\q3 T (λbR aM=>aM.cell? (O.add 11)=some (iU u)/\aM.cell? (J.add 10)=some (iU j)/\stCells (mA aQ) 0 [iU j,iU bQ,iU r3,vU,vU,iU (u64 (r4*8192)),vU,iU (u64 (aH*8192)),iU bR,iU u,vU] aM λbV=>aG ((sM aQ),()) bV) aE) aC)) λIS _ aI=>MX IS.1 aI .u64 λbW=>rI IS.1 aI 1 .u64 λbX=>NC IS.1 λbI=>stCells (bI.add 10) 0 [iU (u64 (bW-bX))] aI λbG=>rI IS.1 bG 10 .u64 λbY=>NC IS.1 λbJ=>stCells (bJ.add 3) 0 [iU bY] bG λbH=>rI IS.1 bH 8 .u64 λbZ=>NC IS.1 λbK=>stCells (bK.add 4) 0 [iU (u64 ((u64 (r8*8192))-bZ))] bH λaN=>rI IS.1 aN 4 .u64 λb0=>rI IS.1 aN 5 .u64 λb2=>NC IS.1 λbL=>stCells (bL.add 6) 0 [iU (u64 (b0-b2))] aN λa=>NC IS.1 λv=> ∃aR,AU a (v.add 0) .u64 aR/\ ∃aS,AU a (v.add 1) .u64 aS/\ ∃aT,AU a (v.add 2) .u64 aT/\ ∃aU,AU a (v.add 3) .u64 aU/\ ∃aV,AU a (v.add 4) .u64 aV/\ ∃aW,AU a (v.add 5) .u64 aW/\ ∃aX,AU a (v.add 6) .u64 aX/\ ∃aY,AU a (v.add 7) .u64 aY/\ ∃aZ,AU a (v.add 8) .u64 aZ/\ ∃a1,AU a (v.add 9) .u64 a1/\ ∃a2,AU a (v.add 10) .u64 a2/\stCells (mA b1) 0 [iU aR,iU aS,iU aT,iU aU,iU aV,iU aW,iU aX,iU aY,iU aZ,iU a1,iU a2] a λe=> ∃a3,AU e ((mA b1).add 0) .u64 a3/\ ∃a4,AU e ((mA b1).add 1) .u64 a4/\ ∃a5,AU e ((mA b1).add 2) .u64 a5/\ ∃a6,AU e ((mA b1).add 3) .u64 a6/\ ∃a7,AU e ((mA b1).add 4) .u64 a7/\ ∃a8,AU e ((mA b1).add 5) .u64 a8/\ ∃a9,AU e ((mA b1).add 6) .u64 a9/\ ∃bA,AU e ((mA b1).add 7) .u64 bA/\ ∃bB,AU e ((mA b1).add 8) .u64 bB/\ ∃bC,AU e ((mA b1).add 9) .u64 bC/\ ∃bD,AU e ((mA b1).add 10) .u64 bD/\K a3 a4 a5 a6 a7 a8 a9 bA bB bC bD e) w5) w2
def F.CU:Y48:=T0.CU E (F.CY E) (F.DR E) (F.Im E) (F.CZ E)
def F.Dq(E:Env):Tc:=λa0 K w=>
 NC a0 λp1=> ∃x2:AY,w.cell? p1=some (.slice x2.base x2.len x2.cap)/\K x2 w
def T0.Dx(q0:Tc):Y49:=λa0 K w=>
 AC ⟨[]⟩ E.AB w λb1 v=>NC a0 λj=>q0 (some j) (λu J=>APP E.AB 2 16 #[vU,vU] (Lr b1) u J λs6 O=>AC #[vS] E.Ag O λe T=>stCells (mA e) 0 [BP s6] T λa=>K (.func (.func E.Dv) #[] #[.pointer (sM e)]) a) v
def F.Dx:Y49:=T0.Dx E (F.Dq E)
def F.Bd:Y50:=λa0 a1 K w=>
 AC #[BP a0] E.Db w λb1 w2=>RNGF E.seq a1 w2 (λx3 w4 a aD aC=> ∃x8,EW w4 (mA b1) x8/\AC ⟨[iU x3]⟩ E.AF w4 λb9 J=>APP E.AF 1 8 #[vU] x8 (P5 b9) J λvC O=>stCells (mA b1) 0 [BP vC] O λT=>a T) (λu e=> ∃j,EW e (mA b1) j/\COL u e λY=>K j Y) (λv aA=>COL v aA λaB=>K ⟨none,0,0⟩ aB) []
def T0.Ca(E:Env)(q0:Y50):Y51:=λa0 K w=>
 q0 ⟨none,0,0⟩ a0 K w
def F.Ca:Y51:=T0.Ca E (F.Bd E)
def T0.Dd(E:Env)(q0:Y49)(a:Y51):Tc:=λa0 K w=>
 rP a0 w 2 λx2=>q0 x2 (λe j=>a e K j) w
def F.Dd:Tc:=T0.Dd E (F.Dx E) (F.Ca E)
def T0.CG(E:Env)(q0:Tc):Tc:=λa0 K w=>
 Hb a0 w λx2=>q0 x2 K w
def F.CG:Tc:=T0.CG E (F.Dd E)
def F.ES(E:Env):cE:=λa0 a1 K w=>
 cD (a1≥0) (rI a0 w 6 .i64 λx2=>K (decide (a1<x2)) w) (K false w)
def F.Is(E:Env):Y53:=λa0 a1 K w=>
 (0:Int)<=6/\cD (((Int.fdiv a1 (2^(min (Int.toNat 6) (IntKind.bits .i64)))):Int)<((a0.len:Nat):Int)) ((0:Int)<=6/\NC a0.base λp1=>Br (Int.fdiv a1 (2^(min (Int.toNat 6) (IntKind.bits .i64)))) a0.len/\ ∃x2:Int,w.cell? (p1.add (Int.toNat (Int.fdiv a1 (2^(min (Int.toNat 6) (IntKind.bits .i64))))*1))=some (iU x2)/\(0:Int)<=(EA .i64 0 a1 63)/\K (((EA .u64 0 (Int.fdiv x2 (2^(min (Int.toNat (EA .i64 0 a1 63)) (IntKind.bits .u64)))) 1):Int)==1) w) (K false w)
def T0.DC(E:Env)(q0:cE)(e:Y53):cE:=λa0 a1 K w=>
 q0 a0 a1 (λr1 a=>CND r1 (rS a0 a 11 λj=>e j a1 K a) (K false a)) w
def F.DC:cE:=T0.DC E (F.ES E) (F.Is E)
def T0.Cd(E:Env)(q0:cE):Wn:=λa0 a1 K w=>
 q0 a0 a1 (λr1 a=>CND (!r1) (K 0 1 a) (MX a0 a.drew .u64 λe=>rI a0 a.drew 5 .i64 λj=>JB (u64 (e+(u64 ((u64 a1)*(u64 j)))):Int) λt7=>K t7 0 a.drew)) w
def F.Cd:Wn:=T0.Cd E (F.ES E)
def T0.BM(q0:Tc)(q1:Y46)(q2:lM)(q3:cE)(q4:Wn):Tc:=λa0 K w=>
 Hb a0 w λx2=>q0 x2 (λr3 w4=>BK (AY×Int×Unit) (⟨none,0,0⟩,0,()) w4 λs5 _ w6 e=>cD (s5.2.1<((r3.len:Nat):Int)) (NC r3.base λp8=>Br s5.2.1 r3.len/\ ∃x9,AU w6 (aD p8 s5.2.1 1) .i64 x9/\q1 a0 x9 (λj T u=>CND (!T) (e (s5.1,i64 (s5.2.1+1),()) u) (BK (AY×Int×Unit) (s5.1,0,()) u λIS _ aE a=>q2 j (λaO aP aQ aR aS aT Y aU aV aW v=>cD (IS.2.1<Y) (q3 j IS.2.1 (λaA J=>CND aA (q4 j IS.2.1 (λaB aX aF=>AC ⟨[iU aB]⟩ E.AF aF λO aG=>APP E.AF 1 8 #[vU] IS.1 (P5 O) aG λpV aH=>a (pV,i64 (IS.2.1+1),()) aH) J) (a (IS.1,i64 (IS.2.1+1),()) J)) v) (e (IS.1,i64 (s5.2.1+1),()) v)) aE)) w6) (K s5.1 w6)) w
def F.BM:Tc:=T0.BM E (F.Cq E) (F.Bv E) (F.Av E) (F.DC E) (F.Cd E)
def F.KL:Y54:=λa0 a1 K w=>
 AC #[vU,vU,vI] E.CT w λb1 u=>At (Bool×Unit) (λJ3=>cD (a1<0) (J3 (true,()) u) (rS a0 u 4 λx7=>cD (a1≥((x7.len:Nat):Int)) (J3 (true,()) u) (rS a0 u 4 λx9=>NC x9.base λaK=>Br a1 x9.len/\ ∃aG,Da u (aD aK a1 1) aG/\rB aG u 13 λaM=>J3 (!aM,()) u))) λs4 _ v=>CND s4.1 (stCells (mA b1) 0 [vU,vU,vI] v λa=> ∃J,AU a ((mA b1).add 0) .u64 J/\ ∃O,AU a ((mA b1).add 1) .u64 O/\ ∃T,AU a ((mA b1).add 2) .i64 T/\K J O T false a) (rS a0 v 4 λaH=>NC aH.base λaL=>Br a1 aH.len/\ ∃aI,Da v (aD aL a1 1) aI/\NC aI λj=> ∃Y,AU v ((j.add 10).add 0) .u64 Y/\ ∃aA,AU v ((j.add 10).add 1) .u64 aA/\ ∃aB,AU v ((j.add 10).add 2) .i64 aB/\stCells (mA b1) 0 [iU Y,iU aA,iI aB] v λe=> ∃aC,AU e ((mA b1).add 0) .u64 aC/\ ∃aE,AU e ((mA b1).add 1) .u64 aE/\ ∃aF,AU e ((mA b1).add 2) .i64 aF/\K aC aE aF true e)
def T0.Dr(q0:Y9)(q1:Y14)(q2:Y33)(q3:Y54)(q4:Tc)(q5:Tr):Y55:=λK w=>
 q0 ⟨none,0,0⟩ ⟨none,0,0⟩ ⟨none,0,0⟩ 2 100 (λr1 r2 w3=>At (Bool×Unit) (λJ4=>CND (r1.isNone) (J4 (true,()) w3) (J4 (r2 !=0,()) w3)) λs5 _ w6=>CND s5.1 (K false w6) (q1 r1 1 0 40 0 0 0 false 0 ⟨none,0,0⟩ ⟨none,0,0⟩ (λr7 r8 w9=>q1 r1 1 1 100000 0 0 0 false 0 ⟨none,0,0⟩ ⟨none,0,0⟩ (λbG bH aZ=>q2 r1 ⟨none,0,0⟩ (λaM aF=>CND (!aM) (K false aF) (q3 r1 0 (λaN aO aP aQ a0=>AC #[vU,vU,vI] E.CT a0 λj a1=>stCells (mA j) 0 [iU aN,iU aO,iI aP] a1 λa2=>q3 r1 1 (λaR aS aT aU a3=>AC #[vU,vU,vI] E.CT a3 λa a4=>stCells (mA a) 0 [iU aR,iU aS,iI aT] a4 λaG=> ∃aI,AU aG (mA a) .u64 aI/\AC ⟨[iU (u64 (aI+5000))]⟩ E.AF aG λaK a5=>q1 r1 6 0 0 0 0 0 false 0 ⟨none,0,0⟩ (P5 aK) (λbJ bK a6=>q1 r1 7 0 9 0 0 0 false 0 ⟨none,0,0⟩ ⟨none,0,0⟩ (λbL bM aH=>Hb r1 aH λa7=>q4 a7 (λaV e=>CND aQ (CND aU (CND ((((aV.len:Nat):Int):Int)==2) (∃J,AU e.drew ((mA j).add 1) .u64 J/\CND (J==48) (∃O,AU e.drew ((mA a).add 1) .u64 O/\CND (O==106496) (q2 r1 ⟨none,0,0⟩ (λaW T=>T.cell? ((mA a).add 1)=some (iU O)/\T.cell? ((mA j).add 1)=some (iU J)/\CND aW (Hb r1 T λa8=>q4 a8 (λaX u=>u.cell? ((mA a).add 1)=some (iU O)/\u.cell? ((mA j).add 1)=some (iU J)/\CND ((((aX.len:Nat):Int):Int)==1) (Hb r1 u λa9=> ∃aA,AU u (mA a) .u64 aA/\q4 a9 (λaE v=>v.cell? (mA a)=some (iU aA)/\v.cell? ((mA a).add 1)=some (iU O)/\v.cell? ((mA j).add 1)=some (iU J)/\NC aE.base λaC=>Br 0 aE.len/\ ∃aB,AU v (aD aC 0 1) .u64 aB/\CND (aB==aA) (q5 r1 (λaY Y=>Y.cell? (aD aC 0 1)=some (iU aB)/\Y.cell? (mA a)=some (iU aA)/\Y.cell? ((mA a).add 1)=some (iU O)/\Y.cell? ((mA j).add 1)=some (iU J)/\K aY Y) v) (K false v)) u) (K false u)) T) (K false T)) e.drew) (K false e.drew)) (K false e.drew)) (K false e.drew)) (K false e.drew)) (K false e.drew)) aH) a6) a5) a2) aF)) aZ) w9) w6)) w
def F.Dr:Y55:=T0.Dr E (F.K1 E) (F.Ev E) (F.CN E) (F.KL E) (F.BM E) (F.Em E)
def T0.BJ(q0:Y12)(q1:Y15)(q2:Y33)(q3:Y48)(q4:Tc)(q5:Tc)(q6:Y55):Y56:=λa0 a1 a2 a3 a4 K w=>
 At (Bool×Unit) (λJ1=>cD (a0<1) (J1 (true,()) w) (cD (a0>8) (J1 (true,()) w) (cD (a2<16) (J1 (true,()) w) (cD (a2>40000) (J1 (true,()) w) (cD (a3<1) (J1 (true,()) w) (cD (a3>20) (J1 (true,()) w) (J1 (decide ((((a4.len:Nat):Int):Int)>3000),()) w))))))) λs2 _ w3=>CND s2.1 (K true w3) (q0 ⟨none,0,0⟩ ⟨none,0,0⟩ ⟨none,0,0⟩ a0 100 a1 (λu w5=>CND (u.isNone) (K false w5) (BK (Int×Int×Unit) (0,0,()) w5 λs6 _ w7 aG=>cD (s6.2.1<6) (BK (Int×Unit) (0,()) w7 λs9 _ aN J=>cD (s9.1<a3) (a0≠(0:Int)/\q1 u 1 (Int.tmod s9.1 a0) a2 0 0 0 false 0 ⟨none,0,0⟩ ⟨none,0,0⟩ a2 (λa7 aO=>CND (!a7) (K false aO) (J (i64 (s9.1+1),()) aO)) aN) (At (Int×AY×Unit) (λaK=>BK (Int×AY×Unit) (s6.1,⟨none,0,0⟩,()) aN λUl _ T O=>cD (Ul.1<((a4.len:Nat):Int)) (cD ((((Ul.2.1.len:Nat):Int):Int)<400) (NC a4.base λaZ=>Br Ul.1 a4.len/\ ∃aT,AU T (aD aZ Ul.1 1) .i64 aT/\AC ⟨[iI aT]⟩ E.Ar T λaY b1=>APP E.Ar 1 8 #[vI] Ul.2.1 (P5 aY) b1 λpW b2=>O (i64 (Ul.1+1),pW,()) b2) (aK (Ul.1,Ul.2.1,()) T)) (aK (Ul.1,Ul.2.1,()) T)) λSr _ aP=>Hb u aP λb9=>q2 b9 Sr.2.1 (λa8 Y=>CND (!a8) (K false Y) (Hb u Y λcA=>Hb cA Y λcB=>q3 cB (λa9 bA bB bC bD bE bF bG bH bI bJ b3=>AC (Array.replicate 11 (vU)) E.Fa b3 λaM b4=>stCells (mA aM) 0 [iU a9,iU bA,iU bB,iU bC,iU bD,iU bE,iU bF,iU bG,iU bH,iU bI,iU bJ] b4 λv=>At (Bool×Unit) (λaL=> ∃aU,AU v ((mA aM).add 10) .u64 aU/\cD (aU<(u64 a3)) (aL (true,()) v) (Hb u v λcC=>Hb cC v λcE=>q4 cE (λbK b5=>512≠(0:Int)/\aL (decide ((((bK.len:Nat):Int):Int)>(i64 ((i64 (1+(i64 (Int.tdiv (i64 (a3*6)) 512))))+a0))),()) b5) v)) λwD _ aQ=>CND wD.1 (K false aQ) (At (Bool×Unit) (λe=>q1 u 6 0 0 0 0 0 false 0 ⟨none,0,0⟩ ⟨none,0,0⟩ 0 (λbL aH=>CND (!bL) (e (true,()) aH) (Hb u aH λcF=>q2 cF ⟨none,0,0⟩ (λbM aS=>CND (!bM) (e (true,()) aS) (q1 u 7 0 100000 0 0 0 false 0 ⟨none,0,0⟩ ⟨none,0,0⟩ 0 (λbN aI=>CND (!bN) (e (true,()) aI) (Hb u aI λcG=>q2 cG ⟨none,0,0⟩ (λbO aA=>CND (!bO) (e (true,()) aA) (Hb u aA λcH=>Hb cH aA λcI=>q5 cI (λbP b6=>e ((((bP.len:Nat):Int):Int) !=0,()) b6) aA)) aI)) aS)) aH)) aQ) λs60 _ aR=>CND s60.1 (K false aR) (aG (Sr.1,i64 (s6.2.1+1),()) aR))) Y)) aP)) (Hb u w7 λcJ=>Hb cJ w7 λcK=>q3 cK (λbQ bR bS bT bU bV bW bX bY bZ b0 b7=>AC (Array.replicate 11 (vU)) E.Fa b7 λj b8=>stCells (mA j) 0 [iU bQ,iU bR,iU bS,iU bT,iU bU,iU bV,iU bW,iU bX,iU bY,iU bZ,iU b0] b8 λa=> ∃aV,AU a ((mA j).add 1) .u64 aV/\CND (aV==(u64 (i64 (6*a3)))) (∃aB,AU a ((mA j).add 5) .u64 aB/\CND (aB==0) (∃aC,AU a ((mA j).add 6) .u64 aC/\ ∃aE,AU a ((mA j).add 4) .u64 aE/\CND (aC==aE) (q6 K a) (K false a)) (K false a)) (K false a)) w7))) w3)
def F.BJ:Y56:=T0.BJ E (F.EO E) (F.Ct E) (F.CN E) (F.CU E) (F.CG E) (F.BM E) (F.Dr E)
def F.I8(E:Env):Tr:=λa0 K w=>
 rI a0 w 3 .i64 λx2=>K (decide (x2>0)) w
def F.Je(E:Env):pP:=λa0 K w=>
 K (a0 !=a0) w
def T0.Cu(E:Env)(q0:pP):SC:=λa0 a1 K w=>
 q0 a0 (λr1 j=>q0 a1 (λe a=>CND r1 (CND e (K 0 a) (K (-1) a)) (CND e (K 1 a) (cD (a0<a1) (K (-1) a) (cD (a0>a1) (K 1 a) (K 0 a))))) j) w
def F.Cu:SC:=T0.Cu E (F.Je E)
def T0.Bx(E:Env)(q0:lM)(q1:SC):Y58:=λa0 a1 a2 K w=>
 NC a2 λp1=> ∃x2,Da w.drew p1 x2/\NC x2 λp3=> ∃Y,Nv w.drew (p3.add 4) Y/\n9 .i64 a0 Y w.drew (vP) λv5 aJ aI=> ∃x8:(Option Addr),v5= .pointer x8/\NC a2 λp9=> ∃v,Da w.drew p9 v/\NC v λJ=> ∃e,Nv w.drew (J.add 4) e/\n9 .i64 a1 e w.drew (vP) λaF aG O=> ∃T:(Option Addr),aF= .pointer T/\q0 x8 (λaC aL aM aN aO aP aQ aR aS aT a=>G5.obj e O a/\a.cell? (J.add 4)=some (.map e)/\a.cell? p9=some (.pointer v)/\a.cell? (p3.add 4)=some (.map Y)/\a.cell? p1=some (.pointer x2)/\q0 T (λaD aU aV aW aX aY aZ a3 a4 a5 j=>j.cell? (J.add 4)=some (.map e)/\j.cell? p9=some (.pointer v)/\j.cell? (p3.add 4)=some (.map Y)/\j.cell? p1=some (.pointer x2)/\q1 aC aD (λaE u=>u.cell? (J.add 4)=some (.map e)/\u.cell? p9=some (.pointer v)/\u.cell? (p3.add 4)=some (.map Y)/\u.cell? p1=some (.pointer x2)/\K aE u) j) a) w.drew
def F.Bx:Y58:=T0.Bx E (F.Av E) (F.Cu E)
def F.Q4(E:Env):pP:=λa0 K w=>
 CND (a0 !=0) (K (((EA .u64 0 a0 (u64 (a0-1))):Int)==0) w) (K false w)
def T0.ID(E:Env)(q0:pP):SC:=λa0 a1 K w=>
 q0 (u64 a0) (λr1 a=>CND (!r1) (K a1 a) (cD (a0≥2048) (K 256 a) (cD (a0≥128) (8≠(0:Int)/\K (i64 (Int.tdiv a0 8)) a) (cD (a0≥32) (K 16 a) (K a1 a))))) w
def F.ID:SC:=T0.ID E (F.Q4 E)
def F.L7(E:Env):SC:=λa0 a1 K w=>
 BK (Int×Unit) (a1,()) w λs1 _ e a=>a0≠(0:Int)/\8≠(0:Int)/\cD (((Int.tmod s1.1 a0):Int)>(i64 (Int.tdiv s1.1 8))) (a (i64 (s1.1+a1),()) e) (K s1.1 e)
def F.PK(E:Env):Sp:=λa0 K w=>
 cD (a0<2) (K 0 w) (a0≠(0:Int)/\JB (IntKind.wrap .u32 ((IntKind.wrap .u32 (Int.tdiv 4294967295 a0))+1):Int) λt1=>K t1 w)
def T0.JF(q0:pP)(q1:SC)(q2:SC)(q3:Sp):Y59:=λa0 a1 K w=>
 At (Bool×Unit) (λJ1=>cD (a0<1024) (J1 (true,()) w) (cD (a0>65536) (J1 (true,()) w) (q0 (u64 a0) (λr4 w5=>CND (!r4) (J1 (true,()) w5) (cD (a1<64) (J1 (true,()) w5) (cD (a1>(i64 (4*a0))) (J1 (true,()) w5) (q0 (u64 a1) (λr6 w7=>J1 (!r6,()) w7) w5)))) w))) λs2 _ w3=>CND s2.1 (K ⟨none,0,0⟩ 1 w3) (AC ⟨[vI,vI,vI,.int .u32 0]⟩ E.DA w3 λb8 w9=>BK (AY×Int×Int×Unit) ((P5 b8),8,8,()) w9 λGM _ aH j=>cD (GM.2.2.1<=a1) (q1 GM.2.2.1 GM.2.1 (λY aS=>q2 GM.2.2.1 a0 (λaC u=>NC GM.1.base λT=>Br (i64 (((GM.1.len:Nat):Int)-1)) GM.1.len/\At (Bool×Unit) (λaB=>cD ((((GM.1.len:Nat):Int):Int)>1) (∃aL:Int,u.drew.cell? ((T.add (Int.toNat (i64 (((GM.1.len:Nat):Int)-1))*4)).add 1)=some (iI aL)/\a0≠(0:Int)/\CND (aL==(i64 (Int.tdiv aC a0))) (∃aM:Int,u.drew.cell? ((T.add (Int.toNat (i64 (((GM.1.len:Nat):Int)-1))*4)).add 1)=some (iI aM)/\ ∃aD:Int,u.drew.cell? (T.add (Int.toNat (i64 (((GM.1.len:Nat):Int)-1))*4))=some (iI aD)/\aD≠(0:Int)/\GM.2.2.1≠(0:Int)/\aB (((i64 (Int.tdiv (i64 (aM*a0)) aD)):Int)==(i64 (Int.tdiv aC GM.2.2.1)),()) u.drew) (aB (false,()) u.drew)) (aB (false,()) u.drew)) λJR _ aI=>CND JR.1 (stCells (T.add (Int.toNat (i64 (((GM.1.len:Nat):Int)-1))*4)) 0 [iI GM.2.2.1] aI λaT=>j (GM.1,Y,i64 (GM.2.2.1+Y),()) aT) (a0≠(0:Int)/\AC ⟨[iI GM.2.2.1,iI (i64 (Int.tdiv aC a0)),vI,.int .u32 0]⟩ E.DA aI λaQ aU=>APP E.DA 4 32 #[vI,vI,vI,.int .u32 0] GM.1 (P5 aQ) aU λs27 aV=>j (s27,Y,i64 (GM.2.2.1+Y),()) aV)) aS) aH) (((0:Int)<=1/\(1:Int)<=(GM.1.len:Nat))/\BK (Int×Unit) (0,()) aH λLp _ v O=>cD (Lp.1<(((GM.1.len-(Int.toNat 1)):Nat):Int)) (NC GM.1.base λa=>Br (i64 (Lp.1+1)) GM.1.len/\ ∃J:Int,v.cell? ((a.add (Int.toNat (i64 (Lp.1+1))*4)).add 1)=some (iI J)/\At Unit (λaG=> ∃aA,AU v (a.add (Int.toNat (i64 (Lp.1+1))*4)) .i64 aA/\aA≠(0:Int)/\(i64 (Int.tdiv (i64 (J*a0)) aA))≠(0:Int)/\128≠(0:Int)/\JB (i64 ((i64 (Int.tdiv (i64 (Int.tdiv (i64 (J*a0)) (i64 (Int.tdiv (i64 (J*a0)) aA)))) 128))*128):Int) λe=> ∃aN,AU v (a.add (Int.toNat (i64 (Lp.1+1))*4)) .i64 aN/\cD (e>aN) (stCells (a.add (Int.toNat (i64 (Lp.1+1))*4)) 0 [iI e] v λaW=>aG (()) aW) (aG (()) v)) λs35 _ aJ=> ∃aE,AU aJ (a.add (Int.toNat (i64 (Lp.1+1))*4)) .i64 aE/\aE≠(0:Int)/\stCells ((a.add (Int.toNat (i64 (Lp.1+1))*4)).add 2) 0 [iI (i64 (Int.tdiv (i64 (J*a0)) aE))] aJ λaK=> ∃aO,AU aK (a.add (Int.toNat (i64 (Lp.1+1))*4)) .i64 aO/\q3 (IntKind.wrap .u32 aO) (λaR aX=>stCells ((a.add (Int.toNat (i64 (Lp.1+1))*4)).add 3) 0 [.int .u32 aR] aX λaY=>O (i64 (Lp.1+1),()) aY) aK) (K GM.1 0 v)))
def F.JF:Y59:=T0.JF E (F.Q4 E) (F.ID E) (F.L7 E) (F.PK E)
def T0.Fc(E:Env)(q0:Y59):Y60:=λK w=>
 q0 8192 32768 (λr1 e a=>K r1 a) w
def F.Fc:Y60:=T0.Fc E (F.JF E)
def F.IE:Y61:=λa0 a1 K w=>
 BK (Int×Int×Unit) (0,a0,()) w λs1 _ j a=>cD (s1.1<s1.2.1) ((0:Int)<=1/\JB (i64 (Int.fdiv (u64 (i64 (s1.1+s1.2.1))) (2^(min (Int.toNat 1) (IntKind.bits .u64)))):Int) λe=>DYN E.call a1 #[iI e] j λJ u=> ∃v:Bool,J= .bool v/\CND (!v) (a (i64 (e+1),s1.2.1,()) u) (a (s1.1,e,()) u)) (K s1.1 j)
def T0.KW(q0:Y60)(q1:Y61):Y62:=λa0 K w=>
 AC #[iI a0] E.Ar w λb1 u=>At (Bool×Unit) (λT=> ∃x6,AU u (mA b1) .i64 x6/\cD (x6<0) (T (true,()) u) (∃x7,AU u (mA b1) .i64 x7/\T (decide (x7>32768),()) u)) λs4 _ Y=>CND s4.1 (K 0 1 Y) (q0 (λr8 w9=>AC #[vS] E.Pe w9 λa J=>stCells (mA a) 0 [BP r8] J λe=> ∃j,EW e (mA a) j/\q1 (i64 (((j.len:Nat):Int)-1)) (.func (.func E.K0) #[] #[.pointer (sM a),.pointer (sM b1)]) (λv O=>K (i64 (1+v)) 0 O) e) Y)
def F.KW:Y62:=T0.KW E (F.Fc E) (F.IE E)
def T0.GO(q0:Y62)(q1:Y60):Y63:=λaJ aK aL aM aN aO aP aQ aR aS K w=>
 AC #[iI aJ,iI aK,iU aL,iU aM,iI aN,iU aO,.bool aP,iI aQ,BP aR,BP aS] E.BN w λb1 w2=>AC #[vI,.bool false,.bool false,vU] E.Bt w2 λj J=> ∃x5,AU J ((mA b1).add 7) .i64 x5/\At (Bool×Unit) (λJ6=> ∃x9,AU J ((mA b1).add 2) .u64 x9/\CND (x9==0) (J6 (true,()) J) (∃bG,AU J ((mA b1).add 2) .u64 bG/\cD (bG>1099511627776) (J6 (true,()) J) (∃bH,AU J ((mA b1).add 7) .i64 bH/\cD (bH<0) (J6 (true,()) J) (cD (((u64 (LI x5 0)):Int)>65536) (J6 (true,()) J) (∃bI,EW J (((mA b1).add 7).add 1) bI/\ ∃bJ,AU J ((mA b1).add 7) .i64 bJ/\CND ((((bI.len:Nat):Int):Int) !=bJ) (J6 (true,()) J) (∃bK,AU J ((mA b1).add 2) .u64 bK/\J6 (decide (((u64 (8*(u64 (LI x5 0)))):Int)>bK),()) J)))))) λs7 _ w8=>CND s7.1 (stCells (mA j) 0 [vI,.bool false,.bool false,vU] w8 λO=> ∃aT,AU O ((mA j).add 0) .i64 aT/\ ∃aU,FC O ((mA j).add 1) aU/\ ∃aV,FC O ((mA j).add 2) aV/\ ∃aW,AU O ((mA j).add 3) .u64 aW/\K aT aU aV aW 1 O) (AC #[vI,.bool false,.bool false,vU] E.Bt w8 λa bW=>stCells (mA a) 0 [vI,.bool true,.bool false,vU] bW λbE=> ∃aC,EW bE (((mA b1).add 7).add 1) aC/\BK (Int×Unit) (0,()) bE λpW _ e u=>cD (pW.1<((aC.len:Nat):Int)) (NC aC.base λbT=>Br pW.1 aC.len/\ ∃bL,FC e (aD bT pW.1 1) bL/\ ∃bM,FC e ((mA a).add 1) bM/\CND bM (stCells ((mA a).add 1) 0 [.bool (!bL)] e λbX=>u (i64 (pW.1+1),()) bX) (stCells ((mA a).add 1) 0 [.bool false] e λbY=>u (i64 (pW.1+1),()) bY)) (At Unit (λaH=>At (Bool×Unit) (λaI=> ∃bN,FC e ((mA a).add 1) bN/\CND bN (∃bO,AU e ((mA b1).add 2) .u64 bO/\aI (decide (bO<16),()) e) (aI (false,()) e)) λWo _ v=>CND Wo.1 (stCells ((mA a).add 2) 0 [.bool true] v λbZ=>stCells (mA a) 0 [iI 2] bZ λb0=>aH (()) b0) (∃bP,AU v ((mA b1).add 2) .u64 bP/\cD (bP<=32768) (∃bQ,AU v ((mA b1).add 2) .u64 bQ/\q0 (i64 bQ) (λbV b8 b2=>stCells (mA a) 0 [iI bV] b2 λb4=>aH (()) b4) v) (∃bR,AU v ((mA b1).add 2) .u64 bR/\8192≠(0:Int)/\stCells ((mA a).add 3) 0 [iU (u64 (Int.tdiv (u64 ((u64 (bR+8192))-1)) 8192))] v λT=> ∃aX,AU T ((mA a).add 0) .i64 aX/\ ∃aY,FC T ((mA a).add 1) aY/\ ∃aZ,FC T ((mA a).add 2) aZ/\ ∃a0,AU T ((mA a).add 3) .u64 a0/\stCells (mA j) 0 [iI aX,.bool aY,.bool aZ,iU a0] T λY=> ∃a1,AU Y ((mA j).add 0) .i64 a1/\ ∃a2,FC Y ((mA j).add 1) a2/\ ∃a3,FC Y ((mA j).add 2) a3/\ ∃a4,AU Y ((mA j).add 3) .u64 a4/\K a1 a2 a3 a4 0 Y))) λoF _ bF=> ∃aE,AU bF.drew (mA a) .i64 aE/\q1 (λbD aF=>aF.cell? (mA a)=some (iI aE)/\NC bD.base λbU=>Br aE bD.len/\ ∃bS,AU aF ((aD bU aE 4).add 1) .i64 bS/\stCells ((mA a).add 3) 0 [iU (u64 bS)] aF λaA=> ∃a5,AU aA ((mA a).add 0) .i64 a5/\ ∃a6,FC aA ((mA a).add 1) a6/\ ∃a7,FC aA ((mA a).add 2) a7/\ ∃a8,AU aA ((mA a).add 3) .u64 a8/\stCells (mA j) 0 [iI a5,.bool a6,.bool a7,iU a8] aA λaB=> ∃a9,AU aB ((mA j).add 0) .i64 a9/\ ∃bA,FC aB ((mA j).add 1) bA/\ ∃bB,FC aB ((mA j).add 2) bB/\ ∃bC,AU aB ((mA j).add 3) .u64 bC/\K a9 bA bB bC 0 aB) bF.drew))
def F.GO:Y63:=T0.GO E (F.KW E) (F.Fc E)
def F.Jf(E:Env):oD:=λa0 a1 K w=>
 False
def F.FE(E:Env):Y6:=λa0 K w=>
 Hb a0 w λx2=>K x2 w
def F.HC(E:Env):Y6:=λa0 K w=>
 Hb a0 w λx2=>K x2 w
def F.L8(E:Env):pP:=λa0 K w=>
 cD (a0>0) (K (decide (a0<68)) w) (K false w)
def F.LX(E:Env):Y64:=λa0 K w=>
 CND a0 (K 1 w) (K 0 w)
def T0.DS(E:Env)(q0:pP)(J:Y64):u7:=λa0 a1 a2 K w=>
 q0 a1 (λr1 e=>CND (!r1) (K 0 e) (NC a0 λv=>Br a1 68/\J a2 (λa j=>Br a 2/\ ∃u,AU j (((v.add 2).add (Int.toNat a1*2)).add (Int.toNat a*1)) .i64 u/\K u j) e.drew)) w
def F.DS:u7:=T0.DS E (F.L8 E) (F.LX E)
def F.BO:Sp:=λa0 K w=>
 CND (a0==0) (K 64 w) ((0:Int)<=58/\Br (Int.fdiv (u64 ((EA .u64 0 a0 (u64 (0-a0)))*285870213051353865)) (2^(min (Int.toNat 58) (IntKind.bits .u64)))) 64/\ ∃x1:Int,w.cell? ((Addr.mk E.AH 0 none).add (Int.toNat (Int.fdiv (u64 ((EA .u64 0 a0 (u64 (0-a0)))*285870213051353865)) (2^(min (Int.toNat 58) (IntKind.bits .u64))))*1))=some (.int .u8 x1)/\K (i64 x1) w)
def T0.Ez(E:Env)(q0:Sp):Y66:=λa0 a1 K w=>
 (0:Int)<=6/\JB (Int.fdiv a1 (2^(min (Int.toNat 6) (IntKind.bits .i64))):Int) λu=>BK (Int×Unit) (u,()) w λs2 _ j a=>cD (s2.1<((a0.len:Nat):Int)) (NC a0.base λp5=>Br s2.1 a0.len/\ ∃O,AU j (aD p5 s2.1 1) .u64 O/\At (Int×Unit) (λT=>(0:Int)<=6/\CND (s2.1==(Int.fdiv a1 (2^(min (Int.toNat 6) (IntKind.bits .i64))))) ((0:Int)<=(EA .i64 0 a1 63)/\JB (EA .u64 1 O (u64 ((u64 (1*2^(min (Int.toNat (EA .i64 0 a1 63)) (IntKind.bits .u64))))-1)):Int) λe=>T (e,()) j) (T (O,()) j)) λs8 _ Y=>CND (s8.1 !=18446744073709551615) ((0:Int)<=6/\q0 (EA .u64 2 18446744073709551615 s8.1) (λv J=>JB (i64 ((i64 (s2.1*2^(min (Int.toNat 6) (IntKind.bits .i64))))+v):Int) λt13=>K t13 J) Y) (a (i64 (s2.1+1),()) Y)) ((0:Int)<=6/\JB (LI a1 (i64 (((a0.len:Nat):Int)*2^(min (Int.toNat 6) (IntKind.bits .i64)))):Int) λt14=>K t14 j)
def F.Ez:Y66:=T0.Ez E (F.BO E)
def F.Jg:u9:=λa0 a1 K w=>
 BK Unit (()) w λs1 _ j e=>(0:Int)<=6/\u5 a0 j λx5=>cD (((Int.fdiv a1 (2^(min (Int.toNat 6) (IntKind.bits .i64)))):Int)≥((x5.len:Nat):Int)) (u5 a0 j λx7=>AC ⟨[vU]⟩ E.AF j λb8 w9=>APP E.AF 1 8 #[vU] x7 (P5 b8) w9 λGM T=>NC a0 λv=>stCells v 0 [BP GM] T λY=>e (()) Y) (u5 a0 j.drew λa=>(0:Int)<=6/\NC a.base λJ=>Br (Int.fdiv a1 (2^(min (Int.toNat 6) (IntKind.bits .i64)))) a.len/\ ∃u:Int,j.drew.cell? (J.add (Int.toNat (Int.fdiv a1 (2^(min (Int.toNat 6) (IntKind.bits .i64))))*1))=some (iU u)/\(0:Int)<=(EA .i64 0 a1 63)/\NC a.base λO=>Br (Int.fdiv a1 (2^(min (Int.toNat 6) (IntKind.bits .i64)))) a.len/\stCells (O.add (Int.toNat (Int.fdiv a1 (2^(min (Int.toNat 6) (IntKind.bits .i64))))*1)) 0 [iU (EA .u64 1 u (u64 (1*2^(min (Int.toNat (EA .i64 0 a1 63)) (IntKind.bits .u64)))))] j.drew λaA=>K aA)
def T0.Di(E:Env)(q0:Y66)(q1:u9):u6:=λa0 K w=>
 rI a0 w 2 .i64 λx2=>CND (x2==0) (K 0 33 w) (rS a0 w.drew 11 λx4=>rI a0 w.drew 13 .i64 λx6=>q0 x4 x6 (λe T=>rI a0 T 6 .i64 λY=>cD (e≥Y) (K 0 30 T) (NC a0 λj=>q1 (some (j.add 11)) e (λa=>rI a0 a 7 .i64 λaA=>NC a0 λu=>stCells (u.add 7) 0 [iI (i64 (aA+1))] a λJ=>NC a0 λv=>stCells (v.add 13) 0 [iI (i64 (e+1))] J λO=>K e 0 O) T)) w.drew)
def F.Di:u6:=T0.Di E (F.Ez E) (F.Jg E)
def T0.Dy(E:Env)(q0:Y6)(Y:Y6)(q2:u7)(q3:Y44)(q4:u6)(q5:Wn):Y68:=λa0 a1 a2 K w=>
 Hb a0 w λx2=>q0 x2 (λr3 w4=>Y r3 (λr5 w6=>q2 a0 a1 a2 (λr7 w8=>q3 r5 r7 (λT j a=>CND (j !=0) (K 0 false a) (q4 T (λu v e=>CND (v !=0) (K 0 false e) (q5 T u (λJ aE O=>K J true O) e)) a)) w8) w6) w4) w
def F.Dy:Y68:=T0.Dy E (F.FE E) (F.HC E) (F.DS E) (F.Dp E) (F.Di E) (F.Cd E)
def F.Jh(E:Env):Qx:=λa0 a1 a2 K w=>
 False
def F.HQ:Kj:=λa0 a1 K w=>
 NC a0 λp1=> ∃x2,EW w (p1.add 2) x2/\BK (Int×Unit) (0,()) w λs3 _ J j=>cD (s3.1<((x2.len:Nat):Int)) (NC x2.base λp6=>Br s3.1 x2.len/\ ∃c7,AU J ((aD p6 s3.1 3).add 0) .u64 c7/\ ∃c8,AU J ((aD p6 s3.1 3).add 1) .u64 c8/\ ∃c9,AU J ((aD p6 s3.1 3).add 2) .i64 c9/\AC #[vU,vU,vI] E.BF J λa aB=>stCells (mA a) 0 [iU c7,iU c8,iI c9] aB λe=>At (Bool×Unit) (λv=> ∃O,AU e (mA a) .u64 O/\cD (a1≥O) (∃T,AU e ((mA a).add 1) .u64 T/\v (decide (a1<T),()) e) (v (false,()) e)) λM6 _ u=>CND M6.1 (∃Y,AU u ((mA a).add 2) .i64 Y/\K Y u) (j (i64 (s3.1+1),()) u)) (K 0 J)
def T0.FT(E:Env)(q0:Kj):Kj:=λa0 a1 K w=>
 8192≠(0:Int)/\NC a0 λp1=> ∃x2,Nv w (p1.add 3) x2/\512≠(0:Int)/\n9 .u64 (u64 (Int.tdiv (u64 (Int.tdiv a1 8192)) 512)) x2 w (vP) λJ u j=> ∃a:(Option Addr),J= .pointer a/\CND (!a.isNone) (512≠(0:Int)/\NC a λv=>Br (Int.tmod (u64 (Int.tdiv a1 8192)) 512) 512/\ ∃e:Int,w.cell? (v.add (Int.toNat (Int.tmod (u64 (Int.tdiv a1 8192)) 512)*1))=some (iI e)/\K e w) (512≠(0:Int)/\q0 a0 (u64 (Int.tdiv (u64 (Int.tdiv a1 8192)) 512)) K w)
def F.FT:Kj:=T0.FT E (F.HQ E)
def T0.ED(E:Env)(q0:Kj):Kj:=λa0 a1 K w=>
 rP a0 w 2 λx2=>q0 x2 a1 K w
def F.ED:Kj:=T0.ED E (F.FT E)
def F.Un(E:Env):SC:=λa0 a1 K w=>
 (0:Int)<=32/\JB (IntKind.wrap .u32 (Int.fdiv (u64 ((u64 a0)*(u64 a1))) (2^(min (Int.toNat 32) (IntKind.bits .u64)))):Int) λt1=>K t1 w
def T0.DK(E:Env)(q0:SC):Wn:=λa0 a1 K w=>
 At (Bool×Unit) (λY=>MX a0 w.drew .u64 λx5=>cD (a1<x5) (Y (true,()) w.drew) (MX a0 w.drew .u64 λx7=>rI a0 w.drew 6 .i64 λx9=>rI a0 w.drew 5 .i64 λJ=>Y (decide (((u64 (a1-x7)):Int)≥(u64 ((u64 x9)*(u64 J)))),()) w.drew)) λs2 _ a=>CND s2.1 (K 0 10 a) (MX a0 a .u64 λe=>rI a0 a 10 .u32 λO=>cD (O>0) (rI a0 a 10 .u32 λT=>q0 (IntKind.wrap .u32 (u64 (a1-e))) T (λu v=>K (i64 u) 0 v) a) (rI a0 a 5 .i64 λj=>(u64 j)≠(0:Int)/\JB (i64 (u64 (Int.tdiv (u64 (a1-e)) (u64 j))):Int) λt22=>K t22 0 a))
def F.DK:Wn:=T0.DK E (F.Un E)
def T0.Cv(E:Env)(q0:Kj)(q1:Y46)(q2:Wn)(q3:cE)(q4:Wn)(q5:lM):Y71:=λa0 a1 K w=>
 Hb a0 w λx2=>q0 x2 a1 (λr3 w4=>q1 a0 r3 (λu r6 w7=>CND (!r6) (K 0 0 false w7) (q2 u a1 (λr8 r9 e=>At (Bool×Unit) (λa=>CND (r9 !=0) (a (true,()) e) (q3 u r8 (λv T=>a (!v,()) T) e)) λFj _ j=>CND Fj.1 (K 0 0 false j) (q4 u r8 (λJ aI Y=>q5 u (λaJ aK aL aM aN O aO aP aQ aR aA=>K J (u64 O) true aA) Y) j)) w7)) w4) w
def F.Cv:Y71:=T0.Cv E (F.ED E) (F.Bv E) (F.DK E) (F.DC E) (F.Cd E) (F.Av E)
def F.LY(E:Env):Y6:=λa0 K w=>
 False
def T0.DD(q0:Y61):Kj:=λa0 a1 K w=>
 AC #[.pointer a0] E.ON w λb1 J=>AC #[iU a1] E.AF J λu e=> ∃j:(Option Addr),e.cell? (mA b1)=some (.pointer j)/\NC j λv=> ∃a:AY,e.cell? v=some (.slice a.base a.len a.cap)/\q0 ((a.len:Nat):Int) (.func (.func E.JC) #[] #[.pointer (sM b1),.pointer (sM u)]) K e
def F.DD:Kj:=T0.DD E (F.IE E)
def T0.Ay(E:Env)(q0:Kj):PU:=λa0 a1 a2 K w=>
 q0 a0 a1 (λr1 w2=>BK (Int×Int×Unit) (0,r1,()) w2 λs3 _ j u=>NC a0 λp6=> ∃Y:AY,j.cell? p6=some (.slice Y.base Y.len Y.cap)/\cD ((s3.2.1:Int)<((Y.len:Nat):Int)) (NC a0 λp8=> ∃x9:AY,j.cell? p8=some (.slice x9.base x9.len x9.cap)/\NC x9.base λaA=>((0:Int)<=s3.2.1/\(s3.2.1:Int)<(x9.len:Nat))/\ ∃J:Int,j.cell? (aD aA s3.2.1 2)=some (iU J)/\cD ((J:Int)<a2) (NC a0 λaB=> ∃a:AY,j.drew.cell? aB=some (.slice a.base a.len a.cap)/\NC a.base λaC=>((0:Int)<=s3.2.1/\(s3.2.1:Int)<(a.len:Nat))/\ ∃O:Int,j.drew.cell? ((aD aC s3.2.1 2).add 1)=some (iU O)/\NC a0 λaE=> ∃e:AY,j.drew.cell? aE=some (.slice e.base e.len e.cap)/\NC e.base λaF=>((0:Int)<=s3.2.1/\(s3.2.1:Int)<(e.len:Nat))/\ ∃T:Int,j.drew.cell? (aD aF s3.2.1 2)=some (iU T)/\JB (u64 (s3.1+(u64 ((PR O a2)-(LI T a1)))):Int) λv=>u (v,i64 (s3.2.1+1),()) j.drew) (K s3.1 j)) (K s3.1 j)) w
def F.Ay:PU:=T0.Ay E (F.DD E)
def F.Gi(E:Env):Y73:=λa0 a1 a2 K w=>
 ∃O:Array MapEntry,Qa w a0 O/\cD (((u64 (((O.size:Nat):Int))):Int)<(u64 (a2-a1))) (∃J,N3 w a0 J/\AL (Jz a0 J) w λb3 w4=>BK Unit (()) w4 λs5 _ w6 a=>At (Bool×Unit) (λJ8=>TZ b3 w6 (λaD=>J8 (false,()) aD) λaK aL aE=>J8 (true,()) aE) λs9 _ T=>At (Bool×Unit) (λaB=>CND s9.1 (aB (s9.1,()) T) (K T)) λZf _ j=>oA b3 j λaC aM aJ=>T7 .u64 aC λu=>At (Bool×Unit) (λv=>cD (u≥a1) (v (decide (u<a2),()) j) (v (false,()) j)) λUm _ Y=>CND Um.1 (MDEL .u64 u a0 Y λaF=>a (()) aF) (a (()) Y)) (BK (Int×Unit) (a1,()) w λNl _ aA e=>cD (Nl.1<a2) (MDEL .u64 Nl.1 a0 aA λaG=>e (u64 (Nl.1+1),()) aG) (K aA))
def F.EJ(E:Env):Y73:=λa0 a1 a2 K w=>
 ∃O:Array MapEntry,Qa w a0 O/\cD (((u64 (((O.size:Nat):Int))):Int)<(u64 (a2-a1))) (∃J,N3 w a0 J/\AL (Jz a0 J) w λb3 w4=>BK Unit (()) w4 λs5 _ w6 a=>At (Bool×Unit) (λJ8=>TZ b3 w6 (λaD=>J8 (false,()) aD) λaK aL aE=>J8 (true,()) aE) λs9 _ T=>At (Bool×Unit) (λaB=>CND s9.1 (aB (s9.1,()) T) (K T)) λZf _ j=>oA b3 j λaC aM aJ=>T7 .u64 aC λu=>At (Bool×Unit) (λv=>cD (u≥a1) (v (decide (u<a2),()) j) (v (false,()) j)) λUm _ Y=>CND Um.1 (MDEL .u64 u a0 Y λaF=>a (()) aF) (a (()) Y)) (BK (Int×Unit) (a1,()) w λNl _ aA e=>cD (Nl.1<a2) (MDEL .u64 Nl.1 a0 aA λaG=>e (u64 (Nl.1+1),()) aG) (K aA))
def F.MY(E:Env):PU:=λa0 a1 a2 K w=>
 False
def F.OR(E:Env):Y74:=λa0 a1 K w=>
 8≠(0:Int)/\CND (((Int.tmod a0 8):Int)==0) (8≠(0:Int)/\CND (((Int.tmod a1 8):Int)==0) (CND (a1 !=0) (cD (a1<=1099511627776) (cD (a0<=281474976710656) (K (decide (a1<=(u64 (281474976710656-a0)))) w) (K false w)) (K false w)) (K false w)) (K false w)) (K false w)
def T0.Fw(q0:Y61):Kj:=λa0 a1 K w=>
 AC #[.pointer a0] E.LU w λb1 u=>AC #[iU a1] E.AF u λj a=> ∃e,Da a (mA b1) e/\u5 e a λv=>q0 ((v.len:Nat):Int) (.func (.func E.LW) #[] #[.pointer (sM b1),.pointer (sM j)]) K a
def F.Fw:Kj:=T0.Fw E (F.IE E)
def T0.FH(q0:Kj):Y75:=λa0 a1 a2 a3 K w=>
 q0 a0 a1 (λr1 w2=>AC ⟨[]⟩ E.Co w2 λb3 w4=>u5 a0 w4 λx6=>((0:Int)<=r1/\r1<=(x6.cap:Nat))/\APP E.Co 4 40 #[vU,vU,vU,.nilIface] (Lr b3) ⟨(KE x6.base x6.cap 0 4),(Int.toNat r1),x6.cap⟩ w4 λs7 w8=>At (Int×AY×AY×Unit) (λJ9=>BK (Int×AY×AY×Unit) (r1,s7,⟨none,0,0⟩,()) w8 λFj _ a u=>u5 a0 a λbM=>cD (Fj.1<((bM.len:Nat):Int)) (u5 a0 a λaQ=>NC aQ.base λa6=>Br Fj.1 aQ.len/\ ∃aR,AU a (aD a6 Fj.1 4) .u64 aR/\cD (aR<a2) (u5 a0 a λaS=>NC aS.base λO=>Br Fj.1 aS.len/\ ∃aI,AU a ((aD O Fj.1 4).add 0) .u64 aI/\ ∃aJ,AU a ((aD O Fj.1 4).add 1) .u64 aJ/\ ∃aK,AU a ((aD O Fj.1 4).add 2) .u64 aK/\ ∃aL:Value,a.cell? ((aD O Fj.1 4).add 3)=some aL/\AC #[vU,vU,vU,.nilIface] E.Co a λe bD=>stCells (mA e) 0 [iU aI,iU aJ,iU aK,aL] bD λv=>At (AY×Unit) (λaG=> ∃aT,AU v (mA e) .u64 aT/\cD (aT<a1) (∃aB,AU v (mA e) .u64 aB/\ ∃aC,AU v ((mA e).add 2) .u64 aC/\ ∃T:Value,v.cell? ((mA e).add 3)=some T/\Pn (Value.cells T).toList.length 1 (Pn (fillL [iU aB,iU a1,iU aC,.nilIface] 3 (Value.cells T).toList).length 4 (AC ⟨fillL [vU,vU,vU,.nilIface] 0 (fillL [iU aB,iU a1,iU aC,.nilIface] 3 (Value.cells T).toList)⟩ E.Co v λaX bE=>APP E.Co 4 40 #[vU,vU,vU,.nilIface] Fj.2.1 (P5 aX) bE λa8 bF=>aG (a8,()) bF))) (aG (Fj.2.1,()) v)) λcG _ J=> ∃aU,AU J ((mA e).add 1) .u64 aU/\cD (aU>a2) (∃aE,AU J ((mA e).add 1) .u64 aE/\ ∃aF,AU J ((mA e).add 2) .u64 aF/\ ∃Y:Value,J.cell? ((mA e).add 3)=some Y/\Pn (Value.cells Y).toList.length 1 (Pn (fillL [iU a2,iU aE,iU aF,.nilIface] 3 (Value.cells Y).toList).length 4 (AC ⟨fillL [vU,vU,vU,.nilIface] 0 (fillL [iU a2,iU aE,iU aF,.nilIface] 3 (Value.cells Y).toList)⟩ E.Co J λaY bG=>APP E.Co 4 40 #[vU,vU,vU,.nilIface] Fj.2.2.1 (P5 aY) bG λs48 bH=>u (i64 (Fj.1+1),cG.1,s48,()) bH))) (u (i64 (Fj.1+1),cG.1,Fj.2.2.1,()) J)) (J9 (Fj.1,Fj.2.1,Fj.2.2.1,()) a)) (J9 (Fj.1,Fj.2.1,Fj.2.2.1,()) a)) λGM _ bC=>At (AY×Unit) (λaH=>TAS a3 E.Kz (.agg ⟨[]⟩) λbB aZ=>unVT (.agg []) bB λbS=>AC #[] E.Kz bC λa4 bI=>stCells (mA a4) 0 [] bI λaN=>CND (!aZ) (Pn (Value.cells a3).toList.length 1 (Pn (fillL [iU a1,iU a2,iU a1,.nilIface] 3 (Value.cells a3).toList).length 4 (AC ⟨fillL [vU,vU,vU,.nilIface] 0 (fillL [iU a1,iU a2,iU a1,.nilIface] 3 (Value.cells a3).toList)⟩ E.Co aN λa5 bJ=>APP E.Co 4 40 #[vU,vU,vU,.nilIface] GM.2.1 (P5 a5) bJ λs61 bK=>aH (s61,()) bK))) (aH (GM.2.1,()) aN)) λQW _ aM=>NC a0 λaA=> ∃j,EW aM.drew aA j/\((0:Int)<=GM.1/\GM.1<=(j.len:Nat))/\APP E.Co 4 40 #[vU,vU,vU,.nilIface] QW.1 GM.2.2.1 aM.drew λa9 aO=>aO.cell? aA=some (BP j)/\APP E.Co 4 40 #[vU,vU,vU,.nilIface] a9 ⟨(KE j.base j.cap (Int.toNat GM.1) 4),(j.len-(Int.toNat GM.1)),(j.cap-(Int.toNat GM.1))⟩ aO λbA aP=>aP.cell? aA=some (BP j)/\NC a0 λa7=>stCells a7 0 [BP bA] aP λbL=>K bL) w
def F.FH:Y75:=T0.FH E (F.Fw E)
def T0.De(q0:Y74)(e:Y75):PU:=λa0 a1 a2 K w=>
 q0 a1 a2 (λr1 a=>CND (!r1) (K 1 a) (8≠(0:Int)/\8≠(0:Int)/\e a0 (u64 (Int.tdiv a1 8)) (u64 (Int.tdiv (u64 (a1+a2)) 8)) (.iface E.Kz (.agg ⟨[]⟩)) (λj=>K 0 j) a)) w
def F.De:PU:=T0.De E (F.OR E) (F.FH E)
def F.Ji(E:Env):Y76:=λa0 a1 a2 a e j K w=>
 False
def T0.Bo(q0:Y71)(q1:Y6)(q2:PU)(q3:PU)(q4:Y76):Y77:=λa0 aC aD aE aF aG aH aI aJ aK aL aM aN aO aP a3 K w=>
 AC #[iI aC,iI aD,iU aE,iU aF,iI aG,iU aH,.bool aI,iI aJ,BP aK,BP aL] E.BN w λb1 w2=>AC #[iI aM,.bool aN,.bool aO,iU aP] E.Bt w2 λb3 w4=>AC #[vU,vU,vI] E.CT w4 λb5 w6=>rI a0 w6 10 .u64 λx8=>NC a0 λp9=>stCells (p9.add 10) 0 [iU (u64 (x8+1))] w6 λa2=>q0 a0 a3 (λbI e bJ j=>At Unit (λY=>At (Bool×Unit) (λaA=> ∃aW,FC j ((mA b1).add 6) aW/\CND aW (aA (true,()) j) (∃aX,FC j ((mA b3).add 2) aX/\aA (aX,()) j)) λJR _ J=>CND JR.1 (Hb a0 J λa8=>q1 a8 (λa1 a4=>q2 a1 a3 e (λbK a5=>Y (()) a5) a4) J) (Y (()) J)) λZf _ a=>At Unit (λaB=> ∃aY,FC a ((mA b3).add 1) aY/\CND aY (rP a0 a 7 λa9=>q3 a9 a3 e (λbL a7=>aB (()) a7) a) (rP a0 a.drew 7 λbA=> ∃aR,AU a.drew (((mA b1).add 7).add 0) .i64 aR/\ ∃aS,EW a.drew (((mA b1).add 7).add 1) aS/\ ∃T,AU a.drew ((mA b1).add 2) .u64 T/\ ∃v,AU a.drew ((mA b1).add 7) .i64 v/\(u64 (8*(u64 v)))≠(0:Int)/\q4 bA a3 e aR aS (u64 (Int.tdiv T (u64 (8*(u64 v))))) (λbM O=>O.cell? ((mA b1).add 7)=some (iI v)/\O.cell? ((mA b1).add 2)=some (iU T)/\aB (()) O) a.drew)) λoE _ a6=>stCells (mA b5) 0 [iU a3,iU e,vI] a6 λu=> ∃aT,AU u ((mA b5).add 0) .u64 aT/\ ∃aU,AU u ((mA b5).add 1) .u64 aU/\ ∃aV,AU u ((mA b5).add 2) .i64 aV/\K aT aU aV u) a2
def F.Bo:Y77:=T0.Bo E (F.Cv E) (F.LY E) (F.MY E) (F.De E) (F.Ji E)
def T0.BB(q0:Y44)(q1:lM):Y78:=λa0 a1 K w=>
 AC #[vU,vI,vI,vI,.bool false,vI,vI,vI,.bool false,.bool false] E.BD w λb1 w2=>Hb a0 w2 λx4=>q0 x4 a1 (λr5 r6 w7=>CND (r6 !=0) (stCells (mA b1) 0 [vU,vI,vI,vI,.bool false,vI,vI,vI,.bool false,.bool false] w7 λv=> ∃c9,AU v ((mA b1).add 0) .u64 c9/\ ∃J,AU v ((mA b1).add 1) .i64 J/\ ∃O,AU v ((mA b1).add 2) .i64 O/\ ∃T,AU v ((mA b1).add 3) .i64 T/\ ∃Y,FC v ((mA b1).add 4) Y/\ ∃aA,AU v ((mA b1).add 5) .i64 aA/\ ∃aB,AU v ((mA b1).add 6) .i64 aB/\ ∃aC,AU v ((mA b1).add 7) .i64 aC/\ ∃aD,FC v ((mA b1).add 8) aD/\ ∃aE,FC v ((mA b1).add 9) aE/\K none c9 J O T Y aA aB aC aD aE r6 v) (q1 r5 (λbC bD bE bF bG bH bI bJ bK bL bM=>AC #[vU,vI,vI,vI,.bool false,vI,vI,vI,.bool false,.bool false] E.BD bM λe bN=>stCells (mA e) 0 [iU bC,iI bD,iI bE,iI bF,.bool bG,iI bH,iI bI,iI bJ,.bool bK,.bool bL] bN λa=> ∃bB,AU a ((mA e).add 2) .i64 bB/\CND (bB !=1) (stCells (mA b1) 0 [vU,vI,vI,vI,.bool false,vI,vI,vI,.bool false,.bool false] a λj=> ∃aF,AU j ((mA b1).add 0) .u64 aF/\ ∃aG,AU j ((mA b1).add 1) .i64 aG/\ ∃aH,AU j ((mA b1).add 2) .i64 aH/\ ∃aI,AU j ((mA b1).add 3) .i64 aI/\ ∃aJ,FC j ((mA b1).add 4) aJ/\ ∃aK,AU j ((mA b1).add 5) .i64 aK/\ ∃aL,AU j ((mA b1).add 6) .i64 aL/\ ∃aM,AU j ((mA b1).add 7) .i64 aM/\ ∃aN,FC j ((mA b1).add 8) aN/\ ∃aO,FC j ((mA b1).add 9) aO/\K none aF aG aH aI aJ aK aL aM aN aO 33 j) (∃aP,AU a.drew ((mA e).add 0) .u64 aP/\ ∃aQ,AU a.drew ((mA e).add 1) .i64 aQ/\ ∃aR,AU a.drew ((mA e).add 2) .i64 aR/\ ∃aS,AU a.drew ((mA e).add 3) .i64 aS/\ ∃aT,FC a.drew ((mA e).add 4) aT/\ ∃aU,AU a.drew ((mA e).add 5) .i64 aU/\ ∃aV,AU a.drew ((mA e).add 6) .i64 aV/\ ∃aW,AU a.drew ((mA e).add 7) .i64 aW/\ ∃aX,FC a.drew ((mA e).add 8) aX/\ ∃aY,FC a.drew ((mA e).add 9) aY/\stCells (mA b1) 0 [iU aP,iI aQ,iI aR,iI aS,.bool aT,iI aU,iI aV,iI aW,.bool aX,.bool aY] a.drew λu=> ∃aZ,AU u ((mA b1).add 0) .u64 aZ/\ ∃a2,AU u ((mA b1).add 1) .i64 a2/\ ∃a3,AU u ((mA b1).add 2) .i64 a3/\ ∃a4,AU u ((mA b1).add 3) .i64 a4/\ ∃a5,FC u ((mA b1).add 4) a5/\ ∃a6,AU u ((mA b1).add 5) .i64 a6/\ ∃a7,AU u ((mA b1).add 6) .i64 a7/\ ∃a8,AU u ((mA b1).add 7) .i64 a8/\ ∃a9,FC u ((mA b1).add 8) a9/\ ∃bA,FC u ((mA b1).add 9) bA/\K r5 aZ a2 a3 a4 a5 a6 a7 a8 a9 bA 0 u)) w7)) w2
def F.BB:Y78:=T0.BB E (F.Dp E) (F.Av E)
def T0.Ds(q0:Y61):Y79:=λa0 v J O T a2 K w=>
 AC #[iI v,.bool J,.bool O,.bool T] E.JQ w λb1 w2=>AC #[iU a2] E.AF w2 λb3 u=>NC a0 λp5=> ∃x6,Nv u.drew (p5.add 2) x6/\ ∃c7,AU u.drew ((mA b1).add 0) .i64 c7/\ ∃c8,FC u.drew ((mA b1).add 1) c8/\ ∃c9,FC u.drew ((mA b1).add 2) c9/\ ∃j,FC u.drew ((mA b1).add 3) j/\LKA [iI c7,.bool c8,.bool c9,.bool j] x6 u.drew (vS) λv11 aG Y=> ∃aB:AY,v11=BP aB/\AC #[vS] E.OO u.drew λe a=>G5.obj x6 Y a/\(a.cell? ((mA b1).add 0)=some (iI c7)/\(a.cell? ((mA b1).add 1)=some (.bool c8)/\(a.cell? ((mA b1).add 2)=some (.bool c9)/\(a.cell? ((mA b1).add 3)=some (.bool j)/\True))))/\a.cell? (p5.add 2)=some (.map x6)/\stCells (mA e) 0 [BP aB] a λaA=> ∃aC,EW aA (mA e) aC/\q0 ((aC.len:Nat):Int) (.func (.func E.Il) #[] #[.pointer (sM e),.pointer (sM b3)]) K aA
def F.Ds:Y79:=T0.Ds E (F.IE E)
def T0.Fe(q0:Y79):Y80:=λa0 a1 a2 a3 a4 a5 a6 K w=>
 At (Bool×Unit) (λJ1=>cD (a1<1) (J1 (true,()) w) (cD (a3<0) (J1 (true,()) w) (J1 (decide (a3≥68),()) w))) λs2 _ w3=>CND s2.1 (K 1 w3) (At (Bool×Unit) (λJ4=>NC a0 λp7=> ∃x8,Nv w3 p7 x8/\n9 .i64 a1 x8 w3 (vP) λv9 bM bK=> ∃aS:(Option Addr),v9= .pointer aS/\CND (!aS.isNone) (J4 (true,()) w3) (NC a0 λa7=> ∃aT,Nv w3 (a7.add 1) aT/\n9 .u64 a2 aT w3 (vP) λbC bN bL=> ∃aU:(Option Addr),bC= .pointer aU/\J4 (!aU.isNone,()) w3)) λs5 _ w6=>CND s5.1 (K 34 w6) (AC #[iI a1,iU a2,iI a3,.bool a4,.bool a5,.bool a6] E.Hv w6 λa aF=>NC a0 λa8=> ∃aH,Nv aF.drew a8 aH/\NC a0 λa9=> ∃aI,Nv aF.drew (a9.add 1) aI/\vK .i64 a1 (vP) aH aF.drew λbW Nl bE=>vL Nl (.pointer (sM a)) aH bE λbF=>vK .u64 a2 (vP) aI bF λbX oE bG=>vL oE (.pointer (sM a)) aI bG λO=> ∃aJ,AU O (((mA a).add 2).add 0) .i64 aJ/\ ∃aK,FC O (((mA a).add 2).add 1) aK/\ ∃aL,FC O (((mA a).add 2).add 2) aL/\ ∃aM,FC O (((mA a).add 2).add 3) aM/\q0 a0 aJ aK aL aM a2 (λe j=>NC a0 λaE=> ∃T,Nv j.drew (aE.add 2) T/\ ∃Y,AU j.drew (((mA a).add 2).add 0) .i64 Y/\ ∃aA,FC j.drew (((mA a).add 2).add 1) aA/\ ∃aB,FC j.drew (((mA a).add 2).add 2) aB/\ ∃aC,FC j.drew (((mA a).add 2).add 3) aC/\LKA [iI Y,.bool aA,.bool aB,.bool aC] T j.drew (vS) λbD bO aR=> ∃aV:AY,bD=BP aV/\AC ⟨[vP]⟩ E.DP j.drew λaZ u=>G5.obj T aR u/\(u.cell? (((mA a).add 2).add 0)=some (iI Y)/\(u.cell? (((mA a).add 2).add 1)=some (.bool aA)/\(u.cell? (((mA a).add 2).add 2)=some (.bool aB)/\(u.cell? (((mA a).add 2).add 3)=some (.bool aC)/\True))))/\u.cell? (aE.add 2)=some (.map T)/\APP E.DP 1 8 #[vP] aV (P5 aZ) u λQW v=>(v.cell? (((mA a).add 2).add 0)=some (iI Y)/\(v.cell? (((mA a).add 2).add 1)=some (.bool aA)/\(v.cell? (((mA a).add 2).add 2)=some (.bool aB)/\(v.cell? (((mA a).add 2).add 3)=some (.bool aC)/\True))))/\v.cell? (aE.add 2)=some (.map T)/\((0:Int)<=(i64 (e+1))/\((i64 (e+1)):Int)<=(QW.len:Nat))/\((0:Int)<=e/\e<=(QW.len:Nat))/\CPY 1 ⟨(KE QW.base QW.cap (Int.toNat (i64 (e+1))) 1),(QW.len-(Int.toNat (i64 (e+1)))),(QW.cap-(Int.toNat (i64 (e+1))))⟩ ⟨(KE QW.base QW.cap (Int.toNat e) 1),(QW.len-(Int.toNat e)),(QW.cap-(Int.toNat e))⟩ v.drew λbU bH=>NC QW.base λbA=>Br e QW.len/\stCells (aD bA e 1) 0 [.pointer (sM a)] bH λJ=>NC a0 λbB=> ∃aW,Nv J.drew (bB.add 2) aW/\ ∃aN,AU J.drew (((mA a).add 2).add 0) .i64 aN/\ ∃aO,FC J.drew (((mA a).add 2).add 1) aO/\ ∃aP,FC J.drew (((mA a).add 2).add 2) aP/\ ∃aQ,FC J.drew (((mA a).add 2).add 3) aQ/\cO [iI aN,.bool aO,.bool aP,.bool aQ] (BP QW) aW J.drew λbI=>K 0 bI) O))
def F.Fe:Y80:=T0.Fe E (F.Ds E)
def T0.BC(q0:Y78)(q1:Y80):u7:=λa0 a1 a2 K w=>
 q0 a0 a1 (λr1 r2 r3 r4 r5 r6 r7 r8 r9 aA aB J aD=>AC #[vU,vI,vI,vI,.bool false,vI,vI,vI,.bool false,.bool false] E.BD aD λa aE=>stCells (mA a) 0 [iU r2,iI r3,iI r4,iI r5,.bool r6,iI r7,iI r8,iI r9,.bool aA,.bool aB] aE λe=>CND (J !=0) (K J e) (rP a0 e.drew 1 λaF=> ∃O,AU e.drew (mA a) .u64 O/\ ∃T,AU e.drew ((mA a).add 3) .i64 T/\ ∃Y,FC e.drew ((mA a).add 4) Y/\ ∃u,AU e.drew ((mA a).add 7) .i64 u/\ ∃v,AU e.drew ((mA a).add 6) .i64 v/\q1 aF a1 O T Y (u==v) a2 (λaC j=>j.cell? ((mA a).add 6)=some (iI v)/\j.cell? ((mA a).add 7)=some (iI u)/\K aC j) e.drew)) w
def F.BC:u7:=T0.BC E (F.BB E) (F.Fe E)
def T0.CV(E:Env)(q0:u7):Kj:=λa0 a1 K w=>
 Hb a0 w λx2=>q0 x2 a1 true K w
def F.CV:Kj:=T0.CV E (F.BC E)
def T0.Cr(E:Env)(q0:Y64):Y81:=λa0 a1 a2 e K w=>
 NC a0 λp1=>Br a1 68/\q0 a2 (λa j=>Br a 2/\stCells (((p1.add 2).add (Int.toNat a1*2)).add (Int.toNat a*1)) 0 [iI e] j λu=>K u) w.drew
def F.Cr:Y81:=T0.Cr E (F.LX E)
def T0.Bj(E:Env)(q0:u7)(e:Kj)(j:Y81):Y82:=λa0 a1 a2 K w=>
 q0 a0 a1 a2 (λr1 a=>cD (r1>0) (Hb a0 a λv=>e v r1 (λJ u=>j a0 a1 a2 0 K u) a) (K a)) w
def F.Bj:Y82:=T0.Bj E (F.DS E) (F.CV E) (F.Cr E)
def F.JG:Y83:=λa e j u K w=>
 AC #[iI a,.bool e,.bool j,iU u] E.Bt w λb1 v=> ∃J,AU v ((mA b1).add 3) .u64 J/\K (u64 (J*8192)) v
def F.GF(E:Env):Y84:=λa0 a1 a2 K w=>
 cV a0 a1 a2 λx y=>K x y w
def T0.CW(E:Env)(q0:Y84):u9:=λa0 a1 K w=>
 rI a0 w 6 .u64 λx2=>q0 x2 a1 0 (λv J j=>At (Int×Unit) (λe=>cD (J>0) (e (18446744073709551615,()) j) (e (v,()) j)) λs7 _ O=>NC a0 λu=>stCells (u.add 6) 0 [iU s7.1] O λa=>K a) w
def F.CW:u9:=T0.CW E (F.GF E)
def T0.Ep(q0:vW)(q1:Y63)(q2:Y30)(q3:oD)(q4:Y68)(q5:Qx)(q6:Y77)(q7:Y82)(q8:Y83)(q9:u9):Vy:=λa0 a1 K w=>
 q0 a0 a1 (λr1 r2 r3 r4 r5 r6 r7 r8 r9 b3 cF=>AC #[vI,vI,vU,vU,vI,vU,.bool false,vI,vS,vS] E.BN cF λa cG=>stCells (mA a) 0 [iI r1,iI r2,iU r3,iU r4,iI r5,iU r6,.bool r7,iI r8,BP r9,BP b3] cG λu=> ∃aO,AU u ((mA a).add 0) .i64 aO/\ ∃aP,AU u ((mA a).add 1) .i64 aP/\ ∃aQ,AU u ((mA a).add 2) .u64 aQ/\ ∃aR,AU u ((mA a).add 3) .u64 aR/\ ∃aS,AU u ((mA a).add 4) .i64 aS/\ ∃aT,AU u ((mA a).add 5) .u64 aT/\ ∃aU,FC u ((mA a).add 6) aU/\ ∃aV,AU u ((mA a).add 7) .i64 aV/\ ∃aW,EW u ((mA a).add 8) aW/\ ∃aX,EW u ((mA a).add 9) aX/\q1 aO aP aQ aR aS aT aU aV aW aX (λb4 b5 b6 b7 bL cH=>AC #[vI,.bool false,.bool false,vU] E.Bt cH λe cI=>stCells (mA e) 0 [iI b4,.bool b5,.bool b6,iU b7] cI λT=>CND (bL !=0) (q2 a0 a1 0 0 bL K T) (∃aY,AU T ((mA e).add 0) .i64 aY/\ ∃aZ,FC T ((mA e).add 1) aZ/\ ∃a2,FC T ((mA e).add 2) a2/\ ∃a3,AU T ((mA e).add 3) .u64 a3/\NC a1 λb0=>stCells (b0.add 4) 0 [iI aY,.bool aZ,.bool a2,iU a3] T λv=>Hb a0 v.drew λcM=>rS cM v.drew 4 λbP=>MX a1 v.drew .i64 λbQ=>NC bP.base λb1=>Br bQ bP.len/\ ∃aC,Da v.drew (aD b1 bQ 1) aC/\At Unit (λaL=> ∃bR,FC v.drew ((mA e).add 2) bR/\CND bR (∃bS,AU v.drew ((mA a).add 2) .u64 bS/\q3 aC (i64 bS) (λb8 b9 bO=>CND b9 (q2 a0 a1 b8 16 0 K bO) (aL (()) bO)) v.drew) (aL (()) v.drew)) λwD _ aA=>At Unit (λaM=> ∃bT,AU aA (mA e) .i64 bT/\cD (bT>0) (∃bU,AU aA (mA e) .i64 bU/\ ∃bV,FC aA ((mA e).add 1) bV/\q4 aC bU bV (λbM cA O=>CND cA (At Unit (λaN=> ∃bW,FC O ((mA e).add 2) bW/\CND bW (∃bX,AU O ((mA a).add 2) .u64 bX/\q5 aC bM (i64 bX) (λcJ=>aN (()) cJ) O) (aN (()) O)) λlP _ j=>Hb a0 j.drew λcN=> ∃a4,AU j.drew ((mA a).add 0) .i64 a4/\ ∃a5,AU j.drew ((mA a).add 1) .i64 a5/\ ∃a6,AU j.drew ((mA a).add 2) .u64 a6/\ ∃a7,AU j.drew ((mA a).add 3) .u64 a7/\ ∃a8,AU j.drew ((mA a).add 4) .i64 a8/\ ∃a9,AU j.drew ((mA a).add 5) .u64 a9/\ ∃bA,FC j.drew ((mA a).add 6) bA/\ ∃bB,AU j.drew ((mA a).add 7) .i64 bB/\ ∃bC,EW j.drew ((mA a).add 8) bC/\ ∃bD,EW j.drew ((mA a).add 9) bD/\ ∃bE,AU j.drew ((mA e).add 0) .i64 bE/\ ∃bF,FC j.drew ((mA e).add 1) bF/\ ∃bG,FC j.drew ((mA e).add 2) bG/\ ∃bH,AU j.drew ((mA e).add 3) .u64 bH/\q6 cN a4 a5 a6 a7 a8 a9 bA bB bC bD bE bF bG bH bM (λcB cC cE cK=>q2 a0 a1 cB cC cE K cK) j.drew) (∃bY,AU O (mA e) .i64 bY/\ ∃bZ,FC O ((mA e).add 1) bZ/\q7 aC bY bZ (λcL=>aM (()) cL) O)) aA) (aM (()) aA)) λs59 _ J=>NC a0 λaK=> ∃aE,Da J.drew aK aE/\NC aE λbJ=> ∃aB,Da J.drew (bJ.add 3) aB/\ ∃aF,AU J.drew ((mA e).add 0) .i64 aF/\ ∃aG,FC J.drew ((mA e).add 1) aG/\ ∃aH,FC J.drew ((mA e).add 2) aH/\ ∃aI,AU J.drew ((mA e).add 3) .u64 aI/\q8 aF aG aH aI (λbK Y=>Y.cell? (bJ.add 3)=some (.pointer aB)/\Y.cell? aK=some (.pointer aE)/\q9 aB bK (λaJ=>aJ.cell? aK=some (.pointer aE)/\NC a1 λbI=>stCells (bI.add 2) 0 [iI 2] aJ λbN=>K bN) Y) J.drew)) u) w
def F.Ep:Vy:=T0.Ep E (F.En E) (F.GO E) (F.Cp E) (F.Jf E) (F.Dy E) (F.Jh E) (F.Bo E) (F.Bj E) (F.JG E) (F.CW E)
def T0.DE(E:Env)(q0:SC):OM:=λa0 K w=>
 rI a0 w.drew 6 .u64 λx2=>rI a0 w.drew 5 .u64 λu=>q0 x2 u (λj a=>rI a0 a 7 .u64 λv=>cD (j<v) (K 0 a) (rI a0 a 7 .u64 λe=>K (u64 (j-e)) a)) w.drew
def F.DE:OM:=T0.DE E (F.Dw E)
def T0.DT(q0:Y79):Kj:=λa0 a1 K w=>
 NC a0 λp1=> ∃x2,Nv w p1 x2/\n9 .i64 a1 x2 w (vP) λv3 a3 a2=> ∃x6:(Option Addr),v3= .pointer x6/\CND (x6.isNone) (K 35 w) (NC a0 λp7=> ∃x8,Nv w p7 x8/\MDEL .i64 a1 x8 w λw9=>NC a0 λaQ=> ∃aO,Nv w9.drew (aQ.add 1) aO/\rI x6 w9.drew 1 .u64 λaV=>MDEL .u64 aV aO w9.drew λv=>NC x6 λO=> ∃aF,AU v.drew ((O.add 2).add 0) .i64 aF/\ ∃aG,FC v.drew ((O.add 2).add 1) aG/\ ∃aH,FC v.drew ((O.add 2).add 2) aH/\ ∃aI,FC v.drew ((O.add 2).add 3) aI/\rI x6 v.drew 1 .u64 λaW=>q0 a0 aF aG aH aI aW (λu a=>NC a0 λaR=> ∃aP,Nv a.drew (aR.add 2) aP/\NC x6 λT=> ∃aJ,AU a.drew ((T.add 2).add 0) .i64 aJ/\ ∃aK,FC a.drew ((T.add 2).add 1) aK/\ ∃aL,FC a.drew ((T.add 2).add 2) aL/\ ∃aM,FC a.drew ((T.add 2).add 3) aM/\LKA [iI aJ,.bool aK,.bool aL,.bool aM] aP a.drew (vS) λaS aY aX=> ∃e:AY,aS=BP e/\NC a0 λaN=> ∃aD,Nv a.drew.drew (aN.add 2) aD/\NC x6 λj=> ∃Y,AU a.drew.drew ((j.add 2).add 0) .i64 Y/\ ∃aA,FC a.drew.drew ((j.add 2).add 1) aA/\ ∃aB,FC a.drew.drew ((j.add 2).add 2) aB/\ ∃aC,FC a.drew.drew ((j.add 2).add 3) aC/\((0:Int)<=u/\u<=(e.cap:Nat))/\((0:Int)<=(i64 (u+1))/\((i64 (u+1)):Int)<=(e.len:Nat))/\APP E.DP 1 8 #[vP] ⟨(KE e.base e.cap 0 1),(Int.toNat u),e.cap⟩ ⟨(KE e.base e.cap (Int.toNat (i64 (u+1))) 1),(e.len-(Int.toNat (i64 (u+1)))),(e.cap-(Int.toNat (i64 (u+1))))⟩ a.drew.drew λoG J=>(J.cell? ((j.add 2).add 0)=some (iI Y)/\(J.cell? ((j.add 2).add 1)=some (.bool aA)/\(J.cell? ((j.add 2).add 2)=some (.bool aB)/\(J.cell? ((j.add 2).add 3)=some (.bool aC)/\True))))/\J.cell? (aN.add 2)=some (.map aD)/\cO [iI Y,.bool aA,.bool aB,.bool aC] (BP oG) aD J λaT=>K 0 aT) v.drew)
def F.DT:Kj:=T0.DT E (F.Ds E)
def T0.By(E:Env)(q0:lL)(u:Kj):lL:=λa0 K w=>
 rP a0 w 1 λx2=>q0 x2 (λa e j=>CND e (rP a0 j 1 λJ=>u J a (λO v=>K a e v) j) (K a e j)) w
def F.By:lL:=T0.By E (F.GD E) (F.DT E)
def F.IF(E:Env):Y85:=λa0 a1 a2 j K w=>
 NC a1 λp1=>stCells (p1.add 3) 0 [iI a2] w λa=>Hb a0 a λT=>NC T λu=> ∃e,Nv a (u.add 6) e/\KT .i64 a2 (.agg ⟨[]⟩) e a λJ=>NC a1 λv=>stCells (v.add 2) 0 [iI j] J λO=>K O
def T0.EE(E:Env)(q0:OM)(q1:lL)(q2:Y85):Vy:=λa0 a1 K w=>
 At Unit (λJ1=>Hb a0 w λx5=>rP x5 w 3 λx7=>q0 x7 (λr8 j=>cD (r8>0) (Hb a0 j λY=>rP Y j 3 λaA=>q1 aA (λJ O e=>CND O (q2 a0 a1 J 3 K e) (J1 (()) e)) j) (J1 (()) j)) w) λs2 _ w3=>NC a1 λu=>stCells (u.add 2) 0 [iI 4] w3 λa=>rI a1 a 4 .i64 λaB=>CND (aB==0) (NC a1 λv=>stCells (v.add 2) 0 [iI 6] a λT=>K T) (K a)
def F.EE:Vy:=T0.EE E (F.DE E) (F.By E) (F.IF E)
def F.Gs(E:Env):Tr:=λa0 K w=>
 rS a0 w 12 λx2=>BK (Int×Unit) (0,()) w λs3 _ e a=>cD (s3.1<((x2.len:Nat):Int)) (NC x2.base λp6=>Br s3.1 x2.len/\ ∃T,AU e (aD p6 s3.1 1) .u64 T/\At (Int×Unit) (λY=>rS a0 e 11 λO=>cD (s3.1<((O.len:Nat):Int)) (rS a0 e 11 λu=>NC u.base λJ=>Br s3.1 u.len/\ ∃v,AU e (aD J s3.1 1) .u64 v/\Y (EA .u64 3 T v,()) e) (Y (T,()) e)) λs9 _ j=>CND (s9.1 !=0) (K true j) (a (i64 (s3.1+1),()) j)) (K false e)
def F.Dc(E:Env):Y86:=λa0 a1 a2 K w=>
 NC a0 λp1=>BK ((Option Addr)×Unit) ((some p1),()) w λs2 _ a e=>At Unit (λJ5=>Hb s2.1 a λx9=>CND (!x9.isNone) (Hb s2.1 a λu=>MX u a .u64 λv=>cD (v<a1) (J5 (()) a) (Hb s2.1 a λJ=>MX J a .u64 λO=>CND (O==a1) (Hb s2.1 a λT=>rI T a 1 .i64 λY=>cD (Y<a2) (J5 (()) a) (K s2.1 a)) (K s2.1 a))) (K s2.1 a)) λs6 _ w7=>Hb s2.1 w7 λaA=>NC aA λj=>e ((some (j.add 3)),()) w7
def T0.BT(q0:Y86):pQ:=λa0 a1 a2 K w=>
 q0 a0 a1 0 (λr1 w2=>Hb r1 w2 λx4=>BK (AY×(Option Addr)×Unit) (⟨none,0,0⟩,x4,()) w2 λs5 _ j a=>CND (!s5.2.1.isNone) (MX s5.2.1 j .u64 λx9=>cD (x9<a2) (NC s5.2.1 λe=> ∃u,AU j (e.add 0) .u64 u/\ ∃v,AU j (e.add 1) .i64 v/\ ∃J,AU j (e.add 2) .u64 J/\AC ⟨[iU u,iI v,iU J]⟩ E.Am j λT Y=>APP E.Am 3 24 #[vU,vI,vU] s5.1 (P5 T) Y λZf O=>rP s5.2.1 O 3 λaA=>a (Zf,aA,()) O) (K s5.1 j)) (K s5.1 j)) w
def F.BT:pQ:=T0.BT E (F.Dc E)
def T0.Dz(E:Env)(q0:cE)(e:Y53):cE:=λa0 a1 K w=>
 q0 a0 a1 (λr1 a=>CND r1 (rS a0 a 12 λj=>e j a1 K a) (K false a)) w
def F.Dz:cE:=T0.Dz E (F.ES E) (F.Is E)
def F.NN(E:Env):Y88:=λa0 a1 a2 K w=>
 Hb a0 w λx2=>CND (!x2.isNone) (Hb a0 w λe=>MX e w .u64 λj=>CND (j==a1) (Hb a0 w λu=>rI u w 1 .i64 λa=>K (a==a2) w) (K false w)) (K false w)
def T0.BY(E:Env)(q0:Y86)(Y:Y88):cF:=λa0 a1 a2 K w=>
 q0 a0 a1 a2 (λr1 w2=>Y r1 a1 a2 (λr3 j=>CND (!r3) (K 0 35 j) (Hb r1 j λO=>rP O j 3 λx8=>NC r1 λT=>stCells T 0 [.pointer x8] j λa=>rI a0 a 1 .i64 λv=>NC a0 λu=>stCells (u.add 1) 0 [iI (i64 (v-1))] a λe=>rI O e 2 .u64 λJ=>K J 0 e)) w2) w
def F.BY:cF:=T0.BY E (F.Dc E) (F.NN E)
def T0.EK(E:Env)(q0:cE)(j:u9):Kj:=λa0 a1 K w=>
 rI a0 w 2 .i64 λx2=>CND (x2 !=1) (K 33 w) (q0 a0 a1 (λu a=>CND (!u) (K 1 a) (NC a0 λe=>j (some (e.add 12)) a1 (λv=>K 0 v) a)) w)
def F.EK:Kj:=T0.EK E (F.ES E) (F.Jg E)
def T0.Cw(q0:Y86):Y90:=λa0 a1 K w=>
 q0 a0 a1 0 (λr1 w2=>Hb r1 w2 λx4=>BK (AY×(Option Addr)×Unit) (⟨none,0,0⟩,x4,()) w2 λs5 _ j a=>CND (!s5.2.1.isNone) (MX s5.2.1 j .u64 λx9=>CND (x9==a1) (NC s5.2.1 λe=> ∃u,AU j (e.add 0) .u64 u/\ ∃v,AU j (e.add 1) .i64 v/\ ∃J,AU j (e.add 2) .u64 J/\AC ⟨[iU u,iI v,iU J]⟩ E.Am j λT Y=>APP E.Am 3 24 #[vU,vI,vU] s5.1 (P5 T) Y λZf O=>rP s5.2.1 O 3 λaA=>a (Zf,aA,()) O) (K s5.1 j)) (K s5.1 j)) w
def F.Cw:Y90:=T0.Cw E (F.Dc E)
def T0.CH(E:Env)(q0:Y90)(q1:Y86):Y90:=λa0 a1 K w=>
 q0 a0 a1 (λr1 w2=>q1 a0 a1 0 (λY w4=>BK (Int×Unit) (0,()) w4 λs5 _ e a=>cD (s5.1<((r1.len:Nat):Int)) (Hb Y e λx9=>rP x9 e 3 λO=>NC Y λj=>stCells j 0 [.pointer O] e λv=>a (i64 (s5.1+1),()) v) (rI a0 e 1 .i64 λT=>NC a0 λu=>stCells (u.add 1) 0 [iI (i64 (T-((r1.len:Nat):Int)))] e λJ=>K r1 J)) w2) w
def F.CH:Y90:=T0.CH E (F.Cw E) (F.Dc E)
def T0.A6(q0:Tr)(q1:pQ)(q2:cE)(q3:cE)(q4:Wn)(q5:cF)(q6:Kj)(q7:Y90):Y91:=λa0 a1 O T Y aA aB aC aD aE aF aG K Kp w=>
 AC #[iU O,iI T,iI Y,iI aA,.bool aB,iI aC,iI aD,iI aE,.bool aF,.bool aG] E.BD w λb1 w2=>q0 a1 (λr3 J=>CND r3 (Kp (.iface E.Gp (.agg ⟨[]⟩)) J) (rP a0 J.drew 2 λx6=> ∃x7,AU J.drew (mA b1) .u64 x7/\ ∃x8,AU J.drew (mA b1) .u64 x8/\ ∃x9,AU J.drew ((mA b1).add 1) .i64 x9/\q1 x6 x7 (u64 (x8+(u64 ((u64 x9)*8192)))) (λaR e=>e.cell? ((mA b1).add 1)=some (iI x9)/\e.cell? (mA b1)=some (iU x8)/\CND ((((aR.len:Nat):Int):Int)==0) (K e) (∃aN,AU e ((mA b1).add 6) .i64 aN/\BK (Int×Unit) (0,()) e λIS _ aI a=>cD (IS.1<aN) (q2 a1 IS.1 (λaS aJ=>CND (!aS) (a (i64 (IS.1+1),()) aJ) (q3 a1 IS.1 (λaT aK=>CND aT (a (i64 (IS.1+1),()) aK) (q4 a1 IS.1 (λu bH aL=>rP a0 aL 2 λa5=>q5 a5 u 1 (λaU aV j=>CND (aV==0) (rS a0 j 3 λa6=>AC ⟨[iU u,iI 1,iU aU]⟩ E.Am j λaO aX=>APP E.Am 3 24 #[vU,vI,vU] a6 (P5 aO) aX λcG aY=>NC a0 λaP=>stCells (aP.add 3) 0 [BP cG] aY λaZ=>q6 a1 IS.1 (λbJ a2=>a (i64 (IS.1+1),()) a2) aZ) (NC a0 λaH=> ∃v,EW j.drew (aH.add 3) v/\rP a0 j.drew 2 λa7=>q7 a7 u (λaW aM=>aM.cell? (aH.add 3)=some (BP v)/\APP E.Am 3 24 #[vU,vI,vU] v aW aM λvB a3=>NC a0 λaQ=>stCells (aQ.add 3) 0 [BP vB] a3 λa4=>a (i64 (IS.1+1),()) a4) j.drew)) aL) aK)) aJ)) aI) (K aI))) J.drew)) w2
def F.A6:Y91:=T0.A6 E (F.Gs E) (F.BT E) (F.DC E) (F.Dz E) (F.Cd E) (F.BY E) (F.EK E) (F.CH E)
def T0.Ce(q0:Tr)(q1:Sp):Y92:=λa0 K w=>
 rI a0 w 2 .i64 λx2=>CND (x2 !=1) (K ⟨none,0,0⟩ 33 w) (q0 a0 (λr3 w4=>CND r3 (K ⟨none,0,0⟩ 40 w4) (rS a0 w4 11 λx6=>BK (AY×Int×Unit) (⟨none,0,0⟩,0,()) w4 λs7 _ e u=>cD (s7.2.1<((x6.len:Nat):Int)) (rS a0 e 11 λaA=>NC aA.base λaG=>Br s7.2.1 aA.len/\ ∃J,AU e (aD aG s7.2.1 1) .u64 J/\At (Int×Unit) (λO=>rS a0 e 12 λaW=>cD (s7.2.1<((aW.len:Nat):Int)) (rS a0 e 12 λaB=>NC aB.base λaH=>Br s7.2.1 aB.len/\ ∃aC,AU e (aD aH s7.2.1 1) .u64 aC/\O (EA .u64 3 J aC,()) e) (O (J,()) e)) λSr _ v=>rS a0 v 11 λj=>NC j.base λaI=>Br s7.2.1 j.len/\ ∃aE,AU v (aD aI s7.2.1 1) .u64 aE/\NC j.base λaJ=>Br s7.2.1 j.len/\stCells (aD aJ s7.2.1 1) 0 [iU (EA .u64 3 aE Sr.1)] v λaO=>BK (AY×Int×Unit) (s7.1,Sr.1,()) aO λLp _ T a=>CND (Lp.2.1 !=0) ((0:Int)<=6/\q1 Lp.2.1 (λaN aP=>AC ⟨[iI (i64 ((i64 (s7.2.1*2^(min (Int.toNat 6) (IntKind.bits .i64))))+aN))]⟩ E.Ar aP λaF aQ=>APP E.Ar 1 8 #[vI] Lp.1 (P5 aF) aQ λWo aR=>JB (EA .u64 0 Lp.2.1 (u64 (Lp.2.1-1)):Int) λY=>a (Wo,Y,()) aR) T) (u (Lp.1,i64 (s7.2.1+1),()) T)) (rI a0 e 7 .i64 λaX=>NC a0 λaK=>stCells (aK.add 7) 0 [iI (i64 (aX-((s7.1.len:Nat):Int)))] e λaT=>NC a0 λaL=>stCells (aL.add 12) 0 [vS] aT λaU=>NC a0 λaM=>stCells (aM.add 13) 0 [vI] aU λaV=>K s7.1 0 aV))) w)
def F.Ce:Y92:=T0.Ce E (F.Gs E) (F.BO E)
def F.KM(E:Env):OM:=λa0 K w=>
 At (Bool×Unit) (λO=>rI a0 w 2 .i64 λx5=>CND (x5==0) (O (true,()) w) (rI a0 w 7 .i64 λx7=>O (decide (x7>0),()) w)) λs2 _ T=>CND s2.1 (K 33 T) (NC a0 λY=>stCells (Y.add 2) 0 [vI] T λw9=>NC a0 λa=>stCells (a.add 7) 0 [vI] w9 λu=>NC a0 λe=>stCells (e.add 11) 0 [vS] u λv=>NC a0 λj=>stCells (j.add 12) 0 [vS] v λJ=>K 0 J)
def F.It:Qx:=λa0 a1 a2 K w=>
 NC a0 λp1=> ∃x2,EW w (p1.add 2) x2/\BK (AY×Int×Unit) (⟨none,0,0⟩,0,()) w λs3 _ w4 j=>cD (s3.2.1<((x2.len:Nat):Int)) (NC x2.base λp6=>Br s3.2.1 x2.len/\ ∃c7,AU w4 ((aD p6 s3.2.1 3).add 0) .u64 c7/\ ∃c8,AU w4 ((aD p6 s3.2.1 3).add 1) .u64 c8/\ ∃c9,AU w4 ((aD p6 s3.2.1 3).add 2) .i64 c9/\AC #[vU,vU,vI] E.BF w4 λa bH=>stCells (mA a) 0 [iU c7,iU c8,iI c9] bH λT=>At (Bool×Unit) (λaH=> ∃aR,AU T ((mA a).add 1) .u64 aR/\cD (aR<=a1) (aH (true,()) T) (∃aS,AU T (mA a) .u64 aS/\aH (decide (aS≥a2),()) T)) λM6 _ e=>CND M6.1 (∃aM,AU e ((mA a).add 0) .u64 aM/\ ∃aN,AU e ((mA a).add 1) .u64 aN/\ ∃aO,AU e ((mA a).add 2) .i64 aO/\AC ⟨[iU aM,iU aN,iI aO]⟩ E.BF e λa6 bI=>APP E.BF 3 24 #[vU,vU,vI] s3.1 (P5 a6) bI λUm bJ=>j (Um,i64 (s3.2.1+1),()) bJ) (At (AY×Unit) (λaI=> ∃aT,AU e (mA a) .u64 aT/\cD (aT<a1) (∃aU,AU e (mA a) .u64 aU/\ ∃aV,AU e ((mA a).add 2) .i64 aV/\AC ⟨[iU aU,iU a1,iI aV]⟩ E.BF e λa7 bK=>APP E.BF 3 24 #[vU,vU,vI] s3.1 (P5 a7) bK λoF bL=>aI (oF,()) bL) (aI (s3.1,()) e)) λNl _ J=> ∃aW,AU J ((mA a).add 1) .u64 aW/\cD (aW>a2) (∃aX,AU J ((mA a).add 1) .u64 aX/\ ∃aY,AU J ((mA a).add 2) .i64 aY/\AC ⟨[iU a2,iU aX,iI aY]⟩ E.BF J λa8 bM=>APP E.BF 3 24 #[vU,vU,vI] Nl.1 (P5 a8) bM λbG bN=>j (bG,i64 (s3.2.1+1),()) bN) (j (Nl.1,i64 (s3.2.1+1),()) J))) (NC a0 λbA=>stCells (bA.add 2) 0 [.slice s3.1.base s3.1.len s3.1.cap] w4 λv=>NC a0 λbB=> ∃aZ,Nv v (bB.add 3) aZ/\ ∃aA:Array MapEntry,Qa v aZ aA/\cD (((u64 (((aA.size:Nat):Int))):Int)<(u64 (a2-a1))) (NC a0 λbC=> ∃aF,Nv v (bC.add 3) aF/\ ∃Y,N3 v aF Y/\AL (Jz aF Y) v λaL bO=>BK Unit (()) bO λvN _ bP u=>At (Bool×Unit) (λaJ=>TZ aL bP (λbQ=>aJ (false,()) bQ) λbX bY bR=>aJ (true,()) bR) λs56 _ aQ=>At (Bool×Unit) (λa5=>CND s56.1 (a5 (s56.1,()) aQ) (K aQ)) λs63 _ aB=>oA aL aB λa9 bZ bW=>T7 .u64 a9 λaG=>At (Bool×Unit) (λaK=>cD (aG≥a1) (aK (decide (aG<a2),()) aB) (aK (false,()) aB)) λYv _ aC=>CND Yv.1 (NC a0 λbE=> ∃a3,Nv aC (bE.add 3) a3/\MDEL .u64 aG a3 aC λbS=>u (()) bS) (u (()) aC)) (BK (Int×Unit) (a1,()) v λs75 _ aE O=>cD (s75.1<a2) (NC a0 λbF=> ∃a4,Nv aE (bF.add 3) a4/\MDEL .u64 s75.1 a4 aE λbT=>O (u64 (s75.1+1),()) bT) (K aE)))
def T0.Dj(q0:PU)(q1:Qx):Y93:=λa0 a1 a2 a3 K w=>
 AC #[.pointer a0] E.Qz w λb1 w2=>AC #[iI a3] E.Ar w2 λb3 w4=>At (Bool×Unit) (λJ5=>CND (a2==0) (J5 (true,()) w4) (∃x8,AU w4 (mA b3) .i64 x8/\J5 (decide (x8<0),()) w4)) λs6 _ w7=>CND s6.1 (K 1 w7) (At (Bool×Unit) (λJ9=>cD (a1≥34359738368) (J9 (true,()) w7) (J9 (decide (a2>(u64 (34359738368-a1))),()) w7)) λGM _ aD=>CND GM.1 (K 10 aD) (512≠(0:Int)/\512≠(0:Int)/\JB (u64 (Int.tdiv (u64 ((u64 ((u64 (a1+a2))+512))-1)) 512):Int) λj=> ∃aH,Da aD (mA b1) aH/\NC aH λaL=>q0 (some aL) (u64 (Int.tdiv a1 512)) j (λaN J=>CND (aN !=(u64 (j-(u64 (Int.tdiv a1 512))))) (K 10 J) (512≠(0:Int)/\512≠(0:Int)/\JB (u64 (Int.tdiv (u64 ((u64 (a1+512))-1)) 512):Int) λa=>JB (u64 (Int.tdiv (u64 (a1+a2)) 512):Int) λe=>At Unit (λaC=>cD (a<e) (∃aI,Da J (mA b1) aI/\q1 aI a e (λu=> ∃aJ,AU u (mA b3) .i64 aJ/\cD (aJ>0) (∃T,Da u.drew (mA b1) T/\ ∃Y,Da u.drew (mA b1) Y/\NC Y λaF=> ∃aE,EW u.drew (aF.add 2) aE/\ ∃aA,AU u.drew (mA b3) .i64 aA/\AC ⟨[iU a,iU e,iI aA]⟩ E.BF u.drew λaK v=>v.cell? (mA b3)=some (iI aA)/\v.cell? (aF.add 2)=some (BP aE)/\v.cell? (mA b1)=some (.pointer Y)/\v.cell? (mA b1)=some (.pointer T)/\APP E.BF 3 24 #[vU,vU,vI] aE (P5 aK) v λcG O=>O.cell? (mA b3)=some (iI aA)/\O.cell? (mA b1)=some (.pointer Y)/\O.cell? (mA b1)=some (.pointer T)/\NC T λaM=>stCells (aM.add 2) 0 [BP cG] O λaR=>aC (()) aR) (aC (()) u)) J) (aC (()) J)) λwI _ aG=>cD (a>e) (CAL E.call E.GL #[iU a1,iU (u64 (a1+a2)),.pointer (sM b3),.pointer (sM b1)] aG λaO aS=>aO= .tuple ⟨[]⟩/\K 0 aS) (CAL E.call E.GL #[iU a1,iU (u64 (a*512)),.pointer (sM b3),.pointer (sM b1)] aG λaP aT=>aP= .tuple ⟨[]⟩/\CAL E.call E.GL #[iU (u64 (e*512)),iU (u64 (a1+a2)),.pointer (sM b3),.pointer (sM b1)] aT λaQ aV=>aQ= .tuple ⟨[]⟩/\K 0 aV))) aD))
def F.Dj:Y93:=T0.Dj E (F.Ay E) (F.It E)
def T0.C3(E:Env)(q0:PU):Y94:=λa0 a1 a2 T Y K w=>
 At (Int×Unit) (λJ=>CND T (J (a2,()) w) (J (0,()) w)) λs2 _ j=>At (Bool×Unit) (λe=>CND (a2==0) (e (true,()) j) (cD (a1≥34359738368) (e (true,()) j) (cD (a2>(u64 (34359738368-a1))) (e (true,()) j) (NC a0 λp7=>q0 (some p7) a1 (u64 (a1+a2)) (λr8 w9=>e (r8 !=a2,()) w9) j)))) λs5 _ O=>CND s5.1 (K 10 O) (NC a0 λu=>q0 (some (u.add 2)) a1 (u64 (a1+a2)) (λv a=>CND (v !=s2.1) (K Y a) (K 0 a)) O)
def F.C3:Y94:=T0.C3 E (F.Ay E)
def T0.BW(q0:PU)(q1:Kj):Qx:=λa0 a1 a2 K w=>
 cD ((a1:Int)≥a2) (K w) (NC a0 λp1=> ∃x2:Int,w.drew.cell? (p1.add 1)=some (iU x2)/\q0 a0 a1 a2 (λr3 w4=>w4.cell? (p1.add 1)=some (iU x2)/\NC a0 λp5=>stCells (p5.add 1) 0 [iU (u64 (x2-r3))] w4 λw6=>q1 a0 a1 (λr7 w8=>At (Int×AY×Unit) (λJ9=>BK (Int×AY×Unit) (r7,⟨none,0,0⟩,()) w8 λFj _ j u=>NC a0 λaW=> ∃aC:AY,j.cell? aW=some (.slice aC.base aC.len aC.cap)/\cD ((Fj.1:Int)<((aC.len:Nat):Int)) (NC a0 λaX=> ∃T:AY,j.cell? aX=some (.slice T.base T.len T.cap)/\NC T.base λaY=>((0:Int)<=Fj.1/\(Fj.1:Int)<(T.len:Nat))/\ ∃aN:Int,j.cell? (aD aY Fj.1 2)=some (iU aN)/\cD ((aN:Int)<a2) (NC a0 λaZ=> ∃Y:AY,j.cell? aZ=some (.slice Y.base Y.len Y.cap)/\NC Y.base λaM=>((0:Int)<=Fj.1/\(Fj.1:Int)<(Y.len:Nat))/\ ∃aK:Int,j.cell? ((aD aM Fj.1 2).add 0)=some (iU aK)/\ ∃aL:Int,j.cell? ((aD aM Fj.1 2).add 1)=some (iU aL)/\AC #[vU,vU] E.AB j λv a4=>stCells (mA v) 0 [iU aK,iU aL] a4 λaA=>At (AY×Unit) (λaJ=> ∃aO:Int,aA.cell? (mA v)=some (iU aO)/\cD ((aO:Int)<a1) (∃aP:Int,aA.cell? (mA v)=some (iU aP)/\AC ⟨[iU aP,iU a1]⟩ E.AB aA λaT a5=>APP E.AB 2 16 #[vU,vU] Fj.2.1 ⟨(sM aT),1,1⟩ a5 λWo a6=>aJ (Wo,()) a6) (aJ (Fj.2.1,()) aA)) λoE _ aB=> ∃aQ:Int,aB.cell? ((mA v).add 1)=some (iU aQ)/\cD ((aQ:Int)>a2) (∃aR:Int,aB.cell? ((mA v).add 1)=some (iU aR)/\AC ⟨[iU a2,iU aR]⟩ E.AB aB λaU a7=>APP E.AB 2 16 #[vU,vU] oE.1 ⟨(sM aU),1,1⟩ a7 λoG a8=>u (i64 (Fj.1+1),oG,()) a8) (u (i64 (Fj.1+1),oE.1,()) aB)) (J9 (Fj.1,Fj.2.1,()) j)) (J9 (Fj.1,Fj.2.1,()) j)) λGM _ aE=>NC a0 λJ=> ∃e:AY,aE.drew.cell? J=some (.slice e.base e.len e.cap)/\((0:Int)<=r7/\(r7:Int)<=(e.cap:Nat))/\NC a0 λO=> ∃a:AY,aE.drew.cell? O=some (.slice a.base a.len a.cap)/\((0:Int)<=GM.1/\(GM.1:Int)<=(a.len:Nat))/\AC ⟨[]⟩ E.AB aE.drew λaV aF=>aF.cell? O=some (.slice a.base a.len a.cap)/\aF.cell? J=some (.slice e.base e.len e.cap)/\APP E.AB 2 16 #[vU,vU] ⟨(sM aV),0,0⟩ ⟨(KE e.base e.cap 0 2),(Int.toNat r7),e.cap⟩ aF λwD aG=>aG.cell? O=some (.slice a.base a.len a.cap)/\aG.cell? J=some (.slice e.base e.len e.cap)/\APP E.AB 2 16 #[vU,vU] wD GM.2.1 aG λvN aH=>aH.cell? O=some (.slice a.base a.len a.cap)/\aH.cell? J=some (.slice e.base e.len e.cap)/\APP E.AB 2 16 #[vU,vU] vN ⟨(KE a.base a.cap (Int.toNat GM.1) 2),(a.len-(Int.toNat GM.1)),(a.cap-(Int.toNat GM.1))⟩ aH λvA aI=>aI.cell? O=some (.slice a.base a.len a.cap)/\aI.cell? J=some (.slice e.base e.len e.cap)/\NC a0 λa3=>stCells a3 0 [.slice vA.base vA.len vA.cap] aI λa9=>K a9) w6) w.drew)
def F.BW:Qx:=T0.BW E (F.Ay E) (F.DD E)
def T0.A3(q0:Qx)(q1:Kj):Qx:=λa0 a1 a2 K w=>
 cD ((a1:Int)≥a2) (K w) (q0 a0 a1 a2 (λw1=>NC a0 λp2=> ∃x3:Int,w1.cell? (p2.add 1)=some (iU x3)/\NC a0 λp4=>stCells (p4.add 1) 0 [iU (u64 (x3+(u64 (a2-a1))))] w1 λw5=>q1 a0 a1 (λv w7=>AC #[vU,vU] E.AB w7 λb8 w9=>stCells (mA b8) 0 [iU a1,iU a2] w9 λaA=>At (Int×Unit) (λaZ=>At (Bool×Unit) (λa3=>NC a0 λbF=> ∃aL:AY,aA.cell? bF=some (.slice aL.base aL.len aL.cap)/\cD ((v:Int)<((aL.len:Nat):Int)) (NC a0 λbG=> ∃aC:AY,aA.cell? bG=some (.slice aC.base aC.len aC.cap)/\NC aC.base λbH=>((0:Int)<=v/\(v:Int)<(aC.len:Nat))/\ ∃a7:Int,aA.cell? (aD bH v 2)=some (iU a7)/\a3 ((a7:Int)==a2,()) aA) (a3 (false,()) aA)) λSr _ aJ=>CND Sr.1 (NC a0 λbI=> ∃aE:AY,aJ.cell? bI=some (.slice aE.base aE.len aE.cap)/\NC aE.base λbJ=>((0:Int)<=v/\(v:Int)<(aE.len:Nat))/\ ∃a8:Int,aJ.cell? ((aD bJ v 2).add 1)=some (iU a8)/\stCells ((mA b8).add 1) 0 [iU a8] aJ λbT=>aZ (i64 (v+1),()) bT) (aZ (v,()) aJ)) λFj _ aI=>At (Int×Unit) (λa4=>At (Bool×Unit) (λa5=>cD ((v:Int)>0) (NC a0 λbK=> ∃aF:AY,aI.cell? bK=some (.slice aF.base aF.len aF.cap)/\NC aF.base λbL=>((0:Int)<=(i64 (v-1))/\((i64 (v-1)):Int)<(aF.len:Nat))/\ ∃a9:Int,aI.cell? ((bL.add (Int.toNat (i64 (v-1))*2)).add 1)=some (iU a9)/\a5 ((a9:Int)==a1,()) aI) (a5 (false,()) aI)) λcG _ aK=>CND cG.1 (NC a0 λbM=> ∃aG:AY,aK.cell? bM=some (.slice aG.base aG.len aG.cap)/\NC aG.base λbN=>((0:Int)<=(i64 (v-1))/\((i64 (v-1)):Int)<(aG.len:Nat))/\ ∃bA:Int,aK.cell? (bN.add (Int.toNat (i64 (v-1))*2))=some (iU bA)/\stCells (mA b8) 0 [iU bA] aK λbU=>a4 (i64 (v-1),()) bU) (a4 (v,()) aK)) λLp _ T=>NC a0 λj=> ∃e:AY,T.drew.cell? j=some (.slice e.base e.len e.cap)/\((0:Int)<=Lp.1/\(Lp.1:Int)<=(e.cap:Nat))/\ ∃J:Int,T.drew.cell? ((mA b8).add 0)=some (iU J)/\ ∃O:Int,T.drew.cell? ((mA b8).add 1)=some (iU O)/\NC a0 λu=> ∃a:AY,T.drew.cell? u=some (.slice a.base a.len a.cap)/\((0:Int)<=Fj.1/\(Fj.1:Int)<=(a.len:Nat))/\(AC ⟨[]⟩ E.AB T.drew λa6 Y=>Y.cell? u=some (.slice a.base a.len a.cap)/\(Y.cell? ((mA b8).add 0)=some (iU J)/\(Y.cell? ((mA b8).add 1)=some (iU O)/\True))/\Y.cell? j=some (.slice e.base e.len e.cap)/\(APP E.AB 2 16 #[vU,vU] ⟨(sM a6),0,0⟩ ⟨(KE e.base e.cap 0 2),(Int.toNat Lp.1),e.cap⟩ Y λQW aB=>aB.cell? u=some (.slice a.base a.len a.cap)/\(aB.cell? ((mA b8).add 0)=some (iU J)/\(aB.cell? ((mA b8).add 1)=some (iU O)/\True))/\aB.cell? j=some (.slice e.base e.len e.cap)/\AC ⟨[iU J,iU O]⟩ E.AB aB λbB aN=>aN.cell? u=some (.slice a.base a.len a.cap)/\aN.cell? j=some (.slice e.base e.len e.cap)/\APP E.AB 2 16 #[vU,vU] QW ⟨(sM bB),1,1⟩ aN λjA aO=>aO.cell? u=some (.slice a.base a.len a.cap)/\aO.cell? j=some (.slice e.base e.len e.cap)/\APP E.AB 2 16 #[vU,vU] jA ⟨(KE a.base a.cap (Int.toNat Fj.1) 2),(a.len-(Int.toNat Fj.1)),(a.cap-(Int.toNat Fj.1))⟩ aO λUj aP=>aP.cell? u=some (.slice a.base a.len a.cap)/\aP.cell? j=some (.slice e.base e.len e.cap)/\NC a0 λbO=>stCells bO 0 [.slice Uj.base Uj.len Uj.cap] aP λbV=>K bV)/\(AC ⟨[iU J,iU O]⟩ E.AB Y λbC aQ=>aQ.cell? u=some (.slice a.base a.len a.cap)/\aQ.cell? j=some (.slice e.base e.len e.cap)/\APP E.AB 2 16 #[vU,vU] ⟨(sM a6),0,0⟩ ⟨(KE e.base e.cap 0 2),(Int.toNat Lp.1),e.cap⟩ aQ λs63 aR=>aR.cell? u=some (.slice a.base a.len a.cap)/\aR.cell? j=some (.slice e.base e.len e.cap)/\APP E.AB 2 16 #[vU,vU] s63 ⟨(sM bC),1,1⟩ aR λbR aS=>aS.cell? u=some (.slice a.base a.len a.cap)/\aS.cell? j=some (.slice e.base e.len e.cap)/\APP E.AB 2 16 #[vU,vU] bR ⟨(KE a.base a.cap (Int.toNat Fj.1) 2),(a.len-(Int.toNat Fj.1)),(a.cap-(Int.toNat Fj.1))⟩ aS λaM aT=>aT.cell? u=some (.slice a.base a.len a.cap)/\aT.cell? j=some (.slice e.base e.len e.cap)/\NC a0 λbP=>stCells bP 0 [.slice aM.base aM.len aM.cap] aT λbW=>K bW))/\(AC ⟨[iU J,iU O]⟩ E.AB T.drew λbD aU=>aU.cell? u=some (.slice a.base a.len a.cap)/\aU.cell? j=some (.slice e.base e.len e.cap)/\AC ⟨[]⟩ E.AB aU λbE aV=>aV.cell? u=some (.slice a.base a.len a.cap)/\aV.cell? j=some (.slice e.base e.len e.cap)/\APP E.AB 2 16 #[vU,vU] ⟨(sM bE),0,0⟩ ⟨(KE e.base e.cap 0 2),(Int.toNat Lp.1),e.cap⟩ aV λs75 aW=>aW.cell? u=some (.slice a.base a.len a.cap)/\aW.cell? j=some (.slice e.base e.len e.cap)/\APP E.AB 2 16 #[vU,vU] s75 ⟨(sM bD),1,1⟩ aW λbS aX=>aX.cell? u=some (.slice a.base a.len a.cap)/\aX.cell? j=some (.slice e.base e.len e.cap)/\APP E.AB 2 16 #[vU,vU] bS ⟨(KE a.base a.cap (Int.toNat Fj.1) 2),(a.len-(Int.toNat Fj.1)),(a.cap-(Int.toNat Fj.1))⟩ aX λs79 aY=>aY.cell? u=some (.slice a.base a.len a.cap)/\aY.cell? j=some (.slice e.base e.len e.cap)/\NC a0 λbQ=>stCells bQ 0 [.slice s79.base s79.len s79.cap] aY λbX=>K bX)) w5) w)
def F.A3:Qx:=T0.A3 E (F.BW E) (F.DD E)
def T0.DU(E:Env)(q0:Y94)(a:Qx)(v:Y3):Y95:=λa0 a1 a2 j K w=>
 q0 a0 a1 a2 false 31 (λr1 e=>CND (r1 !=0) (K r1 e) (NC a0 λu=>a (some (u.add 2)) a1 (u64 (a1+a2)) (λJ=>a j a1 (u64 (a1+a2)) (λO=>v a0 (λT=>K 0 T) O) J) e)) w
def F.DU:Y95:=T0.DU E (F.C3 E) (F.A3 E) (F.DB E)
def T0.Cf(E:Env)(q0:Y95):PU:=λa0 a1 a2 K w=>
 NC a0 λp1=>q0 a0 a1 a2 (some (p1.add 6)) K w
def F.Cf:PU:=T0.Cf E (F.DU E)
def F.NO(E:Env):cE:=λa0 a1 K w=>
 cD (a1≥1) (rS a0 w 1 λx2=>cD (a1<=((x2.len:Nat):Int)) (rS a0 w 1 λa=>NC a.base λj=>Br (i64 (a1-1)) a.len/\ ∃e,Da w (j.add (Int.toNat (i64 (a1-1))*1)) e/\rB e w 1 λu=>K u w) (K false w)) (K false w)
def T0.GP(E:Env)(q0:cE):Kj:=λa0 a1 K w=>
 q0 a0 a1 (λr1 e=>CND (!r1) (K 31 e) (rS a0 e 1 λx4=>NC x4.base λp5=>Br (i64 (a1-1)) x4.len/\ ∃j,Da e (p5.add (Int.toNat (i64 (a1-1))*1)) j/\rP a0 e 2 λx8=>NC j λp9=>stCells (p9.add 1) 0 [.bool false] e λO=>NC j λu=>stCells (u.add 2) 0 [.pointer x8] O λT=>NC a0 λv=>stCells (v.add 2) 0 [.pointer j] T λa=>rI a0 a 3 .i64 λaA=>NC a0 λJ=>stCells (J.add 3) 0 [iI (i64 (aA-1))] a λY=>K 0 Y)) w
def F.GP:Kj:=T0.GP E (F.NO E)
def T0.Cg(q0:OM)(q1:lM)(q2:Y93)(q3:PU)(q4:Kj):Kj:=λa0 a1 K w=>
 NC a0 λp1=> ∃x2,Nv w (p1.add 4) x2/\n9 .i64 a1 x2 w (vP) λv3 aA aW=> ∃x6:(Option Addr),v3= .pointer x6/\CND (!aA) (K 35 w) (q0 x6 (λr7 w8=>CND (r7 !=0) (K r7 w8) (q1 x6 (λr9 aD aE aF aG aH aI aJ aK aL aM=>AC #[vU,vI,vI,vI,.bool false,vI,vI,vI,.bool false,.bool false] E.BD aM λj aN=>stCells (mA j) 0 [iU r9,iI aD,iI aE,iI aF,.bool aG,iI aH,iI aI,iI aJ,.bool aK,.bool aL] aN λa=> ∃u,AU a.drew (mA j) .u64 u/\8192≠(0:Int)/\ ∃e,AU a.drew ((mA j).add 1) .i64 e/\rP a0 a.drew 2 λaP=>q2 aP (u64 (Int.tdiv u 8192)) (u64 e) 0 (λa3 v=>rP a0 v 1 λaQ=>q3 aQ (u64 (Int.tdiv u 8192)) (u64 e) (λa4 J=>rP a0 J 3 λaR=>q4 aR a1 (λa5 O=>rI a0 O 70 .u64 λaS=>NC a0 λaB=>stCells (aB.add 70) 0 [iU (u64 (aS-(u64 e)))] O λT=>NC a0 λaC=> ∃Y,Nv T (aC.add 4) Y/\MDEL .i64 a1 Y T λaO=>K 0 aO) J) v) a.drew) w8)) w)
def F.Cg:Kj:=T0.Cg E (F.KM E) (F.Av E) (F.Dj E) (F.Cf E) (F.GP E)
def F.CI:Y31:=λa0 a1 a2 x0 K w=>
 isIf x0=true/\CND (isNilI x0) (K w) (TAS x0 E.Gp (.agg ⟨[]⟩) λv1 u=>unVT (.agg []) v1 λx3=>CND u (AC #[] E.Gp w λv T=>stCells (mA v) 0 [] T λY=>NC a0 λJ=>stCells J 0 [vI] Y λw8=>NC a1 λO=>stCells O 0 [.bool false] w8 λe=>NC a2 λa=>stCells a 0 [iI 40] e λj=>K j) (PAN x0 False))
def T0.CQ(q0:Y78)(q1:Y91)(q2:Y92)(q3:lM)(q4:Kj)(q5:u7):Y96:=λa0 a1 a2 K w=>
 AC #[vI] E.Ar w λb1 w2=>AC #[.bool false] E.Be w2 λv w4=>AC #[vI] E.Bn w4 λj w6=>q0 a0 a1 (λr7 r8 r9 bF bG bH bI bJ bK bL bM bN b2=>AC #[vU,vI,vI,vI,.bool false,vI,vI,vI,.bool false,.bool false] E.BD b2 λa b4=>stCells (mA a) 0 [iU r8,iI r9,iI bF,iI bG,.bool bH,iI bI,iI bJ,iI bK,.bool bL,.bool bM] b4 λb6=>stCells (mA j) 0 [iI bN] b6 λe=> ∃aU,AU e (mA j) .i64 aU/\CND (aU !=0) (∃aA,AU e.drew (mA j) .i64 aA/\stCells (mA b1) 0 [vI] e.drew λaR=>aR.cell? (mA j)=some (iI aA)/\stCells (mA v) 0 [.bool false] aR λaS=>aS.cell? (mA j)=some (iI aA)/\stCells (mA j) 0 [iI aA] aS λJ=> ∃aV,AU J (mA b1) .i64 aV/\ ∃aW,FC J (mA v) aW/\ ∃aX,AU J (mA j) .i64 aX/\K aV aW aX J) (∃aH,AU e ((mA a).add 0) .u64 aH/\ ∃aI,AU e ((mA a).add 1) .i64 aI/\ ∃aJ,AU e ((mA a).add 2) .i64 aJ/\ ∃aK,AU e ((mA a).add 3) .i64 aK/\ ∃aL,FC e ((mA a).add 4) aL/\ ∃aM,AU e ((mA a).add 5) .i64 aM/\ ∃aN,AU e ((mA a).add 6) .i64 aN/\ ∃aO,AU e ((mA a).add 7) .i64 aO/\ ∃aP,FC e ((mA a).add 8) aP/\ ∃aQ,FC e ((mA a).add 9) aQ/\q1 a0 r7 aH aI aJ aK aL aM aN aO aP aQ (λb7=>q2 r7 (λbO cP b8=>stCells (mA b1) 0 [iI ((bO.len:Nat):Int)] b8 λaC=>rI a0 aC.drew 4 .u64 λcH=> ∃aY,AU aC.drew (mA b1) .i64 aY/\NC a0 λbD=>stCells (bD.add 4) 0 [iU (u64 (cH+(u64 aY)))] aC.drew λaD=>rI a0 aD.drew 7 .u64 λcI=> ∃aZ,AU aD.drew ((mA a).add 1) .i64 aZ/\NC a0 λbE=>stCells (bE.add 7) 0 [iU (u64 (cI+(u64 aZ)))] aD.drew λb9=>At Unit (λaB=>q3 r7 (λbP bQ bR bS bT bU bV bW bX bY cA=>stCells (mA a) 0 [iU bP,iI bQ,iI bR,iI bS,.bool bT,iI bU,iI bV,iI bW,.bool bX,.bool bY] cA λO=>At (Bool×Unit) (λaG=>CND a2 (∃a3,AU O ((mA a).add 7) .i64 a3/\ ∃a4,AU O ((mA a).add 6) .i64 a4/\aG (decide (a3<a4),()) O) (aG (false,()) O)) λs73 _ u=>CND s73.1 (aB (()) u) (∃a5,AU u ((mA a).add 7) .i64 a5/\CND (a5==0) (Hb a0 u λcJ=>q4 cJ a1 (λcR cB=>stCells (mA v) 0 [.bool true] cB λcC=>aB (()) cC) u) (q5 a0 a1 true (λcS cD=>aB (()) cD) u))) b9) λs58 _ aE=> ∃a6,AU aE.drew (mA b1) .i64 a6/\ ∃aF,FC aE.drew (mA v) aF/\stCells (mA b1) 0 [iI a6] aE.drew λaT=>aT.cell? (mA v)=some (.bool aF)/\stCells (mA v) 0 [.bool aF] aT λcE=>stCells (mA j) 0 [vI] cE λcF=>F.CI E (sM b1) (sM v) (sM j) .nilIface (λT=> ∃a7,AU T (mA b1) .i64 a7/\ ∃a8,FC T (mA v) a8/\ ∃a9,AU T (mA j) .i64 a9/\K a7 a8 a9 T) cF) b7) (λb0 cG=>F.CI E (sM b1) (sM v) (sM j) b0 (λY=> ∃bA,AU Y (mA b1) .i64 bA/\ ∃bB,FC Y (mA v) bB/\ ∃bC,AU Y (mA j) .i64 bC/\K bA bB bC Y) cG) e)) w6
def F.CQ:Y96:=T0.CQ E (F.BB E) (F.A6 E) (F.Ce E) (F.Av E) (F.Cg E) (F.BC E)
def T0.GX(q0:Y96):Y97:=λa0 a1 a2 K Kp w=>
 rI a1 w 3 .i64 λx2=>Hb a0 w λY=>rP Y w 3 λx6=>q0 x6 x2 a2 (λr7 r8 T a=>CND (T==40) (Kp (.iface E.PE (.agg ⟨[]⟩)) a) (Hb a0 a λO=>NC O λj=> ∃e,Nv a (j.add 6) e/\MDEL .i64 x2 e a λv=>NC a1 λu=>stCells (u.add 3) 0 [vI] v λJ=>K J)) w
def F.GX:Y97:=T0.GX E (F.CQ E)
def T0.E0(E:Env)(q0:Kj):Y98:=λa0 a1 a2 v J K w=>
 NC a0 λp1=> ∃x2,Nv w (p1.add 2) x2/\LKA [iI a1,.bool a2,.bool v,.bool J] x2 w (vS) λv3 T O=> ∃e:AY,v3=BP e/\CND ((((e.len:Nat):Int):Int)==0) (K 0 false w) (NC e.base λY=>Br 0 e.len/\ ∃u,Da w (aD Y 0 1) u/\MX u w .i64 λa=>q0 a0 a (λaA j=>K a true j) w)
def F.E0:Y98:=T0.E0 E (F.DT E)
def T0.FU(q0:Y98)(q1:Y81)(q2:Y85):Vy:=λa0 a1 K w=>
 NC a1 λp1=> ∃c2,AU w ((p1.add 4).add 0) .i64 c2/\ ∃c3,FC w ((p1.add 4).add 1) c3/\ ∃c4,FC w ((p1.add 4).add 2) c4/\ ∃c5,AU w ((p1.add 4).add 3) .u64 c5/\AC #[vI,.bool false,.bool false,vU] E.Bt w λO w7=>stCells (mA O) 0 [iI c2,.bool c3,.bool c4,iU c5] w7 λw8=>NC a0 λp9=> ∃Y,Da w8.drew p9 Y/\rP Y w8.drew 1 λa3=> ∃aI,AU w8.drew (mA O) .i64 aI/\ ∃aJ,FC w8.drew ((mA O).add 1) aJ/\q0 a3 aI aJ false true (λaU aV a=>a.cell? p9=some (.pointer Y)/\CND aV (NC a0 λaC=> ∃aA,Da a.drew aC aA/\NC aA λaE=> ∃v,EW a.drew (aE.add 4) v/\NC a1 λaF=> ∃J,AU a.drew aF .i64 J/\NC v.base λaR=>Br J v.len/\ ∃aK,Da a.drew (aD aR J 1) aK/\ ∃aL,AU a.drew (mA O) .i64 aL/\ ∃aM,FC a.drew ((mA O).add 1) aM/\q1 aK aL aM aU (λu=>u.cell? aF=some (iI J)/\u.cell? (aE.add 4)=some (BP v)/\u.cell? aC=some (.pointer aA)/\NC a1 λaS=>stCells (aS.add 2) 0 [iI 1] u λaY=>K aY) a.drew) (AC ⟨[.bool false,.bool true]⟩ E.Be a λaQ aZ=>BK (Int×Unit) (0,()) aZ λoF _ e j=>cD (oF.1<2) (Br oF.1 2/\ ∃aN,FC e ((mA aQ).add (Int.toNat oF.1*1)) aN/\NC a0 λaG=> ∃aB,Da e.drew aG aB/\rP aB e.drew 1 λa4=> ∃aO,AU e.drew (mA O) .i64 aO/\ ∃aP,FC e.drew ((mA O).add 1) aP/\q0 a4 aO aP aN false (λaW aX T=>T.cell? aG=some (.pointer aB)/\CND aX (q2 a0 a1 aW 5 K T) (j (i64 (oF.1+1),()) T)) e.drew) (NC a1 λaT=>stCells (aT.add 2) 0 [iI 6] e λa2=>K a2))) w8.drew
def F.FU:Vy:=T0.FU E (F.E0 E) (F.Cr E) (F.IF E)
def T0.DV(E:Env)(q0:vW):Vy:=λa0 a1 K w=>
 MX a1 w .i64 λx2=>NC a0 λp3=>stCells (p3.add 6) 0 [iI x2] w λw4=>NC a1 λp5=>stCells (p5.add 2) 0 [iI 8] w4 λJ=>At (Bool×Unit) (λJ7=>NC a1 λu=> ∃e,AU J.drew u .i64 e/\NC a0 λv=> ∃j,EW J.drew (v.add 3) j/\cD (e<((j.len:Nat):Int)) (q0 a0 a1 (λT aE aF aG aH aI aJ aK aL aM a=>a.cell? (v.add 3)=some (BP j)/\a.cell? u=some (iI e)/\J7 (T==1,()) a) J.drew) (J7 (false,()) J.drew)) λs8 _ w9=>CND s8.1 (NC a1 λO=>stCells (O.add 2) 0 [iI 7] w9 λY=>K Y) (K w9)
def F.DV:Vy:=T0.DV E (F.En E)
def T0.KX(q0:Y60):Y99:=λa0 a1 a2 a3 K w=>
 q0 (λr1 a=>At (Bool×Unit) (λj=>CND (a1==0) (j (true,()) a) (cD (a0>34359738368) (j (true,()) a) (cD (a1>(u64 (34359738368-a0))) (j (true,()) a) (cD (a2<0) (j (true,()) a) (cD (a2≥((r1.len:Nat):Int)) (j (true,()) a) (CND (a2==0) (cD (a1>134217728) (j (true,()) a) (cD (a2>0) (NC r1.base λp6=>Br a2 r1.len/\ ∃x7,AU a ((aD p6 a2 4).add 1) .i64 x7/\j (a1 !=(u64 x7),()) a) (j (false,()) a))) (cD (a2>0) (NC r1.base λp8=>Br a2 r1.len/\ ∃x9,AU a ((aD p8 a2 4).add 1) .i64 x9/\j (a1 !=(u64 x9),()) a) (j (false,()) a)))))))) λs4 _ w5=>CND s4.1 (K none 1 w5) (NC r1.base λT=>Br a2 r1.len/\ ∃v,AU w5.drew (aD T a2 4) .i64 v/\NC r1.base λY=>Br a2 r1.len/\ ∃J,AU w5.drew ((aD Y a2 4).add 2) .i64 J/\NC r1.base λaA=>Br a2 r1.len/\ ∃O,AU w5.drew ((aD aA a2 4).add 3) .u32 O/\AC #[iU (u64 (a0*8192)),iI (i64 a1),iI 1,iI a2,.bool a3,iI v,iI J,vI,.bool false,.bool false,.int .u32 O,vS,vS,vI] E.Eu w5.drew λu e=>e.cell? ((aD aA a2 4).add 3)=some (.int .u32 O)/\e.cell? ((aD Y a2 4).add 2)=some (iI J)/\e.cell? (aD T a2 4)=some (iI v)/\CND (a2==0) (stCells ((mA u).add 5) 0 [iI (i64 ((i64 a1)*8192))] e λaC=>stCells ((mA u).add 6) 0 [iI 1] aC λaE=>K (sM u) 0 aE) (K (sM u) 0 e))) w
def F.KX:Y99:=T0.KX E (F.Fc E)
def F.Q5(E:Env):pP:=λa0 K w=>
 cD (a0≥0) (K (decide (a0<64)) w) (K false w)
def T0.Ch(q0:Tc):oD:=λa0 a1 K w=>
 CND (a1==0) (K 0 false w) (NC a0 λp1=>q0 (some (p1.add 2)) (λT w3=>BK (Int×Unit) (0,()) w3 λs4 _ O j=>cD (s4.1<((T.len:Nat):Int)) (NC T.base λp7=>Br s4.1 T.len/\ ∃c8,AU O ((aD p7 s4.1 2).add 0) .u64 c8/\ ∃c9,AU O ((aD p7 s4.1 2).add 1) .u64 c9/\AC #[vU,vU] E.AB O λe Y=>stCells (mA e) 0 [iU c8,iU c9] Y λa=> ∃u,AU a ((mA e).add 1) .u64 u/\ ∃v,AU a (mA e) .u64 v/\cD (((u64 (u-v)):Int)≥a1) (∃J,AU a (mA e) .u64 J/\K J true a) (j (i64 (s4.1+1),()) a)) (K 0 false O)) w)
def F.Ch:oD:=T0.Ch E (F.Dq E)
def T0.Ci(E:Env)(q0:Y94)(Y:PU)(e:Qx)(q3:Y3):cF:=λa0 a1 a2 K w=>
 q0 a0 a1 a2 true 32 (λr1 v=>CND (r1 !=0) (K 0 r1 v) (NC a0 λJ=>Y (some (J.add 4)) a1 (u64 (a1+a2)) (λr4 w5=>NC a0 λO=>e (some (O.add 2)) a1 (u64 (a1+a2)) (λw7=>NC a0 λT=>e (some (T.add 4)) a1 (u64 (a1+a2)) (λw9=>NC a0 λa=>e (some (a.add 6)) a1 (u64 (a1+a2)) (λj=>q3 a0 (λu=>K r4 0 u) j) w9) w7) w5) v)) w
def F.Ci:cF:=T0.Ci E (F.C3 E) (F.Ay E) (F.BW E) (F.DB E)
def T0.Df(E:Env)(q0:oD)(q1:Tr)(q2:cF):dG:=λa0 a1 K w=>
 q0 a1 1 (λr1 r2 w3=>q1 a0 (λr4 Y=>CND (!r4) (K 33 Y) (CND (!r2) (K 30 Y) (64≠(0:Int)/\NC a0 λp6=>stCells p6 0 [iU (u64 ((u64 (Int.tdiv r1 64))*64))] Y λw7=>BK (Int×Unit) (0,()) w7 λs8 _ w9 a=>cD (s8.1<64) (MX a0 w9 .u64 λaB=>q2 a1 (u64 (aB+s8.1)) 1 (λJ O e=>CND (O==0) (rI a0 e 1 .u64 λaC=>(0:Int)<=s8.1/\NC a0 λu=>stCells (u.add 1) 0 [iU (EA .u64 1 aC (u64 (1*2^(min (Int.toNat s8.1) (IntKind.bits .u64)))))] e λj=>rI a0 j 2 .u64 λaD=>(0:Int)<=s8.1/\NC a0 λv=>stCells (v.add 2) 0 [iU (EA .u64 1 aD (u64 (J*2^(min (Int.toNat s8.1) (IntKind.bits .u64)))))] j λT=>a (u64 (s8.1+1),()) T) (a (u64 (s8.1+1),()) e)) w9) (K 0 w9)))) w3) w
def F.Df:dG:=T0.Df E (F.Ch E) (F.Ef E) (F.Ci E)
def T0.G3(E:Env)(q0:Sp):vX:=λa0 a1 K w=>
 BK (Int×Int×Int×Unit) (a0,a1,i64 (a1-1),()) w λs1 _ u e=>cD (s1.2.2.1>0) (2≠(0:Int)/\JB (PR s1.2.2.1 (LI 1 (i64 (Int.tdiv s1.2.1 2))):Int) λa=>(0:Int)<=a/\JB (EA .u64 0 s1.1 (Int.fdiv s1.1 (2^(min (Int.toNat a) (IntKind.bits .u64)))):Int) λj=>e (j,i64 (s1.2.1-a),i64 (s1.2.2.1-a),()) u) (q0 s1.1 (λv J=>K v (s1.1 !=0) J) u)
def F.G3:vX:=T0.G3 E (F.BO E)
def F.F2(E:Env):Sp:=λa0 K w=>
 (0:Int)<=1/\JB (u64 ((EA .u64 0 (Int.fdiv a0 (2^(min (Int.toNat 1) (IntKind.bits .u64)))) 6148914691236517205)+(EA .u64 0 a0 6148914691236517205)):Int) λa=>(0:Int)<=2/\JB (u64 ((EA .u64 0 (Int.fdiv a (2^(min (Int.toNat 2) (IntKind.bits .u64)))) 3689348814741910323)+(EA .u64 0 a 3689348814741910323)):Int) λe=>(0:Int)<=4/\JB (EA .u64 0 (u64 ((Int.fdiv e (2^(min (Int.toNat 4) (IntKind.bits .u64))))+e)) 1085102592571150095:Int) λj=>(0:Int)<=8/\JB (u64 (j+(Int.fdiv j (2^(min (Int.toNat 8) (IntKind.bits .u64))))):Int) λu=>(0:Int)<=16/\JB (u64 (u+(Int.fdiv u (2^(min (Int.toNat 16) (IntKind.bits .u64))))):Int) λv=>(0:Int)<=32/\JB (u64 (v+(Int.fdiv v (2^(min (Int.toNat 32) (IntKind.bits .u64))))):Int) λJ=>JB (EA .i64 0 (i64 J) 127:Int) λt7=>K t7 w
def T0.Cb(E:Env)(q0:vX)(q1:Sp):Xt:=λa0 a1 K w=>
 At (Bool×Unit) (λJ1=>cD (a1<1) (J1 (true,()) w) (J1 (decide (a1>64),()) w)) λs2 _ Y=>CND s2.1 (K 0 0 1 Y) (rI a0 Y 1 .u64 λx5=>q0 x5 a1 (λT r7 w8=>CND (!r7) (K 0 0 30 w8) ((0:Int)<=(i64 (64-a1))/\(0:Int)<=T/\JB (u64 ((Int.fdiv 18446744073709551615 (2^(min (Int.toNat (i64 (64-a1))) (IntKind.bits .u64))))*2^(min (Int.toNat T) (IntKind.bits .u64))):Int) λa=>rI a0 w8 2 .u64 λaB=>q1 (EA .u64 0 aB a) (λO e=>rI a0 e 1 .u64 λaC=>NC a0 λv=>stCells (v.add 1) 0 [iU (EA .u64 3 aC a)] e λj=>rI a0 j 2 .u64 λaD=>NC a0 λJ=>stCells (J.add 2) 0 [iU (EA .u64 3 aD a)] j λu=>MX a0 u .u64 λaE=>K (u64 (aE+(u64 T))) O 0 u) w8)) Y)
def F.Cb:Xt:=T0.Cb E (F.G3 E) (F.F2 E)
def T0.Az(E:Env)(q0:oD)(e:cF):Xt:=λa0 a1 K w=>
 CND (a1==0) (K 0 0 1 w) (q0 a0 a1 (λr1 j a=>CND (!j) (K 0 0 30 a) (e a0 r1 a1 (λu v J=>K r1 u v J) a)) w)
def F.Az:Xt:=T0.Az E (F.Ch E) (F.Ci E)
def T0.DF(E:Env)(q0:pP)(q1:Tr)(q2:dG)(q3:Xt)(q4:Xt):Ze:=λa0 a1 a2 K w=>
 At Unit (λJ1=>At (Bool×Unit) (λJ4=>q0 a1 (λr7 w8=>CND r7 (J4 (decide (a2<16),()) w8) (J4 (false,()) w8)) w) λs5 _ w6=>CND s5.1 (NC a0 λp9=>Br a1 64/\ ∃a,Da w6 ((p9.add 5).add (Int.toNat a1*1)) a/\At Unit (λj=>q1 a (λv e=>CND v (rP a0 e 1 λaE=>q2 a aE (λaP aB=>j (()) aB) e) (j (()) e)) w6) λFj _ aA=>q3 a (i64 a2) (λJ aQ O u=>CND (O==0) (K J true u) (J1 (()) u)) aA) (J1 (()) w6)) λs2 _ w3=>rP a0 w3 1 λaF=>q4 aF a2 (λT aR Y aC=>K T (Y==0) aC) w3
def F.DF:Ze:=T0.DF E (F.Q5 E) (F.Ef E) (F.Df E) (F.Cb E) (F.Az E)
def F.HT(E:Env):vY:=λa0 K w=>
 NC a0 λp1=> ∃x2,EW w p1 x2/\cD ((((x2.len:Nat):Int):Int)>0) (NC a0 λv=> ∃j,EW w v j/\NC j.base λJ=>Br 0 j.len/\ ∃u,FC w (aD J 0 1) u/\NC a0 λO=> ∃a,EW w O a/\((0:Int)<=1/\(1:Int)<=(a.len:Nat))/\NC a0 λT=>stCells T 0 [.slice (KE a.base a.cap (Int.toNat 1) 1) (a.len-(Int.toNat 1)) (a.cap-(Int.toNat 1))] w λe=>K u true e) (K false false w)
def F.EL(E:Env):lL:=λa0 K w=>
 NC a0 λp1=> ∃x2,EW w p1 x2/\cD ((((x2.len:Nat):Int):Int)>0) (NC a0 λv=> ∃j,EW w v j/\NC j.base λJ=>Br 0 j.len/\ ∃u,AU w (aD J 0 1) .u64 u/\NC a0 λO=> ∃a,EW w O a/\((0:Int)<=1/\(1:Int)<=(a.len:Nat))/\NC a0 λT=>stCells T 0 [.slice (KE a.base a.cap (Int.toNat 1) 1) (a.len-(Int.toNat 1)) (a.cap-(Int.toNat 1))] w λe=>K u true e) (K 0 false w)
def T0.EF(E:Env)(q0:PU):Y88:=λa0 a1 a2 K w=>
 512≠(0:Int)/\CND (((Int.tmod a1 512):Int)==0) (CND (a1 !=0) (cD (a1<=34359738368) (cD (a2<=(u64 (34359738368-a1))) (NC a0 λp1=>q0 (some (p1.add 3)) a1 (u64 (a1+a2)) (λa e=>K (a==0) e) w) (K false w)) (K false w)) (K false w)) (K false w)
def F.EF:Y88:=T0.EF E (F.Ay E)
def T0.Dk(q0:Tc)(q1:Y88):Ze:=λa0 a1 a2 K w=>
 cD (a1>34359738368) (K 0 false w) (512≠(0:Int)/\JB (LI (u64 ((u64 (Int.tdiv (u64 ((u64 (a1+512))-1)) 512))*512)) 512:Int) λJ=>At (Int×Unit) (λJ2=>NC a0 λp5=>q0 (some (p5.add 3)) (λr6 w7=>BK (Int×Int×Unit) (J,0,()) w7 λs8 _ w9 e=>cD (s8.2.1<((r6.len:Nat):Int)) (NC r6.base λY=>Br s8.2.1 r6.len/\ ∃O,AU w9 ((aD Y s8.2.1 2).add 0) .u64 O/\ ∃T,AU w9 ((aD Y s8.2.1 2).add 1) .u64 T/\AC #[vU,vU] E.AB w9 λj aJ=>stCells (mA j) 0 [iU O,iU T] aJ λa=> ∃aB,AU a ((mA j).add 1) .u64 aB/\cD (aB<=s8.1) (e (s8.1,i64 (s8.2.1+1),()) a) (At Unit (λv=> ∃aC,AU a (mA j) .u64 aC/\cD (aC≥s8.1) (∃aE,AU a (mA j) .u64 aE/\cD (((u64 (aE-s8.1)):Int)≥a2) (J2 (s8.1,()) a) (v (()) a)) (v (()) a)) λJR _ aA=> ∃aF,AU aA ((mA j).add 1) .u64 aF/\512≠(0:Int)/\JB (u64 ((u64 (Int.tdiv (u64 ((u64 (aF+512))-1)) 512))*512):Int) λu=>e (u,i64 (s8.2.1+1),()) aA)) (J2 (s8.1,()) w9)) w) λs3 _ w4=>q1 a0 s3.1 a2 (λaH aK=>K s3.1 aH aK) w4)
def F.Dk:Ze:=T0.Dk E (F.Dq E) (F.EF E)
def T0.D0(q0:vY)(q1:lL)(q2:Y88)(q3:Ze)(q4:Qx):cF:=λa0 a1 a2 K w=>
 At (Bool×Unit) (λJ=>CND (a2==0) (J (true,()) w) (512≠(0:Int)/\CND (((Int.tmod a2 512):Int) !=0) (J (true,()) w) (J (decide (a2>134217728),()) w))) λs2 _ w3=>CND s2.1 (K 0 1 w3) (NC a0 λp4=>q0 (some (p4.add 1)) (λr5 r6 w7=>CND r5 (K 0 13 w7) (NC a0 λp8=>q1 (some p8) (λr9 Y u=>At (Bool×Unit) (λj=>CND Y (q2 a0 r9 a2 (λaA aE=>j (aA,()) aE) u) (j (false,()) u)) λIS _ aD=>AC ⟨[iU a1,vU]⟩ E.AF aD λO aF=>BK (Int×Bool×Int×Unit) (r9,IS.1,0,()) aF λJR _ e a=>cD (JR.2.2.1<2) (Br JR.2.2.1 2/\ ∃v,AU e ((mA O).add (Int.toNat JR.2.2.1*1)) .u64 v/\CND (!JR.2.1) (q3 a0 v a2 (λaB aC aG=>a (aB,aC,i64 (JR.2.2.1+1),()) aG) e) (a (JR.1,JR.2.1,i64 (JR.2.2.1+1),()) e)) (CND (!JR.2.1) (K 0 13 e) (NC a0 λT=>q4 (some (T.add 3)) JR.1 (u64 (JR.1+a2)) (λaH=>K JR.1 0 aH) e))) w7)) w3)
def F.D0:cF:=T0.D0 E (F.HT E) (F.EL E) (F.EF E) (F.Dk E) (F.A3 E)
def T0.DL(E:Env)(q0:PU)(v:Qx)(q2:Y3):PU:=λa0 a1 a2 K w=>
 At (Bool×Unit) (λe=>CND (a2==0) (e (true,()) w) (cD (a2>262144) (e (true,()) w) (cD (a1>67108864) (e (true,()) w) (e (decide (a2>(u64 (67108864-a1))),()) w)))) λs2 _ Y=>CND s2.1 (K 1 Y) (JB (u64 ((u64 (a1+a2))*512):Int) λa=>NC a0 λp5=>q0 (some p5) (u64 (a1*512)) a (λr6 w7=>cD (r6>0) (K 34 w7) (NC a0 λp8=>v (some p8) (u64 (a1*512)) a (λw9=>NC a0 λj=>v (some (j.add 2)) (u64 (a1*512)) a (λJ=>NC a0 λu=>v (some (u.add 4)) (u64 (a1*512)) a (λO=>q2 a0 (λT=>K 0 T) O) J) w9) w7)) Y)
def F.DL:PU:=T0.DL E (F.Ay E) (F.A3 E) (F.DB E)
def T0.E3(E:Env)(q0:Qx):Qx:=λa0 a1 a2 K w=>
 NC a0 λp1=>q0 (some p1) a1 a2 K w
def F.E3:Qx:=T0.E3 E (F.A3 E)
def T0.Cj(E:Env)(q0:cF)(q1:PU)(q2:Qx):Kj:=λa0 a1 K w=>
 512≠(0:Int)/\JB (u64 ((u64 (Int.tdiv (u64 ((u64 (a1+512))-1)) 512))*512):Int) λa=>Hb a0 w.drew λx3=>rI a0 w.drew 69 .u64 λx5=>q0 x3 x5 a (λO r7 w8=>CND (r7 !=0) (K 13 w8) (NC a0 λp9=>stCells (p9.add 69) 0 [iU (u64 (O+a))] w8 λv=>rP a0 v 1 λT=>512≠(0:Int)/\512≠(0:Int)/\q1 T (u64 (Int.tdiv O 512)) (u64 (Int.tdiv a 512)) (λaE e=>rP a0 e.drew 2 λY=>512≠(0:Int)/\NC a0 λu=> ∃j,AU e.drew (u.add 69) .u64 j/\512≠(0:Int)/\q2 Y (u64 (Int.tdiv O 512)) (u64 (Int.tdiv j 512)) (λJ=>J.cell? (u.add 69)=some (iU j)/\K 0 J) e.drew) v)) w.drew
def F.Cj:Kj:=T0.Cj E (F.D0 E) (F.DL E) (F.E3 E)
def F.LZ(E:Env):Y74:=λa0 a1 K w=>
 CND (a1 !=0) (cD (a0<=34359738368) (K (decide (a1<=(u64 (34359738368-a0)))) w) (K false w)) (K false w)
def T0.BX(q0:Kj):pQ:=λa0 a1 a2 K w=>
 q0 a0 a1 (λr1 w2=>BK (AY×Int×Unit) (⟨none,0,0⟩,r1,()) w2 λs3 _ v T=>NC a0 λp6=> ∃x7:AY,v.cell? p6=some (.slice x7.base x7.len x7.cap)/\cD ((s3.2.1:Int)<((x7.len:Nat):Int)) (NC a0 λp8=> ∃x9:AY,v.cell? p8=some (.slice x9.base x9.len x9.cap)/\NC x9.base λaH=>((0:Int)<=s3.2.1/\(s3.2.1:Int)<(x9.len:Nat))/\ ∃aE:Int,v.cell? (aD aH s3.2.1 2)=some (iU aE)/\cD ((aE:Int)<a2) (NC a0 λY=> ∃a:AY,v.drew.cell? Y=some (.slice a.base a.len a.cap)/\NC a.base λaA=>((0:Int)<=s3.2.1/\(s3.2.1:Int)<(a.len:Nat))/\ ∃J:Int,v.drew.cell? (aD aA s3.2.1 2)=some (iU J)/\NC a0 λaB=> ∃e:AY,v.drew.cell? aB=some (.slice e.base e.len e.cap)/\NC e.base λaC=>((0:Int)<=s3.2.1/\(s3.2.1:Int)<(e.len:Nat))/\ ∃O:Int,v.drew.cell? ((aD aC s3.2.1 2).add 1)=some (iU O)/\AC ⟨[iU (LI J a1),iU (PR O a2)]⟩ E.AB v.drew λaG j=>j.cell? ((aD aC s3.2.1 2).add 1)=some (iU O)/\j.cell? aB=some (.slice e.base e.len e.cap)/\j.cell? (aD aA s3.2.1 2)=some (iU J)/\j.cell? Y=some (.slice a.base a.len a.cap)/\APP E.AB 2 16 #[vU,vU] s3.1 ⟨(sM aG),1,1⟩ j λwH u=>u.cell? ((aD aC s3.2.1 2).add 1)=some (iU O)/\u.cell? aB=some (.slice e.base e.len e.cap)/\u.cell? (aD aA s3.2.1 2)=some (iU J)/\u.cell? Y=some (.slice a.base a.len a.cap)/\T (wH,i64 (s3.2.1+1),()) u) (K s3.1 v)) (K s3.1 v)) w
def F.BX:pQ:=T0.BX E (F.DD E)
def T0.CJ(q0:Y74)(q1:PU)(q2:vY)(q3:pQ)(q4:lL)(q5:Qx)(q6:Qx):PU:=λa0 a1 a2 K w=>
 q0 a1 a2 (λr1 w2=>CND (!r1) (K 1 w2) (NC a0 λp3=>q1 (some (p3.add 3)) a1 (u64 (a1+a2)) (λr4 w5=>CND (r4 !=a2) (K 33 w5) (NC a0 λp6=>q1 (some (p6.add 5)) a1 (u64 (a1+a2)) (λr7 w8=>CND (r7==a2) (K 0 w8) (NC a0 λp9=>q2 (some (p9.add 1)) (λaQ bC aE=>CND aQ (K 13 aE) (At Unit (λT=>NC a0 λaK=>q3 (some (aK.add 7)) a1 (u64 (a1+a2)) (λJ aS=>BK (Int×Unit) (0,()) aS λJR _ u j=>cD (JR.1<((J.len:Nat):Int)) (NC J.base λaB=>Br JR.1 J.len/\ ∃Y,AU u ((aD aB JR.1 2).add 0) .u64 Y/\ ∃aA,AU u ((aD aB JR.1 2).add 1) .u64 aA/\AC #[vU,vU] E.AB u λv aT=>stCells (mA v) 0 [iU Y,iU aA] aT λaF=> ∃aG,AU aF (mA v) .u64 aG/\BK (Int×Unit) (aG,()) aF λLp _ e a=> ∃aH,AU e ((mA v).add 1) .u64 aH/\cD (Lp.1<aH) (NC a0 λaL=> ∃aI,EW e (aL.add 2) aI/\CND ((((aI.len:Nat):Int):Int)==0) (T (()) e) (NC a0 λaM=>q4 (some (aM.add 2)) (λaC bD O=>CND (aC !=0) (NC a0 λaN=> ∃aJ,Nv O (aN.add 9) aJ/\KT .u64 Lp.1 (iU aC) aJ O λaU=>a (u64 (Lp.1+1),()) aU) (a (u64 (Lp.1+1),()) O)) e)) (j (i64 (JR.1+1),()) e)) (T (()) u)) aE) λM6 _ aR=>NC a0 λaO=>q5 (some (aO.add 7)) a1 (u64 (a1+a2)) (λaV=>NC a0 λaP=>q6 (some (aP.add 5)) a1 (u64 (a1+a2)) (λaW=>K 0 aW) aV) aR)) w8)) w5)) w2)) w
def F.CJ:PU:=T0.CJ E (F.LZ E) (F.Ay E) (F.HT E) (F.BX E) (F.EL E) (F.BW E) (F.A3 E)
def T0.Fx(E:Env)(q0:pQ):pQ:=λa0 a1 a2 K w=>
 NC a0 λp1=>q0 (some (p1.add 5)) a1 a2 K w
def F.Fx:pQ:=T0.Fx E (F.BX E)
def T0.DM(E:Env)(q0:Y95):PU:=λa0 a1 a2 K w=>
 NC a0 λp1=>q0 a0 a1 a2 (some (p1.add 4)) K w
def F.DM:PU:=T0.DM E (F.DU E)
def T0.Ck(q0:pQ)(q1:PU)(q2:PU):Qx:=λa0 a1 a2 K w=>
 Hb a0 w λx2=>q0 x2 a1 (u64 (a1+a2)) (λr3 w4=>BK (Int×Int×Unit) (a1,0,()) w4 λs5 _ w6 u=>cD (s5.2.1<((r3.len:Nat):Int)) (NC r3.base λp8=>Br s5.2.1 r3.len/\ ∃c9,AU w6 ((aD p8 s5.2.1 2).add 0) .u64 c9/\ ∃Y,AU w6 ((aD p8 s5.2.1 2).add 1) .u64 Y/\AC #[vU,vU] E.AB w6 λa aF=>stCells (mA a) 0 [iU c9,iU Y] aF λv=>rP a0 v.drew 1 λaH=> ∃J,AU v.drew (mA a) .u64 J/\q1 aH s5.1 (u64 (J-s5.1)) (λaO e=>e.cell? (mA a)=some (iU J)/\rP a0 e.drew 1 λaI=> ∃aB,AU e.drew (mA a) .u64 aB/\ ∃O,AU e.drew ((mA a).add 1) .u64 O/\ ∃T,AU e.drew (mA a) .u64 T/\q2 aI aB (u64 (O-T)) (λaP j=>j.cell? (mA a)=some (iU T)/\j.cell? ((mA a).add 1)=some (iU O)/\ ∃aC,AU j ((mA a).add 1) .u64 aC/\u (aC,i64 (s5.2.1+1),()) j) e.drew) v.drew) (rP a0 w6 1 λaJ=>q1 aJ s5.1 (u64 ((u64 (a1+a2))-s5.1)) (λaQ aG=>K aG) w6)) w
def F.Ck:Qx:=T0.Ck E (F.Fx E) (F.DM E) (F.Cf E)
def T0.A7(E:Env)(q0:Qx):Y105:=λa0 a1 a2 a K w=>
 MX a0 w .i64 λx2=>CND (x2 !=0) (Hb a1 w λe=>MX a2 w .u64 λj=>MX a w .u64 λu=>q0 e j u K w) (K w)
def F.A7:Y105:=T0.A7 E (F.Ck E)
def T0.DN(q0:Ze)(q1:Kj)(q2:Xt)(q3:PU):cF:=λa0 a1 a2 K w=>
 AC #[.pointer a0] E.A9 w λb1 w2=>AC #[iU a2] E.AF w2 λY w4=>AC #[vI] E.Bn w4 λe w6=> ∃x7,Da w6 (mA b1) x7/\ ∃x8,AU w6 (mA Y) .u64 x8/\q0 x7 a1 x8 (λr9 aO j=>At (Int×Unit) (λaA=>CND (!aO) (∃aF,Da j (mA b1) aF/\ ∃aG,AU j (mA Y) .u64 aG/\q1 aF aG (λaP aT=>stCells (mA e) 0 [iI aP] aT λa=> ∃aH,AU a (mA e) .i64 aH/\CND (aH !=0) (∃aI,AU a.drew (mA e) .i64 aI/\stCells (mA e) 0 [iI aI] a.drew λaB=> ∃aJ,AU aB (mA e) .i64 aJ/\K 0 aJ aB) (∃O,Da a.drew (mA b1) O/\rP O a.drew 1 λaY=> ∃aK,AU a.drew (mA Y) .u64 aK/\q2 aY aK (λaQ a8 a9 aC=>aC.cell? (mA b1)=some (.pointer O)/\aA (aQ,()) aC) a.drew)) j) (aA (r9,()) j)) λIS _ aS=>AC #[vU] E.AF aS λv aU=>stCells (mA v) 0 [iU IS.1] aU λu=> ∃T,Da u.drew (mA b1) T/\Hb T u.drew λaZ=> ∃aL,AU u.drew (mA Y) .u64 aL/\q3 aZ IS.1 aL (λaR J=>J.cell? (mA b1)=some (.pointer T)/\CND (aR !=0) (stCells (mA e) 0 [iI 13] J λaV=>F.A7 E (sM e) (sM b1) (sM v) (sM Y) (λaD=> ∃aM,AU aD (mA e) .i64 aM/\K 0 aM aD) aV) (stCells (mA e) 0 [vI] J λaW=>F.A7 E (sM e) (sM b1) (sM v) (sM Y) (λaE=> ∃aN,AU aE (mA e) .i64 aN/\K IS.1 aN aE) aW)) u.drew) w6
def F.DN:cF:=T0.DN E (F.DF E) (F.Cj E) (F.Az E) (F.CJ E)
def F.K2:OM:=λa0 K w=>
 rP a0 w 2 λx2=>At ((Option Addr)×Unit) (λJ3=>CND (x2.isNone) (rS a0 w 1 λx7=>AC #[iI (i64 (((x7.len:Nat):Int)+1)),.bool false,vP] E.GJ w λb8 w9=>rS a0 w9 1 λaE=>AC ⟨[.pointer (sM b8)]⟩ E.Fb w9 λj Y=>APP E.Fb 1 8 #[vP] aE (P5 j) Y λM6 aA=>NC a0 λu=>stCells (u.add 1) 0 [BP M6] aA λaB=>J3 ((sM b8),()) aB) (rP x2 w 2 λaF=>NC a0 λv=>stCells (v.add 2) 0 [.pointer aF] w λaC=>J3 (x2,()) aC)) λs4 _ w5=>NC s4.1 λJ=>stCells (J.add 1) 0 [.bool true] w5 λaD=>NC s4.1 λO=>stCells (O.add 2) 0 [vP] aD λa=>rI a0 a 3 .i64 λaG=>NC a0 λT=>stCells (T.add 3) 0 [iI (i64 (aG+1))] a λe=>MX s4.1 e .i64 λaH=>K aH e
def T0.ET(q0:OM)(q1:lM)(q2:Y93):dG:=λa0 a1 K w=>
 rP a0 w 3 λx2=>q0 x2 (λr3 w4=>NC a0 λp5=> ∃x6,Nv w4 (p5.add 4) x6/\KT .i64 r3 (.pointer a1) x6 w4 λw7=>q1 a1 (λr8 r9 T Y aA aB aC aD aE aF aH=>AC #[vU,vI,vI,vI,.bool false,vI,vI,vI,.bool false,.bool false] E.BD aH λa aI=>stCells (mA a) 0 [iU r8,iI r9,iI T,iI Y,.bool aA,iI aB,iI aC,iI aD,.bool aE,.bool aF] aI λj=>rP a0 j.drew 2 λaK=> ∃u,AU j.drew (mA a) .u64 u/\8192≠(0:Int)/\ ∃v,AU j.drew ((mA a).add 1) .i64 v/\q2 aK (u64 (Int.tdiv u 8192)) (u64 v) r3 (λaR e=>e.cell? ((mA a).add 1)=some (iI v)/\e.cell? (mA a)=some (iU u)/\rI a0 e.drew 70 .u64 λaL=> ∃J,AU e.drew ((mA a).add 1) .i64 J/\NC a0 λO=>stCells (O.add 70) 0 [iU (u64 (aL+(u64 J)))] e.drew λaJ=>K r3 aJ) j.drew) w7) w
def F.ET:dG:=T0.ET E (F.K2 E) (F.Av E) (F.Dj E)
def T0.D5(E:Env)(q0:Y99)(T:cF)(Y:dG):vZ:=λa0 a1 a2 j u K w=>
 q0 0 a2 j u (λr1 r2 J=>CND (r2 !=0) (K 0 1 J) (T a0 a1 a2 (λr4 v O=>CND (v !=0) (K 0 v O) (q0 r4 a2 j u (λr7 r8 w9=>Y a0 r7 (λa e=>K a 0 e) w9) O)) J)) w
def F.D5:vZ:=T0.D5 E (F.KX E) (F.DN E) (F.ET E)
def T0.DG(E:Env)(q0:Y44)(O:u6)(T:u7)(Y:lM):Kj:=λa0 a1 K w=>
 Hb a0 w λx2=>q0 x2 a1 (λv r4 w5=>O v (λr6 r7 J=>rP a0 J 3 λu=>T u a1 true (λaA e=>Y v (λa aB aC aD aE aF aG aH aI aJ j=>K a j) e) J) w5) w
def F.DG:Kj:=T0.DG E (F.Dp E) (F.Di E) (F.BC E) (F.Av E)
def T0.FV(q0:vZ)(q1:Y30)(q2:Y81)(q3:vW)(q4:Kj)(q5:Y77):Vy:=λa0 a1 K w=>
 NC a1 λp1=> ∃c2,AU w ((p1.add 4).add 0) .i64 c2/\ ∃c3,FC w ((p1.add 4).add 1) c3/\ ∃c4,FC w ((p1.add 4).add 2) c4/\ ∃c5,AU w ((p1.add 4).add 3) .u64 c5/\AC #[vI,.bool false,.bool false,vU] E.Bt w λe w7=>stCells (mA e) 0 [iI c2,.bool c3,.bool c4,iU c5] w7 λw8=>NC a0 λp9=> ∃aG,Da w8.drew p9 aG/\Hb aG w8.drew λbI=>MX a1 w8.drew .i64 λbJ=> ∃aQ,AU w8.drew ((mA e).add 3) .u64 aQ/\ ∃aR,AU w8.drew (mA e) .i64 aR/\ ∃aS,FC w8.drew ((mA e).add 1) aS/\q0 bI bJ aQ aR aS (λaN aO aP=>aP.cell? p9=some (.pointer aG)/\NC a0 λaX=>stCells (aX.add 6) 0 [iI (-1)] aP λa=>CND (aO !=0) (q1 a0 a1 0 0 aO K a) (∃aT,AU a (mA e) .i64 aT/\cD (aT>0) (NC a0 λaJ=> ∃aH,Da a.drew aJ aH/\NC aH λaK=> ∃aA,EW a.drew (aK.add 4) aA/\NC a1 λaL=> ∃aB,AU a.drew aL .i64 aB/\NC aA.base λaY=>Br aB aA.len/\ ∃aU,Da a.drew (aD aY aB 1) aU/\ ∃aV,AU a.drew (mA e) .i64 aV/\ ∃aW,FC a.drew ((mA e).add 1) aW/\q2 aU aV aW aN (λY=>Y.cell? aL=some (iI aB)/\Y.cell? (aK.add 4)=some (BP aA)/\Y.cell? aJ=some (.pointer aH)/\NC a1 λaZ=>stCells (aZ.add 2) 0 [iI 1] Y λbG=>K bG) a.drew) (NC a0 λaE=> ∃aC,Da a.drew aE aC/\ ∃v,AU a.drew ((mA e).add 0) .i64 v/\ ∃J,FC a.drew ((mA e).add 1) J/\ ∃O,FC a.drew ((mA e).add 2) O/\ ∃T,AU a.drew ((mA e).add 3) .u64 T/\NC a0 λaM=> ∃aI,Da a.drew aM aI/\q3 a0 a1 (λa2 a3 a4 a5 a6 a7 a8 a9 bA bB j=>j.cell? aM=some (.pointer aI)/\(j.cell? ((mA e).add 0)=some (iI v)/\(j.cell? ((mA e).add 1)=some (.bool J)/\(j.cell? ((mA e).add 2)=some (.bool O)/\(j.cell? ((mA e).add 3)=some (iU T)/\True))))/\j.cell? aE=some (.pointer aC)/\q4 aI aN (λbC u=>(u.cell? ((mA e).add 0)=some (iI v)/\(u.cell? ((mA e).add 1)=some (.bool J)/\(u.cell? ((mA e).add 2)=some (.bool O)/\(u.cell? ((mA e).add 3)=some (iU T)/\True))))/\u.cell? aE=some (.pointer aC)/\q5 aC a2 a3 a4 a5 a6 a7 a8 a9 bA bB v J O T bC (λbD bE bF bH=>q1 a0 a1 bD bE bF K bH) u) j) a.drew))) w8.drew
def F.FV:Vy:=T0.FV E (F.D5 E) (F.Cp E) (F.Cr E) (F.En E) (F.DG E) (F.Bo E)
def T0.Bb(q0:Tc)(q1:Qx)(q2:Qx):Wn:=λa0 a1 K w=>
 NC a0 λp1=>q0 (some (p1.add 6)) (λJ w3=>At (Bool×Unit) (λJ4=>CND ((((J.len:Nat):Int):Int)==0) (J4 (true,()) w3) (J4 (a1==0,()) w3)) λs5 _ w6=>CND s5.1 (K 0 0 w6) (NC J.base λp7=>Br (i64 (((J.len:Nat):Int)-1)) J.len/\ ∃c8:Int,w6.cell? ((p7.add (Int.toNat (i64 (((J.len:Nat):Int)-1))*2)).add 0)=some (iU c8)/\ ∃c9:Int,w6.cell? ((p7.add (Int.toNat (i64 (((J.len:Nat):Int)-1))*2)).add 1)=some (iU c9)/\AC #[vU,vU] E.AB w6 λj aD=>stCells (mA j) 0 [iU c8,iU c9] aD λv=> ∃O,AU v (mA j) .u64 O/\ ∃T,AU v ((mA j).add 1) .u64 T/\512≠(0:Int)/\JB (LI O (u64 ((u64 (Int.tdiv (u64 (T-1)) 512))*512)):Int) λu=> ∃Y,AU v ((mA j).add 1) .u64 Y/\JB (PR (u64 (Y-u)) a1:Int) λa=> ∃e,AU v ((mA j).add 1) .u64 e/\NC a0 λaB=>q1 (some (aB.add 6)) (u64 (e-a)) (u64 ((u64 (e-a))+a)) (λaE=>NC a0 λaC=>q2 (some (aC.add 4)) (u64 (e-a)) (u64 ((u64 (e-a))+a)) (λaF=>K (u64 (e-a)) a aF) aE) v)) w
def F.Bb:Wn:=T0.Bb E (F.Dq E) (F.BW E) (F.A3 E)
def T0.DW(E:Env)(q0:Y74)(q1:PU)(q2:Qx)(q3:Qx)(q4:Y73)(q5:Y73):PU:=λa0 a1 a2 K w=>
 q0 a1 a2 (λr1 O=>CND (!r1) (K 1 O) (NC a0 λp3=>q1 (some (p3.add 5)) a1 (u64 (a1+a2)) (λr4 T=>CND (r4 !=a2) (K 33 T) (NC a0 λp6=>q2 (some (p6.add 5)) a1 (u64 (a1+a2)) (λw7=>NC a0 λp8=>q3 (some (p8.add 7)) a1 (u64 (a1+a2)) (λY=>NC a0 λu=> ∃e,Nv Y (u.add 9) e/\q4 e a1 (u64 (a1+a2)) (λa=>NC a0 λv=> ∃j,Nv a (v.add 10) j/\q5 j a1 (u64 (a1+a2)) (λJ=>K 0 J) a) Y) w7) T)) O)) w
def F.DW:PU:=T0.DW E (F.LZ E) (F.Ay E) (F.BW E) (F.A3 E) (F.Gi E) (F.EJ E)
def T0.Cx(E:Env)(q0:Wn)(O:PU):Kj:=λa0 a1 K w=>
 BK (Int×Unit) (a1,()) w λs1 _ u a=>cD (s1.1>0) (rP a0 u 1 λx5=>q0 x5 s1.1 (λY e v=>CND (e==0) (K (u64 (a1-s1.1)) v) (Hb a0 v λJ=>O J Y e (λT j=>a (u64 (s1.1-e),()) j) v)) u) (K (u64 (a1-s1.1)) u)
def F.Cx:Kj:=T0.Cx E (F.Bb E) (F.DW E)
def T0.EU(E:Env)(q0:OM)(e:Kj):Kj:=λa0 a1 K w=>
 NC a0 λp1=> ∃x2,Da w.drew p1 x2/\q0 a0 (λj a=>a.cell? p1=some (.pointer x2)/\e x2 (PR j a1) K a) w.drew
def F.EU:Kj:=T0.EU E (F.DJ E) (F.Cx E)
def T0.Dg(q0:Y82):OM:=λa0 K w=>
 BK (Int×Unit) (0,()) w λs1 _ Y a=>cD (s1.1<68) (AC ⟨[.bool false,.bool true]⟩ E.Be Y λb4 w5=>BK (Int×Unit) (0,()) w5 λs6 _ T e=>cD (s6.1<2) (Br s6.1 2/\ ∃x9,FC T ((mA b4).add (Int.toNat s6.1*1)) x9/\q0 a0 s1.1 x9 (λv=>e (i64 (s6.1+1),()) v) T) (a (i64 (s1.1+1),()) T)) (NC a0 λj=>stCells (j.add 138) 0 [vU] Y λJ=>NC a0 λu=>stCells (u.add 139) 0 [vI] J λO=>K 0 O)
def F.Dg:OM:=T0.Dg E (F.Bj E)
def F.GG:pR:=λa0 a1 K w=>
 NC a0 λp1=> ∃x2,Nv w (p1.add 2) x2/\ ∃v,N3 w x2 v/\AL (Jz x2 v) w λb4 w5=>BK (Int×Unit) (0,()) w5 λs6 _ w7 a=>At (Bool×Unit) (λJ9=>TZ b4 w7 (λaC=>J9 (false,()) aC) λaJ aK aD=>J9 (true,()) aD) λGM _ O=>At (Bool×Unit) (λaA=>CND GM.1 (aA (GM.1,()) O) (K s6.1 O)) λUl _ T=>oA b4 T λaB v20 aI=>unVT (.agg [.int .i64,.bool,.bool,.bool]) aB λe=>vH v20 λaF=>AC #[vI,.bool false,.bool false,.bool false] E.JQ T λu aE=>stCells (mA u) 0 [iI e.1,.bool e.2.1,.bool e.2.2.1,.bool e.2.2.2.1] aE λj=> ∃Y,FC j ((mA u).add 3) Y/\CND (Y==a1) (JB (i64 (s6.1+((aF.len:Nat):Int)):Int) λJ=>a (J,()) j) (a (s6.1,()) j)
def T0.E4(q0:pR):OM:=λa0 K w=>
 q0 a0 false (λr1 w2=>cD (r1>0) (K 33 w2) (AL (.map #[] 0) w2 λb3 w4=>NC a0 λp5=> ∃x6,Nv w4 (p5.add 2) x6/\ ∃aH,N3 w4 x6 aH/\AL (Jz x6 aH) w4 λb8 w9=>BK Unit (()) w9 λGM _ aR j=>At (Bool×Unit) (λO=>TZ b8 aR (λaS=>O (false,()) aS) λa7 a9 aT=>O (true,()) aT) λM6 _ aI=>At (Bool×Unit) (λaL=>CND M6.1 (aL (M6.1,()) aI) (NC a0 λaN=>stCells (aN.add 2) 0 [.map (some b3)] aI λaU=>K 0 aU)) λs21 _ aJ=>oA b8 aJ λaM aQ a6=>unVT (.agg [.int .i64,.bool,.bool,.bool]) aM λJ=>vH aQ λu=>AC #[vI,.bool false,.bool false,.bool false] E.JQ aJ λe aV=>stCells (mA e) 0 [iI J.1,.bool J.2.1,.bool J.2.2.1,.bool J.2.2.2.1] aV λaW=>stCells ((mA e).add 3) 0 [.bool false] aW λaX=>BK (Int×Unit) (0,()) aX λpV _ a v=>cD (pV.1<((u.len:Nat):Int)) (NC u.base λaO=>Br pV.1 u.len/\ ∃aK,Da a (aD aO pV.1 1) aK/\ ∃T,AU a ((mA e).add 0) .i64 T/\ ∃Y,FC a ((mA e).add 1) Y/\ ∃aA,FC a ((mA e).add 2) aA/\ ∃aB,FC a ((mA e).add 3) aB/\NC aK λaP=>stCells (aP.add 2) 0 [iI T,.bool Y,.bool aA,.bool aB] a λaZ=>v (i64 (pV.1+1),()) aZ) (cD ((((u.len:Nat):Int):Int)>0) (∃aC,AU a ((mA e).add 0) .i64 aC/\ ∃aE,FC a ((mA e).add 1) aE/\ ∃aF,FC a ((mA e).add 2) aF/\ ∃aG,FC a ((mA e).add 3) aG/\cO [iI aC,.bool aE,.bool aF,.bool aG] (BP u) (some b3) a λa1=>j (()) a1) (j (()) a)))) w
def F.E4:OM:=T0.E4 E (F.GG E)
def T0.DH(q0:pR)(q1:Kj)(q2:Y78)(q3:Wn)(q4:Kj)(q5:OM):v7:=λa0 a1 K w=>
 rP a0 w 1 λx2=>q0 x2 false (λr3 w4=>cD (r3>0) (K 33 w4) (BK (Int×Unit) (0,()) w4 λs5 _ v a=>cD (s5.1<((a1.len:Nat):Int)) (NC a1.base λp8=>Br s5.1 a1.len/\ ∃x9,AU v (aD p8 s5.1 1) .u64 x9/\Hb a0 v λaQ=>q1 aQ x9 (λO aM=>q2 a0 O (λe T Y aA aB aC aE aF aG aH aI aJ aN=>AC #[vU,vI,vI,vI,.bool false,vI,vI,vI,.bool false,.bool false] E.BD aN λJ aO=>stCells (mA J) 0 [iU T,iI Y,iI aA,iI aB,.bool aC,iI aE,iI aF,iI aG,.bool aH,.bool aI] aO λj=>CND (aJ !=0) (a (i64 (s5.1+1),()) j) (q3 e x9 (λaK aL u=>CND (aL==0) (q4 e aK (λa2 aP=>a (i64 (s5.1+1),()) aP) u) (a (i64 (s5.1+1),()) u)) j)) aM) v) (rP a0 v 1 λaR=>q5 aR K v))) w
def F.DH:v7:=T0.DH E (F.GG E) (F.ED E) (F.BB E) (F.DK E) (F.EK E) (F.E4 E)
def F.IT(E:Env):lN:=λa0 K w=>
 K a0 w
def T0.GY(E:Env)(q0:lN):lN:=λa0 K w=>
 CND ((EN a0 a0 !=some .eq)) (K 9221120237041090561 w) (q0 a0 K w)
def F.GY:lN:=T0.GY E (F.IT E)
def T0.Jj(E:Env)(q0:lN):SC:=λa0 a1 K w=>
 FRES (Kl .quo (Ng a0) (Ng a1)) w λx1 a=>q0 x1 K a
def F.Jj:SC:=T0.Jj E (F.GY E)
def T0.IG(E:Env)(q0:SC)(e:SC)(j:Y84):SC:=λa0 a1 K w=>
 cD (a1<0) (K 18446744073709551615 w) (q0 (u64 a1) 100 (λr1 O=>e a0 r1 (λu T=>j a0 u 0 (λv J a=>cD (J>0) (K 18446744073709551615 a) (K (LI v 4194304) a)) T) O) w)
def F.IG:SC:=T0.IG E (F.Jj E) (F.Dw E) (F.GF E)
def T0.IH(E:Env)(q0:SC):wA:=λa0 a1 a2 K w=>
 At (Int×Unit) (λe=>cD (a1>a0) (JB (LI (u64 (a1-a0)) 8192:Int) λa=>e (a,()) w) (e (8192,()) w)) λs2 _ j=>q0 a2 s2.1 K j
def F.IH:wA:=T0.IH E (F.Jj E)
def F.HD(E:Env):u9:=λa0 a1 K w=>
 NC a0 λp1=>stCells (p1.add 5) 0 [iU a1] w λj=>NC a0 λa=>stCells (a.add 6) 0 [vU] j λu=>NC a0 λe=>stCells (e.add 7) 0 [vU] u λv=>K v
def T0.Cy(q0:OM)(q1:v7)(q2:u6)(q3:SC)(q4:wA)(q5:u9)(q6:pR):wB:=λa0 a1 K w=>
 AC #[vU,vU,vI] E.CT w λb1 w2=>rS a0 w2 4 λx4=>BK (Int×Unit) (0,()) w2 λs5 _ w6 j=>cD (s5.1<((x4.len:Nat):Int)) (NC x4.base λp8=>Br s5.1 x4.len/\ ∃x9,Da w6 (aD p8 s5.1 1) x9/\q0 x9 (λa3 aL=>j (i64 (s5.1+1),()) aL) w6) (rP a0 w6 3 λaO=>q1 aO a1 (λa4 aM=>q2 a0 (λY aH v=>NC a0 λu=> ∃e,Da v.drew (u.add 3) e/\rI a0 v.drew 8 .i64 λaP=>q3 Y aP (λaI aA=>aA.cell? (u.add 3)=some (.pointer e)/\q4 Y aI aH (λaJ aB=>aB.cell? (u.add 3)=some (.pointer e)/\q5 e aJ (λaC=>rI a0 aC 11 .u64 λaQ=>NC a0 λaG=>stCells (aG.add 11) 0 [iU (u64 (aQ+1))] aC λaE=>rP a0 aE 1 λaR=>q6 aR false (λaK aN=>stCells (mA b1) 0 [vU,iU (u64 aK),vI] aN λa=> ∃J,AU a ((mA b1).add 0) .u64 J/\ ∃O,AU a ((mA b1).add 1) .u64 O/\ ∃T,AU a ((mA b1).add 2) .i64 T/\K J O T a) aE) aB) aA) v.drew) aM) w6)
def F.Cy:wB:=T0.Cy E (F.Dg E) (F.DH E) (F.CY E) (F.IG E) (F.IH E) (F.HD E) (F.GG E)
def F.JH(E:Env):Y112:=λa0 a e j u v J O T Y aA K Kp w=>
 False
def T0.GZ(E:Env)(q0:Y6)(q1:Kj)(q2:vW)(q3:Y112)(q4:Y30):pS:=λa0 a1 K Kp w=>
 At Unit (λJ1=>q0 a0 (λr4 u=>oB a1 r4 u λr6=>CND r6 (rP a0 u 1 λx8=>q1 x8 16 (λr9 aK=>NC a1 λv=>stCells (v.add 2) 0 [vI] aK λaL=>J1 (()) aL) u) (NC a0 λe=> ∃a,Da u.drew e a/\q2 a0 a1 (λO T Y aA aB aC aD aE aF aG j=>j.cell? e=some (.pointer a)/\q3 a O T Y aA aB aC aD aE aF aG (λaH aI aJ aM=>q4 a0 a1 aH aI aJ (λaN=>J1 (()) aN) aM) (λaW aY=>False) j) u.drew)) w) λs2 _ w3=>NC a0 λJ=>stCells (J.add 6) 0 [iI (-1)] w3 λaO=>K aO
def F.GZ:pS:=T0.GZ E (F.FD E) (F.EU E) (F.En E) (F.JH E) (F.Cp E)
def T0.DX(E:Env)(q0:Y6)(q1:vW)(q2:lL)(q3:Y85)(q4:Y30):Vy:=λa0 a1 K w=>
 q0 a0 (λr1 v=>oB a1 r1 v λr3=>At Unit (λJ4=>At (Bool×Unit) (λJ7=>CND r3 (J7 (true,()) v.drew) (NC a1 λe=> ∃a,AU v.drew (e.add 8) .u64 a/\q1 a0 a1 (λaN aO T aP aQ aR aS aT aU aV j=>j.cell? (e.add 8)=some (iU a)/\J7 (decide (a<T),()) j) v.drew)) λs8 _ J=>CND s8.1 (Hb a0 J λaD=>rP aD J 3 λaE=>q2 aE (λY aA u=>CND aA (q3 a0 a1 Y 11 K u) (J4 (()) u)) J) (J4 (()) J)) λs5 _ w6=>CND r3 (NC a1 λO=>stCells (O.add 2) 0 [vI] w6 λaB=>K aB) (rI a1 w6 8 .u64 λaF=>q4 a0 a1 0 aF 0 K w6)) w
def F.DX:Vy:=T0.DX E (F.FG E) (F.En E) (F.By E) (F.IF E) (F.Cp E)
def T0.Ff(E:Env)(q0:Y97)(Y:Y6):pS:=λa0 a1 K Kp w=>
 q0 a0 a1 false (λw1=>rI a1 w1 8 .u64 λx3=>NC a1 λO=>stCells (O.add 8) 0 [iU (u64 (x3+1))] w1 λw5=>NC a1 λT=>stCells (T.add 2) 0 [iI 10] w5 λw7=>Y a0 (λr8 J=>oB a1 r8 J λe=>CND e (NC a1 λa=>stCells (a.add 2) 0 [vI] J λu=>K u) (K J)) w7) (λj v=>Kp j v) w
def F.Ff:pS:=T0.Ff E (F.GX E) (F.FG E)
def F.IU(E:Env):Vy:=λa0 a1 K w=>
 MX a1 w .i64 λx2=>NC a0 λa=>stCells (a.add 7) 0 [iI x2] w λj=>NC a1 λe=>stCells (e.add 2) 0 [iI 13] j λu=>K u
def F.IV(E:Env):Vy:=λa0 a1 K w=>
 NC a1 λp1=>stCells (p1.add 2) 0 [iI 14] w λa=>K a
def T0.EG(E:Env)(q0:lL)(u:Y85):Vy:=λa0 a1 K w=>
 Hb a0 w λx2=>rP x2 w 3 λO=>q0 O (λv J e=>CND J (u a0 a1 v 15 K e) (NC a1 λj=>stCells (j.add 2) 0 [iI 16] e λa=>K a)) w
def F.EG:Vy:=T0.EG E (F.By E) (F.IF E)
def T0.FW(E:Env)(q0:vW)(q1:wB)(q2:Y30):Vy:=λa0 a1 K w=>
 NC a0 λp1=> ∃x2,Da w.drew p1 x2/\q0 a0 a1 (λr3 r4 r5 r6 r7 r8 r9 aC aD j a=>a.cell? p1=some (.pointer x2)/\q1 x2 j (λu v J O=>q2 a0 a1 u v J (λT=>NC a0 λe=>stCells (e.add 7) 0 [iI (-1)] T λY=>K Y) O) a) w.drew
def F.FW:Vy:=T0.FW E (F.En E) (F.Cy E) (F.Cp E)
def F.Hh(E:Env):Tr:=λa0 K w=>
 rB a0 w 13 λx2=>K (!x2) w
def F.IW:Y114:=λa0 K w=>
 AC #[BP a0] E.Ag w λb1 a=>K (.func (.func E.Gr) #[] #[.pointer (sM b1)]) a
def T0.Cc(q0:Y114):Y115:=λa0 a1 K w=>
 AC (Value.cells a0) E.As w λb1 w2=>NC a1 λp3=> ∃x4,EW w2 p3 x4/\q0 x4 (λr5 w6=>RNGF E.seq r5 w6 (λx7 w8 a e T=> ∃u:Value,w8.cell? (mA b1)=some u/\DYNY E.call E.pT u #[iU x7] w8 λY j=> ∃v:Bool,Y= .bool v/\CND (!v) (e j) (a j)) (λJ aA=>COL J aA λaB=>K aB) (λO aC=>COL O aC λaD=>K aD) []) w2
def F.Cc:Y115:=T0.Cc E (F.IW E)
def F.II:Y115:=λa0 a1 K w=>
 NC a1 λp1=> ∃x2,EW w p1 x2/\BK (Int×Unit) (0,()) w λs3 _ Y e=>cD (s3.1<((x2.len:Nat):Int)) (NC x2.base λp6=>Br s3.1 x2.len/\ ∃c7,AU Y ((aD p6 s3.1 2).add 0) .u64 c7/\ ∃c8,AU Y ((aD p6 s3.1 2).add 1) .u64 c8/\AC #[vU,vU] E.AB Y λb9 aC=>stCells (mA b9) 0 [iU c7,iU c8] aC λu=> ∃J,AU u (mA b9) .u64 J/\BK (Int×Unit) (J,()) u λIS _ j a=> ∃O,AU j ((mA b9).add 1) .u64 O/\cD (IS.1<O) (DYNY E.call E.pT a0 #[iU IS.1] j λaB v=> ∃T:Bool,aB= .bool T/\CND (!T) (K v) (a (u64 (IS.1+1),()) v)) (e (i64 (s3.1+1),()) j)) (K Y)
def F.Ga(E:Env):wC:=λa0 a1 a2 K w=>
 u5 a1 w.drew λx2=>NC x2.base λe=>Br (i64 (a0+1)) x2.len/\ ∃a,AU w.drew (e.add (Int.toNat (i64 (a0+1))*4)) .i64 a/\MX a2 w.drew .i64 λj=>K (decide (a≥j)) w.drew
def F.Hi(E:Env):wC:=λa0 a1 a2 K w=>
 u5 a1 w.drew λx2=>NC x2.base λe=>Br a0 x2.len/\ ∃a,Da w.drew (aD e a0 1) a/\rI a w.drew 1 .u64 λj=>MX a2 w.drew .u64 λu=>K (decide (j≥u)) w.drew
def T0.E5(q0:Kj)(q1:Qx):Y8:=λa0 a1 K w=>
 NC a0 λp1=> ∃x2,Nv w (p1.add 3) x2/\n9 .u64 a1 x2 w (vP) λv3 aB aA=> ∃Y:(Option Addr),v3= .pointer Y/\CND (Y.isNone) (q0 a0 a1 (λr7 w8=>q1 a0 a1 (u64 (a1+1)) (λw9=>AC (Array.replicate 512 (vI)) E.Ug w9 λe J=>BK (Int×Unit) (0,()) J λFj _ j a=>cD (Fj.1<512) (Br Fj.1 512/\stCells ((mA e).add (Int.toNat Fj.1*1)) 0 [iI r7] j λO=>a (i64 (Fj.1+1),()) O) (NC a0 λv=> ∃u,Nv j (v.add 3) u/\KT .u64 a1 (.pointer (sM e)) u j λT=>K (sM e) T)) w8) w) (K Y w)
def F.E5:Y8:=T0.E5 E (F.HQ E) (F.It E)
def T0.Dt(E:Env)(q0:Y8):Y117:=λa0 a1 a2 Y K w=>
 BK (Int×Unit) (a0,()) w λs1 _ e a=>cD (s1.1<a1) (NC Y λp4=> ∃T,Da e.drew p4 T/\512≠(0:Int)/\512≠(0:Int)/\NC a2 λJ=> ∃v,AU e.drew J .i64 v/\q0 T (u64 (Int.tdiv s1.1 512)) (λr8 O=>O.cell? J=some (iI v)/\NC r8 λj=>Br (Int.tmod s1.1 512) 512/\stCells (j.add (Int.toNat (Int.tmod s1.1 512)*1)) 0 [iI v] O λu=>a (u64 (s1.1+1),()) u) e.drew) (K e)
def F.Dt:Y117:=T0.Dt E (F.E5 E)
def F.D6(E:Env):wC:=λa0 a1 a2 K w=>
 NC a1 λp1=> ∃x2:(Option Addr),w.drew.cell? p1=some (.pointer x2)/\NC x2 λu=> ∃a:AY,w.drew.cell? u=some (.slice a.base a.len a.cap)/\NC a.base λv=>((0:Int)<=a0/\(a0:Int)<(a.len:Nat))/\ ∃e:Int,w.drew.cell? ((aD v a0 2).add 1)=some (iU e)/\NC a2 λJ=> ∃j:Int,w.drew.cell? J=some (iU j)/\K (decide ((e:Int)>j)) w.drew
end Go.Sh

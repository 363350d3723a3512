/- What the heap's laws share. No further condition. -/
import Derived.Test.YtjibkpcalinfhaaGreatDoorH
import Derived.Test.YtjibkpcalinfhaaGreatDoorY
import Derived.Test.YtjibkpcalinfhaaGreatDoorA
import Derived.Test.YtjibkpcalinfhaaGreatDoorC
import Derived.Test.YtjibkpcalinfhaaGreatDoorR
import Derived.Test.YtjibkpcalinfhaaGreatDoorM
set_option linter.all false
set_option maxRecDepth 50000
set_option maxHeartbeats 4000000
namespace Go.Sh
def Found.induct{P:HS->Prop}{S S2:HS}{p n page:Int}(C:P S)(h1: ∀S i q,i<64->P S->P (S.fill i q))(h2: ∀S i k n,P S->P (S.II i k n))(O: ∀S page n,P S->P (S.Ge page n))
  (T: ∀S V at_ N,P S->P (S.grown V at_ N))(Y: ∀S V,P S->P {S with V:=V})(h:Found S p n page S2):P S2:=by
 have hf: ∀{i S1},i<64->Jc S i S1->P S1:=λ{i S1} j h=>by
  rcases h with ⟨_,q,_,rfl⟩|⟨_,rfl⟩
  .grind
  .exact C
 have ht: ∀{S1},IY S p n S1->P S1:=λ{S1} h=>by
  rcases h with ⟨_,rfl⟩|⟨i,j,_,_,h,_⟩
  .exact C
  .exact hf j h
 obtain⟨S1,hk,hm⟩:=h;have d:P S1:=by
  rcases hk with (⟨y,i,k,j,_,_,K,_,_,_,_,rfl⟩|⟨y,v,_,rfl⟩)|⟨y,J,v,_,⟨_,at_,_,rfl⟩,_,rfl⟩
  .grind
  .grind
  grind
 rcases hm with ⟨_,rfl⟩|⟨_,_,rfl⟩
 .exact d
 grind
structure zU(S S2:HS):Prop where
 sp:S2.sp=S.sp
 own:S2.own=S.own
 fx:S2.fx=S.fx
 AA:S2.AA=S.AA
def Found.same{S S2:HS}{p n page:Int}(h:Found S p n page S2):zU S S2:=
 h.induct (P:=zU S) ⟨rfl,rfl,rfl,rfl⟩ (λ_ _ _ _ h=>⟨h.sp,h.own,h.fx,h.AA⟩) (λ_ _ _ _ h=>⟨h.sp,h.own,h.fx,h.AA⟩) (λ_ _ _ h=>⟨h.sp,h.own,h.fx,h.AA⟩) (λ_ _ _ _ h=>⟨h.sp,h.own,h.fx,h.AA⟩) λ_ _ h=>⟨h.sp,h.own,h.fx,h.AA⟩
structure Fw(S:HS)(b:Int):Prop where
 la: ∀p,mem S.V.laid p↔512<=p/\p<b
 b0:512<=b
 b1:b %512=0
 h0:0<=S.hint
 h1:S.hint<=b
 pl:S.V.pl=[]
 rf:S.V.rf=[]
def Fw.new(fl:List Int):Fw (HS.new (OC [] [] fl)) 512:=⟨λp=>⟨λh=>absurd h (CM p),λh=>by omega⟩,Int.le_refl _,rfl,Int.le_refl _,by show(0:Int)<=512;decide,rfl,rfl⟩
section
variable{S S2:HS}{b p n page:Int}
def lL(n:Int):n<=IZ n/\IZ n<n+512/\IZ n %512=0:=by unfold IZ;omega
def Fw.aF(h:Fw S b){hint N at_:Int}(v:0<N)(d:hint<=b)(hp:Le S.V.laid hint N at_):at_=b:=by
 have h1:=hp.low;have h2:=hp.mul;have b0:=h.b0;have b1:=h.b1;by_cases g:b<at_
 .obtain⟨m,m1,y,j⟩:=hp.first b b1 b0 d g;have:=(h.la m).1 j;omega
 .by_cases g2:at_<b
  .exact absurd ((h.la at_).2 ⟨h1,g2⟩) (hp.free at_ (Int.le_refl _) (by omega))
  .omega
def Fw.vF(h:Fw S b){N at_:Int}(d:0<N)(j:Hf S.V S.hint N at_):at_=b:=by
 have:=h.h0;have:=h.h1;rcases j with ⟨p,r,e,_⟩|⟨_,⟨_,h1,_⟩|⟨_,_,h1,_⟩⟩
 .rw[h.pl]at e;cases e
 .exact h.aF d (by omega) h1
 .exact h.aF d (by have:=h.b0;omega) h1
def Fw.lM(h:Fw S b){N:Int}(d:0<N)(j:b+N<=34359738368)(hu:Lv S.V S.hint N):False:=by
 have:=h.h1;obtain⟨_,g|⟨a,g1,g2⟩,_⟩:=hu
 .omega
 .have:=h.aF d h.h1 g1;omega
def Fw.RO(h:Fw S b)(d:S2.V=S.V)(j:S2.hint=S.hint):Fw S2 b:=⟨by rw[d];exact h.la,h.b0,h.b1,by rw[j];exact h.h0,by rw[j];exact h.h1,by rw[d];exact h.pl,by rw[d];exact h.rf⟩
def Jc.V{i:Nat}(h:Jc S i S2):S2.V=S.V/\S2.hint=S.hint:=by
 rcases h with ⟨_,q,_,rfl⟩|⟨_,rfl⟩<;>exact⟨rfl,rfl⟩
def IY.V(h:IY S p n S2):S2.V=S.V/\S2.hint=S.hint:=by
 rcases h with ⟨_,rfl⟩|⟨i,_,_,_,h,_⟩
 .grind
 .exact h.V
def Fw.made(h:Fw S b)(hm:Made S page n S2):Fw S2 b:=by
 rcases hm with ⟨_,rfl⟩|⟨_,_,rfl⟩
 .exact h
 .exact⟨h.la,h.b0,h.b1,h.h0,h.h1,h.pl,by show S.V.rf.tail=[];rw[h.rf];rfl⟩
def KQ.lN(hk:KQ S)(h:IY S p n S2):Ok S2.V.laid:=by rw[h.V.1];exact hk.vv.LM
def Fw.zV(h:Fw S b)(hk:Ok S.V.laid)(y:1<=n)(j:X2 S n S2)(v:b+IZ n<=34359738368):Fw S2 (b+IZ n)/\S2=S.grown {S.V with rf:=S.V.rf.tail,pl:=S.V.pl.tail,laid:=Dl S.V.laid b (b+IZ n)} b (IZ n):=by
 obtain⟨_,at_,d,rfl⟩:=j;have hu:=lL n;have b0:=h.b0;have b1:=h.b1;have:=h.vF (by omega) d;subst this;refine⟨⟨λq=> ?_,by omega,by omega,by show 0<=at_+IZ n;omega,Int.le_refl _,by show S.V.pl.tail=[];rw[h.pl];rfl,by show S.V.rf.tail=[];rw[h.rf];rfl⟩,rfl⟩;refine(ER hk (by omega) (by omega) (by omega) q).trans ?_;rw[h.la];omega
def Found.laid(h:Found S p n page S2)(J:Fw S b)(hk:KQ S)(T:1<=n)(K:b+IZ n<=34359738368): ∃C,(C=b∨C=b+IZ n)/\Fw S2 C:=by
 obtain⟨S1,h,hm⟩:=h;rcases h with (⟨v,i,k,Y,_,_,j,_,_,_,_,rfl⟩|⟨v,d,_,rfl⟩)|⟨v,y,d,_,O,_,rfl⟩
 .exact⟨b,.inl rfl,((J.RO j.V.1 j.V.2).RO rfl rfl:Fw (v.II i k n.toNat) b).made hm⟩
 .exact⟨b,.inl rfl,((J.RO d.V.1 d.V.2).RO rfl rfl:Fw (v.Ge page n) b).made hm⟩
 .obtain⟨h1,_⟩:=(J.RO d.V.1 d.V.2).zV (hk.lN d) T O K;exact⟨b+IZ n,.inr rfl,(h1.RO rfl rfl:Fw (y.Ge page n) (b+IZ n)).made hm⟩
def Fw.lost(v:Fw S b)(hn:1<=n)(O:b+IZ n<=34359738368)(h:Oo S p n S2):False:=by
 have hu:=lL n;rcases h with ⟨j,d,_,⟨r,C,_⟩|⟨_,J,_⟩⟩|⟨S1,page,r,hk,_,C,_⟩
 .rw[(v.RO d.V.1 d.V.2).rf]at C;cases C
 .exact(v.RO d.V.1 d.V.2).lM (by omega) O J
 .have e:S1.V.rf=[]:=by
   rcases hk with (⟨j,i,k,Y,_,_,y,_,_,_,_,rfl⟩|⟨j,d,_,rfl⟩)|⟨j,K,d,_,⟨_,at_,T,rfl⟩,_,rfl⟩
   .show j.V.rf=[];rw[y.V.1];exact v.rf
   .show j.V.rf=[];rw[d.V.1];exact v.rf
   .show j.V.rf.tail=[];rw[d.V.1,v.rf];rfl
  grind
def FrR(S:HS)(a b:Int):Prop:= ∀p,S.T.fr p=true↔a<=p/\p<b
end
def Tl(i:Nat){t:Nat}{Ps:List Pr}{w:World}{K:Nat->World->Prop}(H:Sat Ps w)(d:Ps[i]? =some cB)(v: ∀b w',Sat (Ps.set i (Row t 1 ⟨some ⟨b,0,none⟩,0,0⟩ [])) w'->K b w'):AL (.cells ⟨[]⟩ t) w K:=
 Gs (n:=0) (z:=1) (H.front i d).tail rfl (by decide) λb w' j=>v b w' (Sat.back i j (List.getElem?_eq_some_iff.1 d).1)
def Ly(i:Nat){t bytes b:Nat}{zs:Array Value}{a:AX}{vs:List Value}{Ps:List Pr}{w:World}{K:AX->World->Prop}(H:Sat Ps w)(y:Ps[i]? =some (Row t 1 ⟨some ⟨b,0,none⟩,0,0⟩ []))(hz:zs.size=1)
  (d: ∀w',Sat (Ps.eraseIdx i) w'->rowAt w' a.base a.len vs)(T:vs.length=a.len)(hlen:a.len<=1099511627776)(j:bytes<=8)(O: ∀v∈vs,v.oneCell'=true)(J: ∀s' w',Sat (Ps.set i (Row t 1 s' vs)) w'->K s' w'):
  APP t 1 bytes zs ⟨some ⟨b,0,none⟩,0,0⟩ a w K:=by
 have hm:(0+a.len)*bytes<=1099511627776*8:=Nat.mul_le_mul (by omega) j;exact FU (H.front i y) hz (by simpa using d w (H.front i y).tail) (by omega) O (by grind) (by grind) λs' w' C _=>J s' w' (Sat.back i C (List.getElem?_eq_some_iff.1 y).1)
def Pw(k:IntKind)(l:List Int): ∀v∈ints k l,v.oneCell'=true:=by intro v d;simp[ints]at d;obtain⟨x,_,rfl⟩:=d;rfl
def gL(l:List Bool): ∀v∈BB l,v.oneCell'=true:=by intro v d;simp[BB]at d;rcases d with ⟨_,rfl⟩|⟨_,rfl⟩<;>rfl
section
variable{E:Env}{b c:Nat}{V:VS}{Z Rs:List Pr}{w:World}
end
section
variable{E:Env}{w:World}{Rs Z:List Pr}
def Bv.OC(pl:List Int)(rf:List Bool)(fl:List Int):Bv (HS.new (Go.Sh.OC pl rf fl)) no:=Bv.new rfl rfl
variable(hE:EnvA E)
include hE
end
section
variable{S S2:HS}{i k:Nat}{page:Int}
def Fw.C5{b:Int}(h:Fw S b)(id:Int)(x:Nat×SI)(pg n:Int)(X:FX):Fw (S.C5 id x pg n X) b:=⟨h.la,h.b0,h.b1,h.h0,h.h1,h.pl,h.rf⟩
def Next.top{id:Int}{X:FX}(h:Next S id X){n:Nat}(e:S.fx=⟨n,[]⟩):id=(n:Int)+1/\X=⟨n+1,[]⟩:=by
 rcases h with ⟨_,h2,d⟩|⟨a,r,h1,_⟩
 .grind
 grind
end
section
variable{E:Env}{w:World}{Rs Z:List Pr}(hE:EnvA E)
include hE
end
section
variable{S S2:HS}{n page:Int}
def asks(next b n:Int):Nat:=if next+n<=b then 1 else 2
variable{i:Nat}{next b:Int}{rf:List Bool}
end
def Tm: ∀(N:Nat) (l:List Int),l.Nodup->(∀n∈l,0<n/\n<=N)->l.length<=N
 | 0,[],_,_=>Nat.le_refl _
 | 0,n::_,_,h=>by have:=h n List.mem_cons_self;omega
 | N+1,l,hn,h=>by
  by_cases hm:((N+1:Nat):Int)∈l
  .have j:=Tm N (l.erase ((N+1:Nat):Int)) (hn.erase _) λn d=>by grind
   grind
  .have j:=Tm N l hn λn d=>by grind
   omega
def zW(u:Nat->Bool):Dj .u64 2 18446744073709551615 (W u)=W λi=> !u i:=by
 rw[<-Vs];show IntKind.wrap .u64 ((BitVec.ofInt 64 (W λ_=>true)^^^BitVec.ofInt 64 (W u)).toNat:Int)=_;rw[BitVec.toNat_xor,rL,rL];have e:wN (λ_=>true) 64^^^wN u 64=wN (λi=> !u i) 64:=by
  refine Nat.eq_of_testBit_eq λi=> ?_;rw[Nat.testBit_xor,Dp,Dp,Dp]
  grind
 rw[e,S8 (OK _ 64)];rfl
def rZ{n:Nat}(h:n<64):u64 (1*2^(min (Int.toNat (n:Int)) (IntKind.bits .u64)))=W λi=>i==n:=by
 have e:=jT (λi=>i==0) (n:=(n:Int)) (by omega) (by omega);rw[jP]at e
 grind
def aG{n:Nat}(h:n<64):u64 ((u64 (1*2^(min (Int.toNat (n:Int)) (IntKind.bits .u64))))-1)=W λi=>decide (i<n):=by
 have e:wN (λi=>i==n) 64=2^n:=by
  refine Nat.eq_of_testBit_eq λi=> ?_;rw[Dp,Nat.testBit_two_pow]
  grind
 have d:wN (λi=>decide (i<n)) 64=2^n-1:=by
  refine Nat.eq_of_testBit_eq λi=> ?_;rw[Dp,Nat.testBit_two_pow_sub_one]
  grind
 rw[rZ h];unfold W;rw[e,d];have h1:0<2^n:=Nat.pow_pos (by decide);have h2:2^n<=2^63:=Nat.pow_le_pow_right (by decide) (by omega);rw[AM];omega
def lP{u:Nat->Bool}{i:Nat}(hu:u i=false): ∀n,cN (λj=>u j||j==i) n=cN u n+(if i<n then 1 else 0)
 | 0=>rfl
 | n+1=>by
  simp only[cN,lP hu n];by_cases e:n=i
  .grind
  grind
section
variable{E:Env}{w:World}{Z:List Pr}{s:AX}{uw:List Int}{U:Nat->Bool}
def SI.set(S:SI)(U:Nat->Bool)(n:Nat):SI:={S with uw:=[W λi=>U i||i==n],used:=S.used+1,look:=(n:Int)+1}
section
variable{b:Nat}{S:SI}
def X4(H:Sat (Cz E b S::Z) w){K:Bool->World->Prop}(d: ∀w',Sat (Cz E b S::Z) w'->K (S.used==S.AK) w'):F.JU E (some ⟨b,0,none⟩) K w:=by
 obtain⟨j,sm,H⟩:=Sat.span.1 H;unfold F.JU;simp only[AG];exact⟨_,H.drew.cell rfl,_,H.drew.cell rfl,d _ (Sat.span.2 ⟨j,sm,H.drew⟩)⟩
def Px(H:Sat (Cz E b S::Z) w){i:Int}{K:Bool->World->Prop}(d:K (decide (0<=i/\i<S.AK)) w):F.Ee E (some ⟨b,0,none⟩) i K w:=by
 obtain⟨j,sm,H⟩:=Sat.span.1 H;unfold F.Ee;simp only[AG];refine AB (λg=>⟨_,H.cell rfl,?_⟩) λg=> ?_
 .rw[show decide (i<S.AK)=decide (0<=i/\i<S.AK)from decide_eq_decide.2 (by omega)];exact d
 .rw[decide_eq_false (by omega)]at d;exact d
def X5(H:Sat (Cz E b S::Z) w){i:Int}(h0:0<=i)(h1:i<S.AK){K:Int->Int->World->Prop}(d: ∀w',Sat (Cz E b S::Z) w'->K (u64 (S.base+u64 (u64 i*u64 S.elem))) 0 w'):F.E7 E (some ⟨b,0,none⟩) i K w:=by
 unfold F.E7 T0.E7;refine Px H ?_;rw[decide_eq_true ⟨h0,h1⟩];refine AP rfl ?_;obtain⟨v,sm,H⟩:=Sat.span.1 H;simp only[AG];exact⟨_,H.drew.Af rfl,_,H.drew.cell rfl,AY λt j=>by rw[j];exact d _ (Sat.span.2 ⟨v,sm,H.drew⟩)⟩
def lQ(AA elem:Int):Prop:=AA=0∨134217728<AA∨elem<8∨AA*8192<elem
end
end
def HS.put(S:HS)(id:Int)(x:Nat×SI):HS:={S with sp:=λi=>if i=id then some x else S.sp i}
section
variable{S:HS}{fl:Int->Bool}{id:Int}{x:Nat×SI}{I:SI}
def Bv.put(h:Bv S fl)(K:S.sp id=some x)(h1:I.base=x.2.base)(h2:I.AA=x.2.AA)(v:I.state≠0):Bv (S.put id (x.1,I)) fl:=by
 refine⟨h.cr,h.cd,h.fn,λp hp=> ?_,h.o0,h.li,h.cv,h.ks,h.la,h.rd,λi y j=> ?_,λi=> ?_,h.fb,h.pg,h.h0,h.h1⟩
 .obtain⟨a,b,c,y,j,C,J⟩:=h.ow p hp;refine⟨a,b,c,?_⟩;by_cases e:S.own p=id
  .refine⟨(x.1,I),if_pos e,?_⟩
   grind
  .exact⟨y,(if_neg e).trans j,C,J⟩
 .have j:(if i=id then some (x.1,I)else S.sp i)=some y:=j;by_cases e:i=id
  .rw[if_pos e]at j;cases j;obtain⟨a,b,c,_,d⟩:=h.sp id x K;subst e;refine⟨a,by grind,by grind,v,?_⟩;rw[h1,h2];exact d
  .rw[if_neg e]at j;exact h.sp i y j
 .show(if i=id then some (x.1,I)else S.sp i)≠none↔_;refine Iff.trans ?_ (h.sf i)
  grind
def HS.IJ:(S.put id x).sp id=some x:=if_pos rfl
def HS.MS{i:Int}(h:i≠id):(S.put id x).sp i=S.sp i:=if_neg h
end
section
variable{E:Env}{h:Nat}{S:HS}{Z:List Pr}{w:World}
def NW{α:Type}: ∀{l:List α} {i:Nat} {x:α},l.Nodup->l[i]? =some x->x∉l.eraseIdx i
 | [],i,x,_,h=>by simp at h
 | y::l,0,x,d,h=>by grind
 | y::l,i+1,x,d,h=>by
  have d:=List.nodup_cons.1 d;have h:l[i]? =some x:=by grind
  have j:=NW d.2 h
  grind
def Sat.lR(H:Sat (Bh E h S::Z) w){id:Int}{x:Nat×SI}(v:S.sp id=some x): ∃R:List Pr,Sat (Cz E x.1 x.2::(R++Z)) w/\ ∀{Y:List Pr} {I:SI} {w'},Sat (Cz E x.1 I::(R++Y)) w'->Sat (Bh E h (S.put id (x.1,I))::Y) w':=by
 obtain⟨g,hI,H⟩:=Sat.heap.1 H;have hm:id∈g.ids:=(hI.mem id).2 (by grind);obtain⟨i,d⟩:=List.mem_iff_getElem?.1 hm;have H1:=(H.front 6 rfl).F0 d;have e:spR E S.sp id=Cz E x.1 x.2:=by unfold spR;rw[v]
 rw[e]at H1;refine⟨Aa (spR E S.sp) (g.ids.eraseIdx i)::(Ct E h S g).eraseIdx 6,H1,λ{Y I w'} h'=>Sat.heap.2 ⟨g,⟨hI.nd,λj=> ?_⟩,?_⟩⟩
 .rw[hI.mem];show _↔(if j=id then some (x.1,I)else S.sp j)≠none
  grind
 .have y:spR E (S.put id (x.1,I)).sp id=Cz E x.1 I:=by unfold spR;rw[HS.IJ]
  have C:Aa (spR E S.sp) (g.ids.eraseIdx i)=Aa (spR E (S.put id (x.1,I)).sp) (g.ids.eraseIdx i):=Aa.congr λj K=>by
   have:j≠id:=λe=>NW hI.nd d (e▸K);unfold spR;rw[HS.MS this]
  rw[<-y,C]at h';have h2:=Sat.G5 h' d;have h3:=Sat.back (Ps:=Ct E h S g++Y) 6 h2 (by simp[Ct]);have J:Du S.sp=Du (S.put id (x.1,I)).sp:=by
   funext j;unfold Du;by_cases e:j=id
   .rw[e,HS.IJ,v];rfl
   .rw[HS.MS e]
  have O:(Ct E h S g++Y).set 6 (Aa (spR E (S.put id (x.1,I)).sp) g.ids)=Ct E h (S.put id (x.1,I)) g++Y:=by
   show [Cells h E.Ac (B3 g S.hint S.AA),Co E g.m S.V,Bl E g.t S.T,CY E g.a S.ks S.own,GW E g.f S.fx,DY g.sm .i64 (Du S.sp),_,_]++Y=_;rw[J];rfl
  grind
def Sat.dO(H:Sat (Bh E h S::Z) w){id:Int}{x:Nat×SI}(d:S.sp id=some x): ∃R:List Pr,Sat (Cz E x.1 x.2::R) w/\ ∀{I:SI} {w'},Sat (Cz E x.1 I::R) w'->Sat (Bh E h (S.put id (x.1,I))::Z) w':=
 let⟨R,a,b⟩:=H.lR d;⟨R++Z,a,b⟩
variable(hE:EnvA E)
include hE
end
section
variable{E:Env}{h:Nat}{S:HS}{Z:List Pr}{w:World}{g:HG}
variable(hE:EnvA E)
include hE
end
end Go.Sh
namespace Go.Sh
open Ieee
def rd(x:Nat):Datum:=double.read x
end Go.Sh
namespace Go.Sh
open Ieee
end Go.Sh
namespace Go.Sh
open Ieee
end Go.Sh

/- What the heap's laws share. No further condition. -/
import Derived.Test.YtcnbbdhhgcbjmaaGreatDoorH
import Derived.Test.YtcnbbdhhgcbjmaaGreatDoorY
import Derived.Test.YtcnbbdhhgcbjmaaGreatDoorA
import Derived.Test.YtcnbbdhhgcbjmaaGreatDoorC
import Derived.Test.YtcnbbdhhgcbjmaaGreatDoorR
import Derived.Test.YtcnbbdhhgcbjmaaGreatDoorM
set_option linter.all false
set_option maxRecDepth 50000
set_option maxHeartbeats 4000000
namespace Go.Sh
def Found.induct{P:HS->Prop}{S S2:HS}{p n page:Int}(K:P S)(h1: ∀S i q,i<64->P S->P (S.fill i q))(h2: ∀S i k n,P S->P (S.JF i k n))(Y: ∀S page n,P S->P (S.Fp page n))
  (h4: ∀S V at_ N,P S->P (S.grown V at_ N))(h5: ∀S V,P S->P {S with V:=V})(h:Found S p n page S2):P S2:=by
 have hf: ∀{i S1},i<64->Kb S i S1->P S1:=λ{i S1} v h=>by
  rcases h with ⟨_,q,_,rfl⟩|⟨_,rfl⟩
  .grind
  .exact K
 have ht: ∀{S1},Iu S p n S1->P S1:=λ{S1} h=>by
  rcases h with ⟨_,rfl⟩|⟨i,v,_,_,h,_⟩
  .exact K
  .exact hf v h
 obtain⟨S1,hk,hm⟩:=h;have j:P S1:=by
  rcases hk with (⟨J,i,k,v,_,_,T,_,_,_,_,rfl⟩|⟨J,y,_,rfl⟩)|⟨J,O,y,_,⟨_,at_,_,rfl⟩,_,rfl⟩
  .grind
  .grind
  grind
 rcases hm with ⟨_,rfl⟩|⟨_,_,rfl⟩
 .exact j
 grind
structure Same(S S2:HS):Prop where
 sp:S2.sp=S.sp
 own:S2.own=S.own
 fx:S2.fx=S.fx
 AA:S2.AA=S.AA
def Found.same{S S2:HS}{p n page:Int}(h:Found S p n page S2):Same S S2:=
 h.induct (P:=Same S) ⟨rfl,rfl,rfl,rfl⟩ (λ_ _ _ _ h=>⟨h.sp,h.own,h.fx,h.AA⟩) (λ_ _ _ _ h=>⟨h.sp,h.own,h.fx,h.AA⟩) (λ_ _ _ h=>⟨h.sp,h.own,h.fx,h.AA⟩) (λ_ _ _ _ h=>⟨h.sp,h.own,h.fx,h.AA⟩) λ_ _ h=>⟨h.sp,h.own,h.fx,h.AA⟩
structure EV(S:HS)(b:Int):Prop where
 la: ∀p,mem S.V.laid p↔512<=p/\p<b
 b0:512<=b
 b1:b %512=0
 h0:0<=S.hint
 h1:S.hint<=b
 pl:S.V.pl=[]
 rf:S.V.rf=[]
def EV.new(fl:List Int):EV (HS.new (MF [] [] fl)) 512:=⟨λp=>⟨λh=>absurd h (Bq p),λh=>by omega⟩,Int.le_refl _,rfl,Int.le_refl _,by show(0:Int)<=512;decide,rfl,rfl⟩
section
variable{S S2:HS}{b p n page:Int}
def YA(n:Int):n<=IF n/\IF n<n+512/\IF n %512=0:=by unfold IF;omega
def EV.fR(h:EV S b){hint N at_:Int}(y:0<N)(j:hint<=b)(hp:Mk S.V.laid hint N at_):at_=b:=by
 have h1:=hp.low;have h2:=hp.mul;have b0:=h.b0;have b1:=h.b1;by_cases g:b<at_
 .obtain⟨m,m1,J,v⟩:=hp.first b b1 b0 j g;have:=(h.la m).1 v;omega
 .by_cases g2:at_<b
  .exact absurd ((h.la at_).2 ⟨h1,g2⟩) (hp.free at_ (Int.le_refl _) (by omega))
  .omega
def EV.chosen(h:EV S b){N at_:Int}(j:0<N)(v:It S.V S.hint N at_):at_=b:=by
 have:=h.h0;have:=h.h1;rcases v with ⟨p,r,e,_⟩|⟨_,⟨_,h1,_⟩|⟨_,_,h1,_⟩⟩
 .rw[h.pl]at e;cases e
 .exact h.fR j (by omega) h1
 .exact h.fR j (by have:=h.b0;omega) h1
def EV.qQ(h:EV S b){N:Int}(j:0<N)(v:b+N<=34359738368)(hu:M5 S.V S.hint N):False:=by
 have:=h.h1;obtain⟨_,g|⟨a,g1,g2⟩,_⟩:=hu
 .omega
 .have:=h.fR j h.h1 g1;omega
def EV.M9(h:EV S b)(j:S2.V=S.V)(v:S2.hint=S.hint):EV S2 b:=⟨by rw[j];exact h.la,h.b0,h.b1,by rw[v];exact h.h0,by rw[v];exact h.h1,by rw[j];exact h.pl,by rw[j];exact h.rf⟩
def Kb.V{i:Nat}(h:Kb S i S2):S2.V=S.V/\S2.hint=S.hint:=by
 rcases h with ⟨_,q,_,rfl⟩|⟨_,rfl⟩<;>exact⟨rfl,rfl⟩
def Iu.V(h:Iu S p n S2):S2.V=S.V/\S2.hint=S.hint:=by
 rcases h with ⟨_,rfl⟩|⟨i,_,_,_,h,_⟩
 .grind
 .exact h.V
def EV.made(h:EV S b)(hm:Made S page n S2):EV S2 b:=by
 rcases hm with ⟨_,rfl⟩|⟨_,_,rfl⟩
 .exact h
 .exact⟨h.la,h.b0,h.b1,h.h0,h.h1,h.pl,by show S.V.rf.tail=[];rw[h.rf];rfl⟩
def KG.qR(hk:KG S)(h:Iu S p n S2):Ok S2.V.laid:=by rw[h.V.1];exact hk.vv.ME
def EV.yD(h:EV S b)(hk:Ok S.V.laid)(J:1<=n)(v:aK S n S2)(y:b+IF n<=34359738368):EV S2 (b+IF n)/\S2=S.grown {S.V with rf:=S.V.rf.tail,pl:=S.V.pl.tail,laid:=D9 S.V.laid b (b+IF n)} b (IF n):=by
 obtain⟨_,at_,j,rfl⟩:=v;have hu:=YA n;have b0:=h.b0;have b1:=h.b1;have:=h.chosen (by omega) j;subst this;refine⟨⟨λq=> ?_,by omega,by omega,by show 0<=at_+IF n;omega,Int.le_refl _,by show S.V.pl.tail=[];rw[h.pl];rfl,by show S.V.rf.tail=[];rw[h.rf];rfl⟩,rfl⟩;refine(Eo hk (by omega) (by omega) (by omega) q).trans ?_;rw[h.la];omega
def Found.laid(h:Found S p n page S2)(O:EV S b)(hk:KG S)(hn:1<=n)(T:b+IF n<=34359738368): ∃K,(K=b∨K=b+IF n)/\EV S2 K:=by
 obtain⟨S1,h,hm⟩:=h;rcases h with (⟨y,i,k,hi,_,_,v,_,_,_,_,rfl⟩|⟨y,j,_,rfl⟩)|⟨y,J,j,_,Y,_,rfl⟩
 .exact⟨b,.inl rfl,((O.M9 v.V.1 v.V.2).M9 rfl rfl:EV (y.JF i k n.toNat) b).made hm⟩
 .exact⟨b,.inl rfl,((O.M9 j.V.1 j.V.2).M9 rfl rfl:EV (y.Fp page n) b).made hm⟩
 .obtain⟨h1,_⟩:=(O.M9 j.V.1 j.V.2).yD (hk.qR j) hn Y T;exact⟨b+IF n,.inr rfl,(h1.M9 rfl rfl:EV (J.Fp page n) (b+IF n)).made hm⟩
def EV.lost(y:EV S b)(hn:1<=n)(Y:b+IF n<=34359738368)(h:RM S p n S2):False:=by
 have hu:=YA n;rcases h with ⟨v,j,_,⟨r,K,_⟩|⟨_,O,_⟩⟩|⟨S1,page,r,hk,_,K,_⟩
 .rw[(y.M9 j.V.1 j.V.2).rf]at K;cases K
 .exact(y.M9 j.V.1 j.V.2).qQ (by omega) Y O
 .have e:S1.V.rf=[]:=by
   rcases hk with (⟨v,i,k,hi,_,_,J,_,_,_,_,rfl⟩|⟨v,j,_,rfl⟩)|⟨v,T,j,_,⟨_,at_,hc,rfl⟩,_,rfl⟩
   .show v.V.rf=[];rw[J.V.1];exact y.rf
   .show v.V.rf=[];rw[j.V.1];exact y.rf
   .show v.V.rf.tail=[];rw[j.V.1,y.rf];rfl
  grind
def qS{V:TV}{p:Int}(h:HK V 1 p):V.fr p=true:=h.2.2.1 p (Int.le_refl _) (by omega)
def Yy(S:HS)(a b:Int):Prop:= ∀p,S.T.fr p=true↔a<=p/\p<b
def Yy.first{a:Int}(h:Yy S a b)(j:1<=n)(hf:HK S.T n page):page=a/\a+n<=b:=by
 obtain⟨_,_,h1,h2⟩:=hf;have q1:=(h page).1 (h1 page (Int.le_refl _) (by omega));have y:=(h (page+n-1)).1 (h1 (page+n-1) (by omega) (by omega));have:=h2 a λm m1 v=>(h m).2 (by omega);omega
def Yy.none{a:Int}(h:Yy S a b)(j: ∀q,¬MD S.T.fr q n):b<a+n:=by
 refine Classical.byContradiction λg=>j a λm m1 v=>(h m).2 (by omega)
def Yy.taken{a:Int}(h:Yy S a b)(j:0<=n):Yy (S.Fp a n) (a+n) b:=λp=>by
 refine PR.trans ?_;rw[h p];omega
def Yy.grown{a:Int}(h:Yy S a b){V:VS}{N:Int}(h1:b %512=0)(h2:N %512=0)(v:0<=N)(j:a<=b):Yy (S.grown V b N) a (b+N):=λp=>by
 show(S.T.fr p||inr (b/512*512) (N/512*512) p)=true↔_;rw[Bool.or_eq_true,h p,Ai];omega
def Yy.new(V:VS):Yy (HS.new V) 512 512:=λp=>⟨λh=>(by cases h),λh=>by omega⟩
def Found.row(h:Found S p n page S2){a:Int}(Y:EV S b)(hk:KG S)(K:Yy S a b)(aB:a<=b)(hn:1<=n)(hb:b+IF n<=34359738368)(hT: ∀j,Iu S p n j->j=S)(aD: ∀j page,dJ S p n page j->j=S.Fp page n/\HK S.T n page):
  ∃v,(v=b∨v=b+IF n)/\page=a/\a+n<=v/\EV S2 v/\Yy S2 (a+n) v/\S2.ca=S.ca/\(v=b-> ∀V,{S2 with V:=V}={S.Fp a n with V:=V})/\(a+n<=b->v=b):=by
 obtain⟨S1,h,hm⟩:=h;have hu:=YA n;have hs: ∀{S1 S2:HS},Made S1 page n S2->S2.ca=S1.ca/\S2.T=S1.T/\ ∀V,{S2 with V:=V}={S1 with V:=V}:=λh=>by
  rcases h with ⟨_,rfl⟩|⟨_,_,rfl⟩<;>exact⟨rfl,rfl,λ_=>rfl⟩
 obtain⟨s1,s2,s3⟩:=hs hm;rcases h with h|⟨j,O,aE,y,hg,hf,rfl⟩
 .obtain⟨rfl,hf⟩:=aD _ _ h;obtain⟨rfl,h1⟩:=K.first hn hf;refine⟨b,.inl rfl,rfl,h1,(Y.M9 rfl rfl:EV (S.Fp page n) b).made hm,λq=> ?_,s1,λ_=>s3,λ_=>rfl⟩;rw[s2];exact K.taken (by omega) q
 .obtain rfl:=hT _ aE;obtain⟨h1,e0⟩:=Y.yD hk.vv.ME hn hg hb;have aA:EV S2 (b+IF n):=(h1.M9 rfl rfl:EV (O.Fp page n) (b+IF n)).made hm;subst e0;have J:Yy (j.grown {j.V with rf:=j.V.rf.tail,pl:=j.V.pl.tail,laid:=D9 j.V.laid b (b+IF n)} b (IF n)) a (b+IF n):=K.grown Y.b1 hu.2.2 (by omega) aB;obtain⟨rfl,h2⟩:=J.first hn hf;have hl:=K.none y;refine⟨b+IF n,.inr rfl,rfl,h2,aA,λq=> ?_,s1,λe=>by omega,λe=>by omega⟩;rw[s2];exact J.taken (by omega) q
def RN(j: ∀q,S.T.fr q=false){v:HS}(O:1<=n)(J:Iu S p n v):v=S:=by
 rcases J with ⟨_,rfl⟩|⟨i,K,rfl,_,⟨_,q,y,_⟩|⟨_,rfl⟩,_⟩
 .rfl
 .have:=qS y;rw[j]at this;cases this
 .rfl
def fS(j: ∀q,S.T.fr q=false)(K: ∀i,i<64->(S.ca i).empty){v:HS}{page:Int}(Y:1<=n)(J:dJ S p n page v):v=S.Fp page n/\HK S.T n page:=by
 rcases J with ⟨S1,i,k,O,rfl,_,y,hr,_⟩|⟨v,J,hf,rfl⟩
 .exfalso;rcases y with ⟨_,q,hq,_⟩|⟨_,rfl⟩
  .have:=qS hq;rw[j]at this;cases this
  .have:=hr 0 (by omega);rw[K i O]at this;cases this
 .rw[RN j Y J]at hf⊢;exact⟨rfl,hf⟩
end
def VJ(i:Nat){t:Nat}{Ps:List Pr}{w:World}{K:Nat->World->Prop}(H:Sat Ps w)(j:Ps[i]? =some iN)(y: ∀b w',Sat (Ps.set i (Row t 1 ⟨some ⟨b,0,none⟩,0,0⟩ [])) w'->K b w'):AL (.cells ⟨[]⟩ t) w K:=
 IU (n:=0) (z:=1) (H.front i j).tail rfl (by decide) λb w' v=>y b w' (Sat.back i v (List.getElem?_eq_some_iff.1 j).1)
def NA(i:Nat){t bytes b:Nat}{zs:Array Value}{a:Ac}{vs:List Value}{Ps:List Pr}{w:World}{K:Ac->World->Prop}(H:Sat Ps w)(J:Ps[i]? =some (Row t 1 ⟨some ⟨b,0,none⟩,0,0⟩ []))(hz:zs.size=1)
  (j: ∀w',Sat (Ps.eraseIdx i) w'->rowAt w' a.base a.len vs)(hl:vs.length=a.len)(hlen:a.len<=1099511627776)(y:bytes<=8)(Y: ∀v∈vs,v.oneCell'=true)(T: ∀s' w',Sat (Ps.set i (Row t 1 s' vs)) w'->K s' w'):
  APP t 1 bytes zs ⟨some ⟨b,0,none⟩,0,0⟩ a w K:=by
 have hm:(0+a.len)*bytes<=1099511627776*8:=Nat.mul_le_mul (by omega) y;exact Gq (H.front i J) hz (by simpa using j w (H.front i J).tail) (by omega) Y (by grind) (by grind) λs' w' O _=>T s' w' (Sat.back i O (List.getElem?_eq_some_iff.1 J).1)
def RO(k:IntKind)(l:List Int): ∀v∈ints k l,v.oneCell'=true:=by intro v j;simp[ints]at j;obtain⟨x,_,rfl⟩:=j;rfl
def mT(l:List Bool): ∀v∈BA l,v.oneCell'=true:=by intro v j;simp[BA]at j;rcases j with ⟨_,rfl⟩|⟨_,rfl⟩<;>rfl
section
variable{E:Env}{b c:Nat}{V:VS}{Z Rs:List Pr}{w:World}
end
section
variable{E:Env}{w:World}{Rs Z:List Pr}
def BS.MF(pl:List Int)(rf:List Bool)(fl:List Int):BS (HS.new (Go.Sh.MF pl rf fl)) no:=BS.new rfl rfl
variable(hE:EnvA E)
include hE
end
section
variable{S S2:HS}{i k:Nat}{page:Int}
def EV.Cr{b:Int}(h:EV S b)(id:Int)(x:Nat×SI)(pg n:Int)(X:FX):EV (S.Cr id x pg n X) b:=⟨h.la,h.b0,h.b1,h.h0,h.h1,h.pl,h.rf⟩
def Next.top{id:Int}{X:FX}(h:Next S id X){n:Nat}(e:S.fx=⟨n,[]⟩):id=(n:Int)+1/\X=⟨n+1,[]⟩:=by
 rcases h with ⟨_,h2,j⟩|⟨a,r,h1,_⟩
 .grind
 grind
end
section
variable{E:Env}{w:World}{Rs Z:List Pr}(hE:EnvA E)
include hE
end
section
variable{S S2:HS}{n page:Int}
def asks(next b n:Int):Nat:=if next+n<=b then 1 else 2
variable{i:Nat}{next b:Int}{rf:List Bool}
end
def VK: ∀(N:Nat) (l:List Int),l.Nodup->(∀n∈l,0<n/\n<=N)->l.length<=N
 | 0,[],_,_=>Nat.le_refl _
 | 0,n::_,_,h=>by have:=h n List.mem_cons_self;omega
 | N+1,l,hn,h=>by
  by_cases hm:((N+1:Nat):Int)∈l
  .have v:=VK N (l.erase ((N+1:Nat):Int)) (hn.erase _) λn j=>by grind
   grind
  .have v:=VK N l hn λn j=>by grind
   omega
def W_not(u:Nat->Bool):GC .u64 2 18446744073709551615 (W u)=W λi=> !u i:=by
 rw[<-Xo];show IntKind.wrap .u64 ((BitVec.ofInt 64 (W λ_=>true)^^^BitVec.ofInt 64 (W u)).toNat:Int)=_;rw[BitVec.toNat_xor,xQ,xQ];have e:wN (λ_=>true) 64^^^wN u 64=wN (λi=> !u i) 64:=by
  refine Nat.eq_of_testBit_eq λi=> ?_;rw[Nat.testBit_xor,EK,EK,EK]
  grind
 rw[e,Wn (N5 _ 64)];rfl
def yE{n:Nat}(h:n<64):u64 (1*2^(min (Int.toNat (n:Int)) (IntKind.bits .u64)))=W λi=>i==n:=by
 have e:=oZ (λi=>i==0) (n:=(n:Int)) (by omega) (by omega);rw[oV]at e
 grind
def fT{n:Nat}(h:n<64):u64 ((u64 (1*2^(min (Int.toNat (n:Int)) (IntKind.bits .u64))))-1)=W λi=>decide (i<n):=by
 have e:wN (λi=>i==n) 64=2^n:=by
  refine Nat.eq_of_testBit_eq λi=> ?_;rw[EK,Nat.testBit_two_pow]
  grind
 have j:wN (λi=>decide (i<n)) 64=2^n-1:=by
  refine Nat.eq_of_testBit_eq λi=> ?_;rw[EK,Nat.testBit_two_pow_sub_one]
  grind
 rw[yE h];unfold W;rw[e,j];have h1:0<2^n:=Nat.pow_pos (by decide);have h2:2^n<=2^63:=Nat.pow_le_pow_right (by decide) (by omega);rw[AI];omega
def qT{u:Nat->Bool}{i:Nat}(hu:u i=false): ∀n,cN (λj=>u j||j==i) n=cN u n+(if i<n then 1 else 0)
 | 0=>rfl
 | n+1=>by
  simp only[cN,qT hu n];by_cases e:n=i
  .grind
  grind
section
variable{E:Env}{w:World}{Z:List Pr}{s:Ac}{uw:List Int}{U:Nat->Bool}
def SI.set(S:SI)(U:Nat->Bool)(n:Nat):SI:={S with uw:=[W λi=>U i||i==n],used:=S.used+1,look:=(n:Int)+1}
section
variable{b:Nat}{S:SI}
def aM(H:Sat (DF E b S::Z) w){K:Bool->World->Prop}(j: ∀w',Sat (DF E b S::Z) w'->K (S.used==S.AK) w'):F.KW E (some ⟨b,0,none⟩) K w:=by
 obtain⟨v,sm,H⟩:=Sat.span.1 H;unfold F.KW;simp only[AH];exact⟨_,H.drew.cell rfl,_,H.drew.cell rfl,j _ (Sat.span.2 ⟨v,sm,H.drew⟩)⟩
def RP(H:Sat (DF E b S::Z) w){i:Int}{K:Bool->World->Prop}(j:K (decide (0<=i/\i<S.AK)) w):F.E7 E (some ⟨b,0,none⟩) i K w:=by
 obtain⟨v,sm,H⟩:=Sat.span.1 H;unfold F.E7;simp only[AH];refine AB (λg=>⟨_,H.cell rfl,?_⟩) λg=> ?_
 .rw[show decide (i<S.AK)=decide (0<=i/\i<S.AK)from decide_eq_decide.2 (by omega)];exact j
 .rw[decide_eq_false (by omega)]at j;exact j
def Sx(H:Sat (DF E b S::Z) w){i:Int}(h0:0<=i)(h1:i<S.AK){K:Int->Int->World->Prop}(j: ∀w',Sat (DF E b S::Z) w'->K (u64 (S.base+u64 (u64 i*u64 S.elem))) 0 w'):F.EL E (some ⟨b,0,none⟩) i K w:=by
 unfold F.EL T0.EL;refine RP H ?_;rw[decide_eq_true ⟨h0,h1⟩];refine AO rfl ?_;obtain⟨y,sm,H⟩:=Sat.span.1 H;simp only[AH];exact⟨_,H.drew.Aa rfl,_,H.drew.cell rfl,Am λt v=>by rw[v];exact j _ (Sat.span.2 ⟨y,sm,H.drew⟩)⟩
def qU(AA elem:Int):Prop:=AA=0∨134217728<AA∨elem<8∨AA*8192<elem
end
end
def HS.put(S:HS)(id:Int)(x:Nat×SI):HS:={S with sp:=λi=>if i=id then some x else S.sp i}
section
variable{S:HS}{fl:Int->Bool}{id:Int}{x:Nat×SI}{I:SI}
def BS.put(h:BS S fl)(O:S.sp id=some x)(h1:I.base=x.2.base)(h2:I.AA=x.2.AA)(v:I.state≠0):BS (S.put id (x.1,I)) fl:=by
 refine⟨h.cr,h.cd,h.fn,λp hp=> ?_,h.o0,h.li,h.cv,h.ks,h.la,h.rd,λi y j=> ?_,λi=> ?_,h.fb,h.pg,h.h0,h.h1⟩
 .obtain⟨a,b,c,y,j,J,K⟩:=h.ow p hp;refine⟨a,b,c,?_⟩;by_cases e:S.own p=id
  .refine⟨(x.1,I),if_pos e,?_⟩
   grind
  .exact⟨y,(if_neg e).trans j,J,K⟩
 .have j:(if i=id then some (x.1,I)else S.sp i)=some y:=j;by_cases e:i=id
  .rw[if_pos e]at j;cases j;obtain⟨a,b,c,_,d⟩:=h.sp id x O;subst e;refine⟨a,by grind,by grind,v,?_⟩;rw[h1,h2];exact d
  .rw[if_neg e]at j;exact h.sp i y j
 .show(if i=id then some (x.1,I)else S.sp i)≠none↔_;refine Iff.trans ?_ (h.sf i)
  grind
def HS.IQ:(S.put id x).sp id=some x:=if_pos rfl
def HS.Ni{i:Int}(h:i≠id):(S.put id x).sp i=S.sp i:=if_neg h
end
section
variable{E:Env}{h:Nat}{S:HS}{Z:List Pr}{w:World}
def Ox{α:Type}: ∀{l:List α} {i:Nat} {x:α},l.Nodup->l[i]? =some x->x∉l.eraseIdx i
 | [],i,x,_,h=>by simp at h
 | y::l,0,x,j,h=>by grind
 | y::l,i+1,x,j,h=>by
  have j:=List.nodup_cons.1 j;have h:l[i]? =some x:=by grind
  have v:=Ox j.2 h
  grind
def Sat.qV(H:Sat (B2 E h S::Z) w){id:Int}{x:Nat×SI}(y:S.sp id=some x): ∃R:List Pr,Sat (DF E x.1 x.2::(R++Z)) w/\ ∀{Y:List Pr} {I:SI} {w'},Sat (DF E x.1 I::(R++Y)) w'->Sat (B2 E h (S.put id (x.1,I))::Y) w':=by
 obtain⟨g,hI,H⟩:=Sat.heap.1 H;have hm:id∈g.ids:=(hI.mem id).2 (by grind);obtain⟨i,v⟩:=List.mem_iff_getElem?.1 hm;have H1:=(H.front 6 rfl).HA v;have e:spR E S.sp id=DF E x.1 x.2:=by unfold spR;rw[y]
 rw[e]at H1;refine⟨Ad (spR E S.sp) (g.ids.eraseIdx i)::(Dd E h S g).eraseIdx 6,H1,λ{Y I w'} h'=>Sat.heap.2 ⟨g,⟨hI.nd,λj=> ?_⟩,?_⟩⟩
 .rw[hI.mem];show _↔(if j=id then some (x.1,I)else S.sp j)≠none
  grind
 .have J:spR E (S.put id (x.1,I)).sp id=DF E x.1 I:=by unfold spR;rw[HS.IQ]
  have K:Ad (spR E S.sp) (g.ids.eraseIdx i)=Ad (spR E (S.put id (x.1,I)).sp) (g.ids.eraseIdx i):=Ad.congr λj hj=>by
   have:j≠id:=λe=>Ox hI.nd v (e▸hj);unfold spR;rw[HS.Ni this]
  rw[<-J,K]at h';have h2:=Sat.JN h' v;have h3:=Sat.back (Ps:=Dd E h S g++Y) 6 h2 (by simp[Dd]);have O:FC S.sp=FC (S.put id (x.1,I)).sp:=by
   funext j;unfold FC;by_cases e:j=id
   .rw[e,HS.IQ,y];rfl
   .rw[HS.Ni e]
  have e4:(Dd E h S g++Y).set 6 (Ad (spR E (S.put id (x.1,I)).sp) g.ids)=Dd E h (S.put id (x.1,I)) g++Y:=by
   show [Cells h E.Al (Cd g S.hint S.AA),DT E g.m S.V,By E g.t S.T,C5 E g.a S.ks S.own,IP E g.f S.fx,EJ g.sm .i64 (FC S.sp),_,_]++Y=_;rw[O];rfl
  grind
def Sat.jQ(H:Sat (B2 E h S::Z) w){id:Int}{x:Nat×SI}(j:S.sp id=some x): ∃R:List Pr,Sat (DF E x.1 x.2::R) w/\ ∀{I:SI} {w'},Sat (DF E x.1 I::R) w'->Sat (B2 E h (S.put id (x.1,I))::Z) w':=
 let⟨R,a,b⟩:=H.qV j;⟨R++Z,a,b⟩
variable(hE:EnvA E)
include hE
end
section
variable{E:Env}{h:Nat}{S:HS}{Z:List Pr}{w:World}{g:HG}
variable(hE:EnvA E)
include hE
end
end Go.Sh
namespace Go.Sh
open Ieee
def rd(x:Nat):Datum:=double.read x
noncomputable def timesV(n r:Int):Int:=match JD .mul (Lv n) r.toNat with
 | none=>0
 | some x=>bif (DY x 4895412794951729152==some .gt||DY x 4895412794951729152==some .eq)then 18446744073709551615 else bif (DY x 4607182418800017408==some .gt||DY x 4607182418800017408==some .eq)then(Rv x).getD 0 else 0
def rd64:rd 4895412794951729152= .number false 4503599627370496 12:=by decide+kernel
def rd1:rd 4607182418800017408= .number false 4503599627370496 (-52):=by decide+kernel
def Mb(x c:Nat):DY x c=(rd x).order (rd c):=Kw _
def wA(x:Nat):Rv x=(rd x).toInt .zero:=Kw _
def qX{a b:Int}(h:((some (compare a b)==some Ordering.gt)||(some (compare a b)==some Ordering.eq))=true):b<=a:=by
 refine Classical.byContradiction λg=> ?_;have:compare a b= .lt:=Int.compare_eq_lt.2 (by omega);rw[this]at h;simp at h
def cmp_lt{a b:Int}(h: ¬((some (compare a b)==some Ordering.gt)||(some (compare a b)==some Ordering.eq))=true):a<b:=by
 refine Classical.byContradiction λg=>h ?_;by_cases e:a=b
 .have:compare a b= .eq:=Int.compare_eq_eq.2 e;rw[this];rfl
 .have:compare a b= .gt:=Int.compare_eq_gt.2 (by omega);rw[this];rfl
def wB{a b:Int}(h:a<b):((some (compare a b)==some Ordering.gt)||(some (compare a b)==some Ordering.eq))=false:=by
 have:compare a b= .lt:=Int.compare_eq_lt.2 h;rw[this];rfl
def L3(m u:Nat):signed false m u=((m*2^u:Nat):Int):=by unfold signed;rw[Nat.shiftLeft_eq];rfl
def VL(m u:Nat):signed true m u= -((m*2^u:Nat):Int):=by unfold signed;rw[Nat.shiftLeft_eq];rfl
def qY(s:Bool)(n d:Nat):Toward.zero.cut s n d=n/2^(min d (n.log2+2)):=by
 unfold Toward.cut;simp only[Nat.shiftLeft_eq,Nat.one_mul,Bool.toNat_false,Nat.add_zero]
def cut_le{s:Bool}{n d B:Nat}(h:n<B*2^d)(j:0<B):Toward.zero.cut s n d<B:=by
 rw[qY];by_cases e:d<=n.log2+2
 .rw[Nat.min_eq_left e];exact(Nat.div_lt_iff_lt_mul (Nat.pow_pos (by decide))).2 h
 .rw[Nat.min_eq_right (by omega)];have:n<2^(n.log2+2):=Nat.lt_of_lt_of_le Nat.lt_log2_self (Nat.pow_le_pow_right (by decide) (by omega));rw[Nat.div_eq_of_lt this];exact j
def mU(m:Nat)(i:Int):(Datum.number false m i).toInt .zero=some ((Toward.zero.cut false (m*2^i.toNat) (-i).toNat:Nat):Int):=by
 unfold Datum.toInt Datum.integral;simp only[L3,Nat.shiftLeft_eq,Nat.pow_zero,Nat.mul_one]
def YB{x:Nat}(h1:((DY x 4607182418800017408==some .gt)||(DY x 4607182418800017408==some .eq))=true)(h2: ¬((DY x 4895412794951729152==some .gt)||(DY x 4895412794951729152==some .eq))=true):
  ∃k:Nat,Rv x=some (k:Int)/\k<18446744073709551616:=by
 rw[Mb,rd1]at h1;rw[Mb,rd64]at h2;rw[wA];generalize rd x=d at *
 cases d with
 | nan s t=>simp[Datum.order]at h1
 | infinity s=>
  cases s
  .simp[Datum.order]at h2
  .simp[Datum.order]at h1
 | number s m i=>
  simp only[Datum.order]at h1 h2;have q1:=qX h1;have j:=cmp_lt h2;rw[L3]at q1 j;cases s with
  | true=>
   rw[VL]at q1;have:0<4503599627370496*2^(-52-min i (-52)).toNat:=Nat.mul_pos (by decide) (Nat.pow_pos (by decide));omega
  | false=>
   rw[L3]at j;have j:m*2^(i-min i 12).toNat<4503599627370496*2^(12-min i 12).toNat:=by exact_mod_cast j
   refine⟨_,mU m i,cut_le (B:=18446744073709551616) ?_ (by decide)⟩;by_cases hi:0<=i
   .rw[show(-i).toNat=0 by omega,Nat.pow_zero,Nat.mul_one];by_cases h12:i<=12
    .rw[Int.min_eq_left h12,show(i-i).toNat=0 by omega,Nat.pow_zero,Nat.mul_one]at j;have e:2^(12-i).toNat*2^i.toNat=2^12:=by rw[<-Nat.pow_add];congr 1;omega
     calc m*2^i.toNat<4503599627370496*2^(12-i).toNat*2^i.toNat:=Nat.mul_lt_mul_of_pos_right j (Nat.pow_pos (by decide))
      _=18446744073709551616:=by rw[Nat.mul_assoc,e]
    .rw[Int.min_eq_right (by omega),show(12-12:Int).toNat=0 by decide,Nat.pow_zero,Nat.mul_one]at j;have e:2^i.toNat=2^(i-12).toNat*2^12:=by rw[<-Nat.pow_add];congr 1;omega
     rw[e,<-Nat.mul_assoc]
     calc m*2^(i-12).toNat*2^12<4503599627370496*2^12:=Nat.mul_lt_mul_of_pos_right j (by decide)
      _=18446744073709551616:=by decide
   .rw[show i.toNat=0 by omega,Nat.pow_zero,Nat.mul_one];rw[Int.min_eq_left (by omega),show(i-i).toNat=0 by omega,Nat.pow_zero,Nat.mul_one,show(12-i).toNat=12+(-i).toNat by omega,Nat.pow_add,<-Nat.mul_assoc]at j;exact j
def XC(n r:Int):0<=timesV n r/\timesV n r<18446744073709551616:=by
 unfold timesV;cases JD .mul (Lv n) r.toNat with
 | none=>exact⟨Int.le_refl _,by show(0:Int)<_;decide⟩
 | some x=>
  simp only;cases h2:(DY x 4895412794951729152==some .gt||DY x 4895412794951729152==some .eq)with
  | true=>exact⟨(by decide:(0:Int)<=18446744073709551615),(by decide:(18446744073709551615:Int)<18446744073709551616)⟩
  | false=>
   cases h1:(DY x 4607182418800017408==some .gt||DY x 4607182418800017408==some .eq)with
   | false=>exact⟨(by decide:(0:Int)<=0),(by decide:(0:Int)<18446744073709551616)⟩
   | true=>
    obtain⟨k,hk,j⟩:=YB h1 (by rw[h2];decide);simp only[cond_false,cond_true];rw[hk];exact⟨by show(0:Int)<=(k:Int);omega,by show(k:Int)<_;omega⟩
def rd_nan(t:Nat): ∃s f,rd (kS t)= .nan s f:=by
 have h1:t %2<2:=Nat.mod_lt _ (by decide);have h2:(t/2) %(2^52-1)<2^52-1:=Nat.mod_lt _ (by decide);unfold rd kS Format.read;have j:double.signWeight=9223372036854775808:=by decide
 have v:double.binade=4503599627370496:=by decide
 have y:double.infRung=9218868437227405312:=by decide+kernel
 simp only[j,v,y];generalize t %2=a at *
 generalize (t/2) %(2^52-1)=b at *
 rw[if_neg (by omega),if_neg (by omega),if_neg (by omega)];exact⟨_,_,rfl⟩
def Tv(t c:Nat):DY (kS t) c=none:=by
 rw[Mb];obtain⟨s,f,h⟩:=rd_nan t;rw[h];cases rd c<;>rfl
end Go.Sh
namespace Go.Sh
open Ieee
def dsw:double.signWeight=9223372036854775808:=by decide
def dbi:double.binade=4503599627370496:=by decide
def dir:double.infRung=9218868437227405312:=by decide+kernel
def dlp:double.leastPlace= -1074:=by decide
def QL(a b:Nat):JD .mul a b=((rd a).product (rd b)).map double.write:=Kw _
def wC(x:Nat):rd x=if x %9223372036854775808<4503599627370496 then .number (x/9223372036854775808 %2==1) (x %9223372036854775808) (-1074)else
  if x %9223372036854775808<9218868437227405312 then .number (x/9223372036854775808 %2==1) (4503599627370496+x %9223372036854775808 %4503599627370496) (-1074+((x %9223372036854775808/4503599627370496-1:Nat):Int))else
  if x %9223372036854775808=9218868437227405312 then .infinity (x/9223372036854775808 %2==1)else .nan (x/9223372036854775808 %2==1) (x %9223372036854775808-9218868437227405312):=by
 unfold rd Format.read;simp only[dsw,dbi,dir,dlp]
def Mc{n r:Int}(h:JD .mul (Lv n) r.toNat=none):timesV n r=0:=by unfold timesV;rw[h]
def VM{n r:Int}{x:Nat}(h:JD .mul (Lv n) r.toNat=some x)(h2:(DY x 4895412794951729152==some .gt||DY x 4895412794951729152==some .eq)=false)(h1:(DY x 4607182418800017408==some .gt||DY x 4607182418800017408==some .eq)=false):timesV n r=0:=by
 unfold timesV;rw[h];simp only[h1,h2,cond_false]
def jR{x:Nat}(y:(∃m i,rd x= .number true m i)∨rd x= .infinity true)(c:Nat)(v: ∃m i,0<m/\rd c= .number false m i):(DY x c==some .gt||DY x c==some .eq)=false:=by
 obtain⟨k,j,hk,v⟩:=v;rw[Mb,v];rcases y with ⟨m,i,h⟩|h
 .rw[h];refine wB ?_;rw[L3,VL];have:0<k*2^(j-min i j).toNat:=Nat.mul_pos hk (Nat.pow_pos (by decide));have h0:0<=m*2^(i-min i j).toNat:=Nat.zero_le _;omega
 .rw[h];rfl
def qZ(R:Nat)(h:R<=9218868437227405312):(∃m i,rd (double.word true R)= .number true m i)∨rd (double.word true R)= .infinity true:=by
 have e:double.word true R=9223372036854775808+R:=by unfold Format.word;rw[dsw];rfl
 rw[e,wC,show(9223372036854775808+R) %9223372036854775808=R by omega,show(9223372036854775808+R)/9223372036854775808 %2=1 by omega];by_cases h1:R<4503599627370496
 .rw[if_pos h1];exact .inl ⟨_,_,rfl⟩
 .rw[if_neg h1];by_cases h2:R<9218868437227405312
  .rw[if_pos h2];exact .inl ⟨_,_,rfl⟩
  .rw[if_neg h2,if_pos (by omega)];exact .inr rfl
def pos1: ∃m i,0<m/\rd 4607182418800017408= .number false m i:=⟨_,_,by decide,rd1⟩
def pos64: ∃m i,0<m/\rd 4895412794951729152= .number false m i:=⟨_,_,by decide,rd64⟩
end Go.Sh
namespace Go.Sh
open Ieee
end Go.Sh
namespace Go.Sh
open Ieee
def rd00:rd 0= .number false 0 (-1074):=by decide+kernel
def ord0a:(((rd 0).order (rd 4895412794951729152)==some .gt)||((rd 0).order (rd 4895412794951729152)==some .eq))=false:=by decide+kernel
def ord0b:(((rd 0).order (rd 4607182418800017408)==some .gt)||((rd 0).order (rd 4607182418800017408)==some .eq))=false:=by decide+kernel
def fU(n:Int):timesV n 0=0:=by
 have v:(0:Int).toNat=0:=rfl;cases hq:rd (Lv n)with
 | nan s f=>exact Mc (by rw[QL,v,hq];rfl)
 | infinity s=>
  refine Mc ?_;rw[QL,v,hq,rd00];simp[Datum.product]
 | number s m i=>
  have j:JD .mul (Lv n) (0:Int).toNat=some (double.write (.number (s^^false) (m*0) (i+ -1074))):=by
   rw[QL,v,hq,rd00];rfl
  have hw:double.write (.number (s^^false) (m*0) (i+ -1074))=double.word s 0:=by
   show double.nearest (s^^false) (m*0) (i+ -1074)=_;unfold Format.nearest;rw[if_pos (by simp),Bool.xor_false]
  rw[hw]at j;cases s with
  | false=>
   have j:JD .mul (Lv n) (0:Int).toNat=some 0:=j;exact VM j (by rw[Mb];exact ord0a) (by rw[Mb];exact ord0b)
  | true=>
   have y:=qZ 0 (by decide);exact VM j (jR y _ pos64) (jR y _ pos1)
end Go.Sh

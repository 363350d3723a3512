/- What the heap's laws share. No further condition. -/
import Derived.Test.YtgcgcligdjnmaaaGreatDoorH
import Derived.Test.YtgcgcligdjnmaaaGreatDoorY
import Derived.Test.YtgcgcligdjnmaaaGreatDoorA
import Derived.Test.YtgcgcligdjnmaaaGreatDoorC
import Derived.Test.YtgcgcligdjnmaaaGreatDoorR
import Derived.Test.YtgcgcligdjnmaaaGreatDoorM
set_option linter.all false
set_option maxRecDepth 50000
set_option maxHeartbeats 4000000
namespace Go.Sh
def Found.induct{P:HS->Prop}{S S2:HS}{p n page:Int}(hS:P S)(h1: ∀S i q,i<64->P S->P (S.fill i q))(h2: ∀S i k n,P S->P (S.JJ i k n))(O: ∀S page n,P S->P (S.Fp page n))
  (T: ∀S V at_ N,P S->P (S.grown V at_ N))(Y: ∀S V,P S->P {S with V:=V})(h:Found S p n page S2):P S2:=by
 have hf: ∀{i S1},i<64->Jr S i S1->P S1:=λ{i S1} j h=>by
  rcases h with ⟨_,q,_,rfl⟩|⟨_,rfl⟩
  .grind
  .exact hS
 have ht: ∀{S1},Ih S p n S1->P S1:=λ{S1} h=>by
  rcases h with ⟨_,rfl⟩|⟨i,j,_,_,h,_⟩
  .exact hS
  .exact hf j h
 obtain⟨S1,hk,hm⟩:=h;have d:P S1:=by
  rcases hk with (⟨y,i,k,j,_,_,K,_,_,_,_,rfl⟩|⟨y,v,_,rfl⟩)|⟨y,J,v,_,⟨_,at_,_,rfl⟩,_,rfl⟩
  .grind
  .grind
  grind
 rcases hm with ⟨_,rfl⟩|⟨_,_,rfl⟩
 .exact d
 grind
structure Same(S S2:HS):Prop where
 sp:S2.sp=S.sp
 own:S2.own=S.own
 fx:S2.fx=S.fx
 AA:S2.AA=S.AA
def Found.same{S S2:HS}{p n page:Int}(h:Found S p n page S2):Same S S2:=
 h.induct (P:=Same S) ⟨rfl,rfl,rfl,rfl⟩ (λ_ _ _ _ h=>⟨h.sp,h.own,h.fx,h.AA⟩) (λ_ _ _ _ h=>⟨h.sp,h.own,h.fx,h.AA⟩) (λ_ _ _ h=>⟨h.sp,h.own,h.fx,h.AA⟩) (λ_ _ _ _ h=>⟨h.sp,h.own,h.fx,h.AA⟩) λ_ _ h=>⟨h.sp,h.own,h.fx,h.AA⟩
structure Fu(S:HS)(b:Int):Prop where
 la: ∀p,mem S.V.laid p↔512<=p/\p<b
 b0:512<=b
 b1:b %512=0
 h0:0<=S.hint
 h1:S.hint<=b
 pl:S.V.pl=[]
 rf:S.V.rf=[]
def Fu.new(fl:List Int):Fu (HS.new (Md [] [] fl)) 512:=⟨λp=>⟨λh=>absurd h (Bt p),λh=>by omega⟩,Int.le_refl _,rfl,Int.le_refl _,by show(0:Int)<=512;decide,rfl,rfl⟩
section
variable{S S2:HS}{b p n page:Int}
def UQ(n:Int):n<=ID n/\ID n<n+512/\ID n %512=0:=by unfold ID;omega
def Fu.cY(h:Fu S b){hint N at_:Int}(v:0<N)(d:hint<=b)(hp:Lq S.V.laid hint N at_):at_=b:=by
 have h1:=hp.low;have h2:=hp.mul;have b0:=h.b0;have b1:=h.b1;by_cases g:b<at_
 .obtain⟨m,m1,y,j⟩:=hp.first b b1 b0 d g;have:=(h.la m).1 j;omega
 .by_cases g2:at_<b
  .exact absurd ((h.la at_).2 ⟨h1,g2⟩) (hp.free at_ (Int.le_refl _) (by omega))
  .omega
def Fu.yD(h:Fu S b){N at_:Int}(d:0<N)(j:IK S.V S.hint N at_):at_=b:=by
 have:=h.h0;have:=h.h1;rcases j with ⟨p,r,e,_⟩|⟨_,⟨_,h1,_⟩|⟨_,_,h1,_⟩⟩
 .rw[h.pl]at e;cases e
 .exact h.cY d (by omega) h1
 .exact h.cY d (by have:=h.b0;omega) h1
def Fu.oW(h:Fu S b){N:Int}(d:0<N)(j:b+N<=34359738368)(hu:MA S.V S.hint N):False:=by
 have:=h.h1;obtain⟨_,g|⟨a,g1,g2⟩,_⟩:=hu
 .omega
 .have:=h.cY d h.h1 g1;omega
def Fu.gM(h:Fu S b)(d:S2.V=S.V)(j:S2.hint=S.hint):Fu S2 b:=⟨by rw[d];exact h.la,h.b0,h.b1,by rw[j];exact h.h0,by rw[j];exact h.h1,by rw[d];exact h.pl,by rw[d];exact h.rf⟩
def Jr.V{i:Nat}(h:Jr S i S2):S2.V=S.V/\S2.hint=S.hint:=by
 rcases h with ⟨_,q,_,rfl⟩|⟨_,rfl⟩<;>exact⟨rfl,rfl⟩
def Ih.V(h:Ih S p n S2):S2.V=S.V/\S2.hint=S.hint:=by
 rcases h with ⟨_,rfl⟩|⟨i,_,_,_,h,_⟩
 .grind
 .exact h.V
def Fu.made(h:Fu S b)(hm:Made S page n S2):Fu S2 b:=by
 rcases hm with ⟨_,rfl⟩|⟨_,_,rfl⟩
 .exact h
 .exact⟨h.la,h.b0,h.b1,h.h0,h.h1,h.pl,by show S.V.rf.tail=[];rw[h.rf];rfl⟩
def Fu.grew'(h:Fu S b)(hk:Ok S.V.laid)(y:1<=n)(j:Yw S n S2)(v:b+ID n<=34359738368):Fu S2 (b+ID n)/\S2=S.grown {S.V with rf:=S.V.rf.tail,pl:=S.V.pl.tail,laid:=Dt S.V.laid b (b+ID n)} b (ID n):=by
 obtain⟨_,at_,d,rfl⟩:=j;have hu:=UQ n;have b0:=h.b0;have b1:=h.b1;have:=h.yD (by omega) d;subst this;refine⟨⟨λq=> ?_,by omega,by omega,by show 0<=at_+ID n;omega,Int.le_refl _,by show S.V.pl.tail=[];rw[h.pl];rfl,by show S.V.rf.tail=[];rw[h.rf];rfl⟩,rfl⟩;refine(EW hk (by omega) (by omega) (by omega) q).trans ?_;rw[h.la];omega
def Fu.lost(v:Fu S b)(hn:1<=n)(T:b+ID n<=34359738368)(h:Sg S p n S2):False:=by
 have hu:=UQ n;rcases h with ⟨j,d,_,⟨r,J,_⟩|⟨_,K,_⟩⟩|⟨S1,page,r,hk,_,J,_⟩
 .rw[(v.gM d.V.1 d.V.2).rf]at J;cases J
 .exact(v.gM d.V.1 d.V.2).oW (by omega) T K
 .have e:S1.V.rf=[]:=by
   rcases hk with (⟨j,i,k,hi,_,_,y,_,_,_,_,rfl⟩|⟨j,d,_,rfl⟩)|⟨j,O,d,_,⟨_,at_,Y,rfl⟩,_,rfl⟩
   .show j.V.rf=[];rw[y.V.1];exact v.rf
   .show j.V.rf=[];rw[d.V.1];exact v.rf
   .show j.V.rf.tail=[];rw[d.V.1,v.rf];rfl
  grind
def oX{V:TV}{p:Int}(h:Gt V 1 p):V.fr p=true:=h.2.2.1 p (Int.le_refl _) (by omega)
def Xo(S:HS)(a b:Int):Prop:= ∀p,S.T.fr p=true↔a<=p/\p<b
def Xo.first{a:Int}(h:Xo S a b)(d:1<=n)(hf:Gt S.T n page):page=a/\a+n<=b:=by
 obtain⟨_,_,h1,h2⟩:=hf;have v:=(h page).1 (h1 page (Int.le_refl _) (by omega));have y:=(h (page+n-1)).1 (h1 (page+n-1) (by omega) (by omega));have:=h2 a λm m1 j=>(h m).2 (by omega);omega
def Xo.none{a:Int}(h:Xo S a b)(d: ∀q,¬LO S.T.fr q n):b<a+n:=by
 refine Classical.byContradiction λg=>d a λm m1 j=>(h m).2 (by omega)
def Xo.taken{a:Int}(h:Xo S a b)(d:0<=n):Xo (S.Fp a n) (a+n) b:=λp=>by
 refine ON.trans ?_;rw[h p];omega
def Xo.grown{a:Int}(h:Xo S a b){V:VS}{N:Int}(h1:b %512=0)(h2:N %512=0)(j:0<=N)(d:a<=b):Xo (S.grown V b N) a (b+N):=λp=>by
 show(S.T.fr p||inr (b/512*512) (N/512*512) p)=true↔_;rw[Bool.or_eq_true,h p,Ai];omega
def Xo.new(V:VS):Xo (HS.new V) 512 512:=λp=>⟨λh=>(by cases h),λh=>by omega⟩
def Found.row(h:Found S p n page S2){a:Int}(O:Fu S b)(hk:Jw S)(J:Xo S a b)(aA:a<=b)(hn:1<=n)(hb:b+ID n<=34359738368)(hT: ∀d,Ih S p n d->d=S)(aC: ∀d page,aI S p n page d->d=S.Fp page n/\Gt S.T n page):
  ∃j,(j=b∨j=b+ID n)/\page=a/\a+n<=j/\Fu S2 j/\Xo S2 (a+n) j/\S2.ca=S.ca/\(j=b-> ∀V,{S2 with V:=V}={S.Fp a n with V:=V})/\(a+n<=b->j=b):=by
 obtain⟨S1,h,hm⟩:=h;have hu:=UQ n;have hs: ∀{S1 S2:HS},Made S1 page n S2->S2.ca=S1.ca/\S2.T=S1.T/\ ∀V,{S2 with V:=V}={S1 with V:=V}:=λh=>by
  rcases h with ⟨_,rfl⟩|⟨_,_,rfl⟩<;>exact⟨rfl,rfl,λ_=>rfl⟩
 obtain⟨s1,s2,s3⟩:=hs hm;rcases h with h|⟨d,K,aD,v,hg,hf,rfl⟩
 .obtain⟨rfl,hf⟩:=aC _ _ h;obtain⟨rfl,h1⟩:=J.first hn hf;refine⟨b,.inl rfl,rfl,h1,(O.gM rfl rfl:Fu (S.Fp page n) b).made hm,λq=> ?_,s1,λ_=>s3,λ_=>rfl⟩;rw[s2];exact J.taken (by omega) q
 .obtain rfl:=hT _ aD;obtain⟨h1,e0⟩:=O.grew' hk.vv.Le hn hg hb;have Y:Fu S2 (b+ID n):=(h1.gM rfl rfl:Fu (K.Fp page n) (b+ID n)).made hm;subst e0;have y:Xo (d.grown {d.V with rf:=d.V.rf.tail,pl:=d.V.pl.tail,laid:=Dt d.V.laid b (b+ID n)} b (ID n)) a (b+ID n):=J.grown O.b1 hu.2.2 (by omega) aA;obtain⟨rfl,h2⟩:=y.first hn hf;have hl:=J.none v;refine⟨b+ID n,.inr rfl,rfl,h2,Y,λq=> ?_,s1,λe=>by omega,λe=>by omega⟩;rw[s2];exact y.taken (by omega) q
def QP(d: ∀q,S.T.fr q=false){j:HS}(K:1<=n)(y:Ih S p n j):j=S:=by
 rcases y with ⟨_,rfl⟩|⟨i,J,rfl,_,⟨_,q,v,_⟩|⟨_,rfl⟩,_⟩
 .rfl
 .have:=oX v;rw[d]at this;cases this
 .rfl
def cZ(d: ∀q,S.T.fr q=false)(J: ∀i,i<64->(S.ca i).empty){j:HS}{page:Int}(O:1<=n)(y:aI S p n page j):j=S.Fp page n/\Gt S.T n page:=by
 rcases y with ⟨S1,i,k,K,rfl,_,v,hr,_⟩|⟨j,y,hf,rfl⟩
 .exfalso;rcases v with ⟨_,q,Y,_⟩|⟨_,rfl⟩
  .have:=oX Y;rw[d]at this;cases this
  .have:=hr 0 (by omega);rw[J i K]at this;cases this
 .rw[QP d O y]at hf⊢;exact⟨rfl,hf⟩
end
section
variable{E:Env}{b c:Nat}{V:VS}{Z Rs:List Pr}{w:World}
end
section
variable{E:Env}{w:World}{Rs Z:List Pr}
def BN.Md(pl:List Int)(rf:List Bool)(fl:List Int):BN (HS.new (Go.Sh.Md pl rf fl)) no:=BN.new rfl rfl
variable(hE:EnvA E)
include hE
theorem kG{h:Nat}{S:HS}(hT: ∀w',Sat Z w'->GL E.AN w')(H:Sat (BQ E h S::Z) w)(hI:BN S no){p n c b:Int}{np:Bool}(hL:Fu S b)(O: ¬GB 0 n c)(n0:0<=n)(hb:b+ID n<=34359738368){K:Int->Int->World->Prop}
  (hK:1<=n-> ∀page S2 d id X,Found S p n page S2->Jw S->BN S2 (inr page n)->0<=page->page+n<=34359738368->Next S2 id X->BN (S2.Cv id (d,IZ page n c np) page n X) no-> ∀w',Sat (BQ E h (S2.Cv id (d,IZ page n c np) page n X)::Z) w'->K id 0 w'):
  F.CM E (some ⟨h,0,none⟩) p n c np K w:=by
 have A2:=H.A2;have J:=O;unfold GB at J;have T:1<=n/\n<=134217728:=by
  by_cases e:c=0
  .omega
  .have aF:=Li (c:=c) (by omega) (by omega);omega
 exact Rt hE hT H hI n0 (by omega) (λy=>absurd y O) (λ_ S2 hl=>(hL.lost T.1 hb hl).elim) λ_ page S2 d id X hf j q0 q1 hX v w' Y=>hK T.1 page S2 d id X hf A2 j q0 q1 hX v w' Y
end
section
variable{S S2:HS}{i k:Nat}{page:Int}
def Fu.Cv{b:Int}(h:Fu S b)(id:Int)(x:Nat×SI)(pg n:Int)(X:FX):Fu (S.Cv id x pg n X) b:=⟨h.la,h.b0,h.b1,h.h0,h.h1,h.pl,h.rf⟩
def Next.top{id:Int}{X:FX}(h:Next S id X){n:Nat}(e:S.fx=⟨n,[]⟩):id=(n:Int)+1/\X=⟨n+1,[]⟩:=by
 rcases h with ⟨_,h2,d⟩|⟨a,r,h1,_⟩
 .grind
 grind
end
def cls5:(Bb 5).2.1=1:=by decide+kernel
def oY{S:HS}{id:Int}{x:Nat×SI}{pg n:Int}{X:FX}(p:Int):(S.Cv id x pg n X).own p=if pg<=p/\p<pg+n then id else S.own p:=rfl
section
variable{E:Env}{w:World}{Rs Z:List Pr}(hE:EnvA E)
include hE
end
section
variable{S S2:HS}{n page:Int}
def asks(next b n:Int):Nat:=if next+n<=b then 1 else 2
variable{i:Nat}{next b:Int}{rf:List Bool}
end
def UR: ∀(N:Nat) (l:List Int),l.Nodup->(∀n∈l,0<n/\n<=N)->l.length<=N
 | 0,[],_,_=>Nat.le_refl _
 | 0,n::_,_,h=>by have:=h n List.mem_cons_self;omega
 | N+1,l,hn,h=>by
  by_cases hm:((N+1:Nat):Int)∈l
  .have j:=UR N (l.erase ((N+1:Nat):Int)) (hn.erase _) λn d=>by grind
   grind
  .have j:=UR N l hn λn d=>by grind
   omega
def W_not(u:Nat->Bool):D5 .u64 2 18446744073709551615 (W u)=W λi=> !u i:=by
 rw[<-Wj];show IntKind.wrap .u64 ((BitVec.ofInt 64 (W λ_=>true)^^^BitVec.ofInt 64 (W u)).toNat:Int)=_;rw[BitVec.toNat_xor,vD,vD];have e:wN (λ_=>true) 64^^^wN u 64=wN (λi=> !u i) 64:=by
  refine Nat.eq_of_testBit_eq λi=> ?_;rw[Nat.testBit_xor,D6,D6,D6]
  grind
 rw[e,Tk (M0 _ 64)];rfl
def vP{n:Nat}(h:n<64):u64 (1*2^(min (Int.toNat (n:Int)) (IntKind.bits .u64)))=W λi=>i==n:=by
 have e:=mX (λi=>i==0) (n:=(n:Int)) (by omega) (by omega);rw[mT]at e
 grind
def dA{n:Nat}(h:n<64):u64 ((u64 (1*2^(min (Int.toNat (n:Int)) (IntKind.bits .u64))))-1)=W λi=>decide (i<n):=by
 have e:wN (λi=>i==n) 64=2^n:=by
  refine Nat.eq_of_testBit_eq λi=> ?_;rw[D6,Nat.testBit_two_pow]
  grind
 have d:wN (λi=>decide (i<n)) 64=2^n-1:=by
  refine Nat.eq_of_testBit_eq λi=> ?_;rw[D6,Nat.testBit_two_pow_sub_one]
  grind
 rw[vP h];unfold W;rw[e,d];have h1:0<2^n:=Nat.pow_pos (by decide);have h2:2^n<=2^63:=Nat.pow_le_pow_right (by decide) (by omega);rw[AK];omega
def oZ{u:Nat->Bool}{i:Nat}(hu:u i=false): ∀n,cN (λj=>u j||j==i) n=cN u n+(if i<n then 1 else 0)
 | 0=>rfl
 | n+1=>by
  simp only[cN,oZ hu n];by_cases e:n=i
  .grind
  grind
section
variable{E:Env}{w:World}{Z:List Pr}{s:Aa}{uw:List Int}{U:Nat->Bool}
def SI.set(S:SI)(U:Nat->Bool)(n:Nat):SI:={S with uw:=[W λi=>U i||i==n],used:=S.used+1,look:=(n:Int)+1}
section
variable{b:Nat}{S:SI}
def QR(H:Sat (C9 E b S::Z) w){i:Int}{K:Bool->World->Prop}(d:K (decide (0<=i/\i<S.AM)) w):F.El E (some ⟨b,0,none⟩) i K w:=by
 obtain⟨j,sm,H⟩:=Sat.span.1 H;unfold F.El;simp only[AG];refine AB (λg=>⟨_,H.cell rfl,?_⟩) λg=> ?_
 .rw[show decide (i<S.AM)=decide (0<=i/\i<S.AM)from decide_eq_decide.2 (by omega)];exact d
 .rw[decide_eq_false (by omega)]at d;exact d
def Yx(H:Sat (C9 E b S::Z) w){i:Int}(h0:0<=i)(h1:i<S.AM){K:Int->Int->World->Prop}(d: ∀w',Sat (C9 E b S::Z) w'->K (u64 (S.base+u64 (u64 i*u64 S.elem))) 0 w'):F.FK E (some ⟨b,0,none⟩) i K w:=by
 unfold F.FK T0.FK;refine QR H ?_;rw[decide_eq_true ⟨h0,h1⟩];refine AO rfl ?_;obtain⟨v,sm,H⟩:=Sat.span.1 H;simp only[AG];exact⟨_,H.drew.Ah rfl,_,H.drew.cell rfl,AY λt j=>by rw[j];exact d _ (Sat.span.2 ⟨v,sm,H.drew⟩)⟩
def o5(AA elem:Int):Prop:=AA=0∨134217728<AA∨elem<8∨AA*8192<elem
end
end
def HS.put(S:HS)(id:Int)(x:Nat×SI):HS:={S with sp:=λi=>if i=id then some x else S.sp i}
section
variable{S:HS}{fl:Int->Bool}{id:Int}{x:Nat×SI}{I:SI}
def BN.put(h:BN S fl)(O:S.sp id=some x)(h1:I.base=x.2.base)(h2:I.AA=x.2.AA)(v:I.state≠0):BN (S.put id (x.1,I)) fl:=by
 refine⟨h.cr,h.cd,h.fn,λp hp=> ?_,h.o0,h.li,h.cv,h.ks,h.la,h.rd,λi y j=> ?_,λi=> ?_,h.fb,h.pg,h.h0,h.h1⟩
 .obtain⟨a,b,c,y,j,J,K⟩:=h.ow p hp;refine⟨a,b,c,?_⟩;by_cases e:S.own p=id
  .refine⟨(x.1,I),if_pos e,?_⟩
   grind
  .exact⟨y,(if_neg e).trans j,J,K⟩
 .have j:(if i=id then some (x.1,I)else S.sp i)=some y:=j;by_cases e:i=id
  .rw[if_pos e]at j;cases j;obtain⟨a,b,c,_,d⟩:=h.sp id x O;subst e;refine⟨a,by grind,by grind,v,?_⟩;rw[h1,h2];exact d
  .rw[if_neg e]at j;exact h.sp i y j
 .show(if i=id then some (x.1,I)else S.sp i)≠none↔_;refine Iff.trans ?_ (h.sf i)
  grind
def HS.Il:(S.put id x).sp id=some x:=if_pos rfl
def HS.Lt{i:Int}(h:i≠id):(S.put id x).sp i=S.sp i:=if_neg h
end
section
variable{E:Env}{h:Nat}{S:HS}{Z:List Pr}{w:World}
def Nv{α:Type}: ∀{l:List α} {i:Nat} {x:α},l.Nodup->l[i]? =some x->x∉l.eraseIdx i
 | [],i,x,_,h=>by simp at h
 | y::l,0,x,d,h=>by grind
 | y::l,i+1,x,d,h=>by
  have d:=List.nodup_cons.1 d;have h:l[i]? =some x:=by grind
  have j:=Nv d.2 h
  grind
def Sat.o6(H:Sat (BQ E h S::Z) w){id:Int}{x:Nat×SI}(v:S.sp id=some x): ∃R:List Pr,Sat (C9 E x.1 x.2::(R++Z)) w/\ ∀{Y:List Pr} {I:SI} {w'},Sat (C9 E x.1 I::(R++Y)) w'->Sat (BQ E h (S.put id (x.1,I))::Y) w':=by
 obtain⟨g,hI,H⟩:=Sat.heap.1 H;have hm:id∈g.ids:=(hI.mem id).2 (by grind);obtain⟨i,d⟩:=List.mem_iff_getElem?.1 hm;have H1:=(H.front 6 rfl).GG d;have e:spR E S.sp id=C9 E x.1 x.2:=by unfold spR;rw[v]
 rw[e]at H1;refine⟨Ad (spR E S.sp) (g.ids.eraseIdx i)::(Ct E h S g).eraseIdx 6,H1,λ{Y I w'} h'=>Sat.heap.2 ⟨g,⟨hI.nd,λj=> ?_⟩,?_⟩⟩
 .rw[hI.mem];show _↔(if j=id then some (x.1,I)else S.sp j)≠none
  grind
 .have y:spR E (S.put id (x.1,I)).sp id=C9 E x.1 I:=by unfold spR;rw[HS.Il]
  have J:Ad (spR E S.sp) (g.ids.eraseIdx i)=Ad (spR E (S.put id (x.1,I)).sp) (g.ids.eraseIdx i):=Ad.congr λj O=>by
   have:j≠id:=λe=>Nv hI.nd d (e▸O);unfold spR;rw[HS.Lt this]
  rw[<-y,J]at h';have h2:=Sat.HW h' d;have h3:=Sat.back (Ps:=Ct E h S g++Y) 6 h2 (by simp[Ct]);have K:EA S.sp=EA (S.put id (x.1,I)).sp:=by
   funext j;unfold EA;by_cases e:j=id
   .rw[e,HS.Il,v];rfl
   .rw[HS.Lt e]
  have e4:(Ct E h S g++Y).set 6 (Ad (spR E (S.put id (x.1,I)).sp) g.ids)=Ct E h (S.put id (x.1,I)) g++Y:=by
   show [Cells h E.Ae (B4 g S.hint S.AA),Cx E g.m S.V,Bi E g.t S.T,CK E g.a S.ks S.own,Gk E g.f S.fx,Dm g.sm .i64 (EA S.sp),_,_]++Y=_;rw[K];rfl
  grind
def Sat.gN(H:Sat (BQ E h S::Z) w){id:Int}{x:Nat×SI}(d:S.sp id=some x): ∃R:List Pr,Sat (C9 E x.1 x.2::R) w/\ ∀{I:SI} {w'},Sat (C9 E x.1 I::R) w'->Sat (BQ E h (S.put id (x.1,I))::Z) w':=
 let⟨R,a,b⟩:=H.o6 d;⟨R++Z,a,b⟩
variable(hE:EnvA E)
include hE
end
section
variable{E:Env}{h:Nat}{S:HS}{Z:List Pr}{w:World}{g:HG}
variable(hE:EnvA E)
include hE
end
end Go.Sh
namespace Go.Sh
open Ieee
def rd(x:Nat):Datum:=double.read x
noncomputable def timesV(n r:Int):Int:=match Kh .mul (NO n) r.toNat with
 | none=>0
 | some x=>bif (Dq x 4895412794951729152==some .gt||Dq x 4895412794951729152==some .eq)then 18446744073709551615 else bif (Dq x 4607182418800017408==some .gt||Dq x 4607182418800017408==some .eq)then(Qr x).getD 0 else 0
def rd64:rd 4895412794951729152= .number false 4503599627370496 12:=by decide+kernel
def rd1:rd 4607182418800017408= .number false 4503599627370496 (-52):=by decide+kernel
def QS(x c:Nat):Dq x c=(rd x).order (rd c):=Kg _
def tY(x:Nat):Qr x=(rd x).toInt .zero:=Kg _
def o9{a b:Int}(h:((some (compare a b)==some Ordering.gt)||(some (compare a b)==some Ordering.eq))=true):b<=a:=by
 refine Classical.byContradiction λg=> ?_;have:compare a b= .lt:=Int.compare_eq_lt.2 (by omega);rw[this]at h;simp at h
def yE{a b:Int}(h: ¬((some (compare a b)==some Ordering.gt)||(some (compare a b)==some Ordering.eq))=true):a<b:=by
 refine Classical.byContradiction λg=>h ?_;by_cases e:a=b
 .have:compare a b= .eq:=Int.compare_eq_eq.2 e;rw[this];rfl
 .have:compare a b= .gt:=Int.compare_eq_gt.2 (by omega);rw[this];rfl
def MD(m u:Nat):signed false m u=((m*2^u:Nat):Int):=by unfold signed;rw[Nat.shiftLeft_eq];rfl
def Yy(m u:Nat):signed true m u= -((m*2^u:Nat):Int):=by unfold signed;rw[Nat.shiftLeft_eq];rfl
def pA(s:Bool)(n d:Nat):Toward.zero.cut s n d=n/2^(min d (n.log2+2)):=by
 unfold Toward.cut;simp only[Nat.shiftLeft_eq,Nat.one_mul,Bool.toNat_false,Nat.add_zero]
def yF{s:Bool}{n d B:Nat}(h:n<B*2^d)(j:0<B):Toward.zero.cut s n d<B:=by
 rw[pA];by_cases e:d<=n.log2+2
 .rw[Nat.min_eq_left e];exact(Nat.div_lt_iff_lt_mul (Nat.pow_pos (by decide))).2 h
 .rw[Nat.min_eq_right (by omega)];have:n<2^(n.log2+2):=Nat.lt_of_lt_of_le Nat.lt_log2_self (Nat.pow_le_pow_right (by decide) (by omega));rw[Nat.div_eq_of_lt this];exact j
def kH(m:Nat)(i:Int):(Datum.number false m i).toInt .zero=some ((Toward.zero.cut false (m*2^i.toNat) (-i).toNat:Nat):Int):=by
 unfold Datum.toInt Datum.integral;simp only[MD,Nat.shiftLeft_eq,Nat.pow_zero,Nat.mul_one]
def W5{x:Nat}(h1:((Dq x 4607182418800017408==some .gt)||(Dq x 4607182418800017408==some .eq))=true)(h2: ¬((Dq x 4895412794951729152==some .gt)||(Dq x 4895412794951729152==some .eq))=true):
  ∃k:Nat,Qr x=some (k:Int)/\k<18446744073709551616:=by
 rw[QS,rd1]at h1;rw[QS,rd64]at h2;rw[tY];generalize rd x=d at *
 cases d with
 | nan s t=>simp[Datum.order]at h1
 | infinity s=>
  cases s
  .simp[Datum.order]at h2
  .simp[Datum.order]at h1
 | number s m i=>
  simp only[Datum.order]at h1 h2;have v:=o9 h1;have j:=yE h2;rw[MD]at v j;cases s with
  | true=>
   rw[Yy]at v;have:0<4503599627370496*2^(-52-min i (-52)).toNat:=Nat.mul_pos (by decide) (Nat.pow_pos (by decide));omega
  | false=>
   rw[MD]at j;have j:m*2^(i-min i 12).toNat<4503599627370496*2^(12-min i 12).toNat:=by exact_mod_cast j
   refine⟨_,kH m i,yF (B:=18446744073709551616) ?_ (by decide)⟩;by_cases hi:0<=i
   .rw[show(-i).toNat=0 by omega,Nat.pow_zero,Nat.mul_one];by_cases h12:i<=12
    .rw[Int.min_eq_left h12,show(i-i).toNat=0 by omega,Nat.pow_zero,Nat.mul_one]at j;have e:2^(12-i).toNat*2^i.toNat=2^12:=by rw[<-Nat.pow_add];congr 1;omega
     calc m*2^i.toNat<4503599627370496*2^(12-i).toNat*2^i.toNat:=Nat.mul_lt_mul_of_pos_right j (Nat.pow_pos (by decide))
      _=18446744073709551616:=by rw[Nat.mul_assoc,e]
    .rw[Int.min_eq_right (by omega),show(12-12:Int).toNat=0 by decide,Nat.pow_zero,Nat.mul_one]at j;have e:2^i.toNat=2^(i-12).toNat*2^12:=by rw[<-Nat.pow_add];congr 1;omega
     rw[e,<-Nat.mul_assoc]
     calc m*2^(i-12).toNat*2^12<4503599627370496*2^12:=Nat.mul_lt_mul_of_pos_right j (by decide)
      _=18446744073709551616:=by decide
   .rw[show i.toNat=0 by omega,Nat.pow_zero,Nat.mul_one];rw[Int.min_eq_left (by omega),show(i-i).toNat=0 by omega,Nat.pow_zero,Nat.mul_one,show(12-i).toNat=12+(-i).toNat by omega,Nat.pow_add,<-Nat.mul_assoc]at j;exact j
def V3(n r:Int):0<=timesV n r/\timesV n r<18446744073709551616:=by
 unfold timesV;cases Kh .mul (NO n) r.toNat with
 | none=>exact⟨Int.le_refl _,by show(0:Int)<_;decide⟩
 | some x=>
  simp only;cases h2:(Dq x 4895412794951729152==some .gt||Dq x 4895412794951729152==some .eq)with
  | true=>exact⟨(by decide:(0:Int)<=18446744073709551615),(by decide:(18446744073709551615:Int)<18446744073709551616)⟩
  | false=>
   cases h1:(Dq x 4607182418800017408==some .gt||Dq x 4607182418800017408==some .eq)with
   | false=>exact⟨(by decide:(0:Int)<=0),(by decide:(0:Int)<18446744073709551616)⟩
   | true=>
    obtain⟨k,hk,d⟩:=W5 h1 (by rw[h2];decide);simp only[cond_false,cond_true];rw[hk];exact⟨by show(0:Int)<=(k:Int);omega,by show(k:Int)<_;omega⟩
def yG(t:Nat): ∃s f,rd (iH t)= .nan s f:=by
 have h1:t %2<2:=Nat.mod_lt _ (by decide);have h2:(t/2) %(2^52-1)<2^52-1:=Nat.mod_lt _ (by decide);unfold rd iH Format.read;have d:double.signWeight=9223372036854775808:=by decide
 have j:double.binade=4503599627370496:=by decide
 have v:double.infRung=9218868437227405312:=by decide+kernel
 simp only[d,j,v];generalize t %2=a at *
 generalize (t/2) %(2^52-1)=b at *
 rw[if_neg (by omega),if_neg (by omega),if_neg (by omega)];exact⟨_,_,rfl⟩
def S8(t c:Nat):Dq (iH t) c=none:=by
 rw[QS];obtain⟨s,f,h⟩:=yG t;rw[h];cases rd c<;>rfl
end Go.Sh
namespace Go.Sh
open Ieee
def Ru{n r:Int}(h:Kh .mul (NO n) r.toNat=none):timesV n r=0:=by unfold timesV;rw[h]
end Go.Sh
namespace Go.Sh
open Ieee
end Go.Sh
namespace Go.Sh
open Ieee
end Go.Sh

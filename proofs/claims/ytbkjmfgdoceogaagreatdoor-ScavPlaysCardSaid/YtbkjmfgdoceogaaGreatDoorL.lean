/- What the heap's laws share. No further condition. -/
import Derived.Test.YtbkjmfgdoceogaaGreatDoorH
import Derived.Test.YtbkjmfgdoceogaaGreatDoorY
import Derived.Test.YtbkjmfgdoceogaaGreatDoorA
import Derived.Test.YtbkjmfgdoceogaaGreatDoorC
import Derived.Test.YtbkjmfgdoceogaaGreatDoorR
import Derived.Test.YtbkjmfgdoceogaaGreatDoorM
set_option linter.all false
set_option maxRecDepth 8000
set_option maxHeartbeats 2000000
namespace Go.Sh
theorem Found.induct{P:HS->Prop}{S S2:HS}{p n page:Int}(C:P S)(h1: ∀S i q,i<64->P S->P (S.fill i q))(h2: ∀S i k n,P S->P (S.FA i k n))(O: ∀S page n,P S->P (S.DA page n))
  (h4: ∀S V at_ N,P S->P (S.grown V at_ N))(Y: ∀S V,P S->P {S with V:=V})(h:Found S p n page S2):P S2:=by
 have hf: ∀{i S1},i<64->FB S i S1->P S1:=fun{i S1} v h=>by
  rcases h with ⟨_,q,_,rfl⟩|⟨_,rfl⟩
  ·exact h1 _ _ _ v C
  ·exact C
 have K: ∀{S1},Er S p n S1->P S1:=fun{S1} h=>by
  rcases h with ⟨_,rfl⟩|⟨i,v,_,_,h,_⟩
  ·exact C
  ·exact hf v h
 obtain⟨S1,hk,hm⟩:=h;have j:P S1:=by
  rcases hk with (⟨T,i,k,v,_,_,J,_,_,_,_,rfl⟩|⟨T,d,_,rfl⟩)|⟨T,aA,d,_,⟨_,at_,_,rfl⟩,_,rfl⟩
  ·exact h2 _ _ _ _ (hf v J)
  ·exact O _ _ _ (K d)
  ·exact O _ _ _ (h4 _ _ _ _ (K d))
 rcases hm with ⟨_,rfl⟩|⟨_,_,rfl⟩
 ·exact j
 ·exact Y _ _ j
structure lV(S S2:HS):Prop where
 sp:S2.sp=S.sp
 own:S2.own=S.own
 fx:S2.fx=S.fx
 AA:S2.AA=S.AA
theorem Found.same{S S2:HS}{p n page:Int}(h:Found S p n page S2):lV S S2:=
 h.induct (P:=lV S) ⟨rfl,rfl,rfl,rfl⟩ (fun _ _ _ _ h=>⟨h.sp,h.own,h.fx,h.AA⟩) (fun _ _ _ _ h=>⟨h.sp,h.own,h.fx,h.AA⟩) (fun _ _ _ h=>⟨h.sp,h.own,h.fx,h.AA⟩) (fun _ _ _ _ h=>⟨h.sp,h.own,h.fx,h.AA⟩) fun _ _ h=>⟨h.sp,h.own,h.fx,h.AA⟩
structure Gn(S:HS):Prop where
 rl: ∀p,S.T.rl p=S.T.fr p
 re: ∀i k,(S.ca i).rel k=(S.ca i).has k
theorem Gn.fill{S:HS}(h:Gn S)(i:Nat)(q:Int):Gn (S.fill i q):=by
 refine⟨fun p=> ?_,fun j k=> ?_⟩
 ·show(S.T.rl p&&_)=(S.T.fr p&&_);rw[h.rl]
 ·show(if j=i then filled S.T q else S.ca j).rel k=(if j=i then filled S.T q else S.ca j).has k;by_cases e:j=i
  ·rw[if_pos e];show(decide _&&S.T.rl _)=(decide _&&S.T.fr _);rw[h.rl]
  ·rw[if_neg e];exact h.re j k
theorem Gn.FA{S:HS}(h:Gn S)(i k n:Nat):Gn (S.FA i k n):=by
 refine⟨h.rl,fun j m=> ?_⟩;show(if j=i then(S.ca i).alloc k n else S.ca j).rel m=(if j=i then(S.ca i).alloc k n else S.ca j).has m;by_cases e:j=i
 ·rw[if_pos e];show((S.ca i).rel m&&_)=((S.ca i).has m&&_);rw[h.re]
 ·rw[if_neg e];exact h.re j m
theorem Gn.DA{S:HS}(h:Gn S)(page n:Int):Gn (S.DA page n):=⟨fun p=>by show(S.T.rl p&&_)=(S.T.fr p&&_);rw[h.rl],h.re⟩
theorem Gn.grown{S:HS}(h:Gn S)(V:VS)(at_ N:Int):Gn (S.grown V at_ N):=⟨fun p=>by show(S.T.rl p||_)=(S.T.fr p||_);rw[h.rl],h.re⟩
theorem Found.gn{S S2:HS}{p n page:Int}(h:Found S p n page S2)(d:Gn S):Gn S2:=
 h.induct (P:=Gn) d (fun _ i q _ h=>h.fill i q) (fun _ i k n h=>h.FA i k n) (fun _ p n h=>h.DA p n) (fun _ V a N h=>h.grown V a N) fun _ _ h=>⟨h.rl,h.re⟩
theorem Gn.Dd{S:HS}(h:Gn S)(id:Int)(x:Nat×SI)(page n:Int)(X:FX):Gn (S.Dd id x page n X):=⟨h.rl,h.re⟩
theorem Gn.new(V:VS):Gn (HS.new V):=⟨fun _=>rfl,fun _ _=>rfl⟩
structure Dw(S:HS)(b:Int):Prop where
 la: ∀p,mem S.V.laid p↔512<=p/\p<b
 b0:512<=b
 b1:b %512=0
 h0:0<=S.hint
 h1:S.hint<=b
 pl:S.V.pl=[]
 rf:S.V.rf=[]
theorem Dw.new(fl:List Int):Dw (HS.new (JJ [] [] fl)) 512:=⟨fun p=>⟨fun h=>absurd h (Ar p),fun h=>by omega⟩,Int.le_refl _,rfl,Int.le_refl _,by show(0:Int)<=512;decide,rfl,rfl⟩
section
variable{S S2:HS}{b p n page:Int}
theorem Oh(n:Int):n<=Ek n/\Ek n<n+512/\Ek n %512=0:=by unfold Ek;omega
theorem Dw.UJ(h:Dw S b){hint N at_:Int}(J:0<N)(j:hint<=b)(hp:IS S.V.laid hint N at_):at_=b:=by
 have h1:=hp.low;have v:=hp.mul;have b0:=h.b0;have b1:=h.b1;by_cases g:b<at_
 ·obtain⟨m,m1,C,d⟩:=hp.first b b1 b0 j g;have:=(h.la m).1 d;omega
 ·by_cases g2:at_<b
  ·exact absurd ((h.la at_).2 ⟨h1,g2⟩) (hp.free at_ (Int.le_refl _) (by omega))
  ·omega
theorem Dw.gZ(h:Dw S b){N at_:Int}(d:0<N)(j:FL S.V S.hint N at_):at_=b:=by
 have:=h.h0;have:=h.h1;rcases j with ⟨p,r,e,_⟩|⟨_,⟨_,h1,_⟩|⟨_,_,h1,_⟩⟩
 ·rw[h.pl]at e;cases e
 ·exact h.UJ d (by omega) h1
 ·exact h.UJ d (by have:=h.b0;omega) h1
theorem Dw.YF(h:Dw S b){N:Int}(j:0<N)(C:b+N<=34359738368)(hu:Ij S.V S.hint N):False:=by
 have:=h.h1;obtain⟨_,g|⟨a,d,v⟩,_⟩:=hu
 ·omega
 ·have:=h.UJ j h.h1 d;omega
theorem Dw.Sa(h:Dw S b)(d:S2.V=S.V)(j:S2.hint=S.hint):Dw S2 b:=⟨by rw[d];exact h.la,h.b0,h.b1,by rw[j];exact h.h0,by rw[j];exact h.h1,by rw[d];exact h.pl,by rw[d];exact h.rf⟩
theorem FB.V{i:Nat}(h:FB S i S2):S2.V=S.V/\S2.hint=S.hint:=by
 rcases h with ⟨_,q,_,rfl⟩|⟨_,rfl⟩<;>exact⟨rfl,rfl⟩
theorem Er.V(h:Er S p n S2):S2.V=S.V/\S2.hint=S.hint:=by
 rcases h with ⟨_,rfl⟩|⟨i,_,_,_,h,_⟩
 ·exact⟨rfl,rfl⟩
 ·exact h.V
theorem Dw.made(h:Dw S b)(hm:Made S page n S2):Dw S2 b:=by
 rcases hm with ⟨_,rfl⟩|⟨_,_,rfl⟩
 ·exact h
 ·exact⟨h.la,h.b0,h.b1,h.h0,h.h1,h.pl,by show S.V.rf.tail=[];rw[h.rf];rfl⟩
theorem Dw.lW(h:Dw S b)(v:Ok S.V.laid)(C:1<=n)(j:PF S n S2)(J:b+Ek n<=34359738368):Dw S2 (b+Ek n)/\S2=S.grown {S.V with rf:=S.V.rf.tail,pl:=S.V.pl.tail,laid:=Bk S.V.laid b (b+Ek n)} b (Ek n):=by
 obtain⟨_,at_,d,rfl⟩:=j;have hu:=Oh n;have b0:=h.b0;have b1:=h.b1;have:=h.gZ (by omega) d;subst this;refine⟨⟨fun q=> ?_,by omega,by omega,by show 0<=at_+Ek n;omega,Int.le_refl _,by show S.V.pl.tail=[];rw[h.pl];rfl,by show S.V.rf.tail=[];rw[h.rf];rfl⟩,rfl⟩;refine(Bo v (by omega) (by omega) (by omega) q).trans ?_;rw[h.la];omega
theorem Dw.lost(v:Dw S b)(Y:1<=n)(N:b+Ek n<=34359738368)(h:Ma S p n S2):False:=by
 have hu:=Oh n;rcases h with ⟨j,d,_,⟨r,C,_⟩|⟨_,K,_⟩⟩|⟨S1,page,r,T,_,C,_⟩
 ·rw[(v.Sa d.V.1 d.V.2).rf]at C;cases C
 ·exact(v.Sa d.V.1 d.V.2).YF (by omega) N K
 ·have e:S1.V.rf=[]:=by
   rcases T with (⟨j,i,k,hi,_,_,J,_,_,_,_,rfl⟩|⟨j,d,_,rfl⟩)|⟨j,O,d,_,⟨_,at_,hc,rfl⟩,_,rfl⟩
   ·show j.V.rf=[];rw[J.V.1];exact v.rf
   ·show j.V.rf=[];rw[d.V.1];exact v.rf
   ·show j.V.rf.tail=[];rw[d.V.1,v.rf];rfl
  rw[e]at C;cases C
def RJ(S:HS)(a b:Int):Prop:= ∀p,S.T.fr p=true↔a<=p/\p<b
theorem RJ.first{a:Int}(h:RJ S a b)(v:1<=n)(hf:Eh S.T n page):page=a/\a+n<=b:=by
 obtain⟨_,_,h1,d⟩:=hf;have C:=(h page).1 (h1 page (Int.le_refl _) (by omega));have j:=(h (page+n-1)).1 (h1 (page+n-1) (by omega) (by omega));have:=d a fun m m1 J=>(h m).2 (by omega);omega
theorem RJ.none{a:Int}(h:RJ S a b)(d: ∀q,¬Gb S.T.fr q n):b<a+n:=by
 refine Classical.byContradiction fun g=>d a fun m m1 j=>(h m).2 (by omega)
theorem RJ.taken{a:Int}(h:RJ S a b)(d:0<=n):RJ (S.DA a n) (a+n) b:=fun p=>by
 refine KR.trans ?_;rw[h p];omega
theorem RJ.grown{a:Int}(h:RJ S a b){V:VS}{N:Int}(h1:b %512=0)(v:N %512=0)(j:0<=N)(d:a<=b):RJ (S.grown V b N) a (b+N):=fun p=>by
 show(S.T.fr p||inr (b/512*512) (N/512*512) p)=true↔_;rw[Bool.or_eq_true,h p,AU];omega
theorem RJ.new(V:VS):RJ (HS.new V) 512 512:=fun p=>⟨fun h=>(by cases h),fun h=>by omega⟩
theorem Found.row(h:Found S p n page S2){a:Int}(hL:Dw S b)(hk:E9 S)(J:RJ S a b)(aC:a<=b)(N:1<=n)(hb:b+Ek n<=34359738368)(hT: ∀d,Er S p n d->d=S)(Y: ∀d page,SY S p n page d->d=S.DA page n/\Eh S.T n page):
  ∃j,(j=b∨j=b+Ek n)/\page=a/\a+n<=j/\Dw S2 j/\RJ S2 (a+n) j/\S2.ca=S.ca/\(j=b-> ∀V,{S2 with V:=V}={S.DA a n with V:=V})/\(a+n<=b->j=b):=by
 obtain⟨S1,h,hm⟩:=h;have hu:=Oh n;have hs: ∀{S1 S2:HS},Made S1 page n S2->S2.ca=S1.ca/\S2.T=S1.T/\ ∀V,{S2 with V:=V}={S1 with V:=V}:=fun h=>by
  rcases h with ⟨_,rfl⟩|⟨_,_,rfl⟩<;>exact⟨rfl,rfl,fun _=>rfl⟩
 obtain⟨s1,s2,s3⟩:=hs hm;rcases h with h|⟨d,O,K,v,hg,hf,rfl⟩
 ·obtain⟨rfl,hf⟩:=Y _ _ h;obtain⟨rfl,h1⟩:=J.first N hf;refine⟨b,.inl rfl,rfl,h1,(hL.Sa rfl rfl:Dw (S.DA page n) b).made hm,fun q=> ?_,s1,fun _=>s3,fun _=>rfl⟩;rw[s2];exact J.taken (by omega) q
 ·obtain rfl:=hT _ K;obtain⟨h1,e0⟩:=hL.lW hk.vv.Gz N hg hb;have aB:Dw S2 (b+Ek n):=(h1.Sa rfl rfl:Dw (O.DA page n) (b+Ek n)).made hm;subst e0;have C:RJ (d.grown {d.V with rf:=d.V.rf.tail,pl:=d.V.pl.tail,laid:=Bk d.V.laid b (b+Ek n)} b (Ek n)) a (b+Ek n):=J.grown hL.b1 hu.2.2 (by omega) aC;obtain⟨rfl,h2⟩:=C.first N hf;have hl:=J.none v;refine⟨b+Ek n,.inr rfl,rfl,h2,aB,fun q=> ?_,s1,fun e=>by omega,fun e=>by omega⟩;rw[s2];exact C.taken (by omega) q
theorem L2(h: ¬(0<=p/\p<64/\n<16)){d:HS}(j:Er S p n d):d=S:=by
 rcases j with ⟨_,rfl⟩|⟨i,C,rfl,v,_⟩
 ·rfl
 ·omega
theorem UK(h: ¬(0<=p/\p<64/\n<16)){d:HS}{page:Int}(j:SY S p n page d):d=S.DA page n/\Eh S.T n page:=by
 rcases j with ⟨d,i,k,C,rfl,v,_⟩|⟨d,j,hf,rfl⟩
 ·omega
 ·rw[L2 h j]at hf⊢;exact⟨rfl,hf⟩
end
end Go.Sh
set_option linter.all false
set_option maxRecDepth 4000
set_option maxHeartbeats 4000000
namespace Go.Sh
theorem Oi(i:Nat){t:Nat}{Ps:List Pr}{w:World}{K:Nat->World->Prop}(H:Sat Ps w)(d:Ps[i]? =some Uo)(j: ∀b w',Sat (Ps.set i (Row t 1 ⟨some ⟨b,0,none⟩,0,0⟩ [])) w'->K b w'):AL (.cells ⟨[]⟩ t) w K:=
 GB (n:=0) (z:=1) (H.front i d).tail rfl (by decide) fun b w' v=>j b w' (Sat.back i v (List.getElem?_eq_some_iff.1 d).1)
theorem Il(i:Nat){t bytes b:Nat}{zs:Array Value}{a:AZ}{vs:List Value}{Ps:List Pr}{w:World}{K:AZ->World->Prop}(H:Sat Ps w)(j:Ps[i]? =some (Row t 1 ⟨some ⟨b,0,none⟩,0,0⟩ []))(hz:zs.size=1)
  (d: ∀w',Sat (Ps.eraseIdx i) w'->rowAt w' a.base a.len vs)(J:vs.length=a.len)(hlen:a.len<=1099511627776)(C:bytes<=8)(N: ∀v∈vs,v.oneCell'=true)(O: ∀s' w',Sat (Ps.set i (Row t 1 s' vs)) w'->K s' w'):
  APP t 1 bytes zs ⟨some ⟨b,0,none⟩,0,0⟩ a w K:=by
 have hm:(0+a.len)*bytes<=1099511627776*8:=Nat.mul_le_mul (by omega) C;exact FD (H.front i j) hz (by simpa using d w (H.front i j).tail) (by simpa using J) N (by simp only;omega) (by simp only;omega) fun s' w' T _=>O s' w' (Sat.back i T (List.getElem?_eq_some_iff.1 j).1)
theorem L3(k:IntKind)(l:List Int): ∀v∈ints k l,v.oneCell'=true:=by intro v d;simp[ints]at d;obtain⟨x,_,rfl⟩:=d;rfl
theorem WW(l:List Bool): ∀v∈BS l,v.oneCell'=true:=by intro v d;simp[BS]at d;rcases d with ⟨_,rfl⟩|⟨_,rfl⟩<;>rfl
section
variable{E:Env}{b c:Nat}{V:VS}{Z Rs:List Pr}{w:World}
end
end Go.Sh
set_option linter.all false
set_option maxRecDepth 8000
set_option maxHeartbeats 4000000
namespace Go.Sh
section
variable{E:Env}{w:World}{Rs Z:List Pr}
theorem Ag.JJ(pl:List Int)(rf:List Bool)(fl:List Int):Ag (HS.new (Go.Sh.JJ pl rf fl)) no:=Ag.new rfl rfl
variable(hE:K7 E)
include hE
theorem WX{h:Nat}{S:HS}(hT: ∀w',Sat Z w'->GC E.AQ w')(H:Sat (Au E h S::Z) w)(hI:Ag S no){p n c b:Int}{J:Bool}(hL:Dw S b)(T: ¬D5 0 n c)(n0:0<=n)(hb:b+Ek n<=34359738368){K:Int->Int->World->Prop}
  (hK:1<=n-> ∀page S2 d id X,Found S p n page S2->E9 S->Ag S2 (inr page n)->0<=page->page+n<=34359738368->Next S2 id X->Ag (S2.Dd id (d,K8 page n c J) page n X) no-> ∀w',Sat (Au E h (S2.Dd id (d,K8 page n c J) page n X)::Z) w'->K id 0 w'):
  F.Bp E (some ⟨h,0,none⟩) p n c J K w:=by
 have BH:=H.BH;have v:=T;unfold D5 at v;have O:1<=n/\n<=134217728:=by
  by_cases e:c=0
  ·omega
  ·have aB:=I4 (c:=c) (by omega) (by omega);omega
 exact M3 hE hT H hI n0 (by omega) (fun C=>absurd C T) (fun _ S2 Y=>(hL.lost O.1 hb Y).elim) fun _ page S2 d id X hf j q0 q1 hX N w' H'=>hK O.1 page S2 d id X hf BH j q0 q1 hX N w' H'
end
section
variable{S S2:HS}{i k:Nat}{page:Int}
theorem Dw.Dd{b:Int}(h:Dw S b)(id:Int)(x:Nat×SI)(pg n:Int)(X:FX):Dw (S.Dd id x pg n X) b:=⟨h.la,h.b0,h.b1,h.h0,h.h1,h.pl,h.rf⟩
theorem Next.top{id:Int}{X:FX}(h:Next S id X){n:Nat}(e:S.fx=⟨n,[]⟩):id=(n:Int)+1/\X=⟨n+1,[]⟩:=by
 rcases h with ⟨_,j,d⟩|⟨a,r,h1,_⟩
 ·rw[e]at j d;exact⟨j,d⟩
 ·rw[e]at h1;cases h1
end
end Go.Sh
set_option linter.all false
set_option maxRecDepth 8000
set_option maxHeartbeats 4000000
namespace Go.Sh
theorem lX{n:Int}(h:1<=n)(d:n<=134217728): ¬D5 0 n 0:=by unfold D5;omega
section
variable{E:Env}{w:World}{Rs Z:List Pr}(hE:K7 E)
include hE
end
end Go.Sh
set_option linter.all false
set_option maxRecDepth 8000
set_option maxHeartbeats 4000000
namespace Go.Sh
def HS.PG(S:HS):HS:={S with V:={S.V with rf:=[]}}
section
variable{S S2:HS}{n page:Int}
theorem Oj{d:HS}(h:Er S (-1) n d):d=S:=L2 (by omega) h
theorem UL{d:HS}(h:SY S (-1) n page d):d=S.DA page n/\Eh S.T n page:=UK (by omega) h
theorem Px:Er S.PG (-1) n S.PG:=.inl ⟨by omega,rfl⟩
theorem Found.PG(h:Found S (-1) n page S2):Found S.PG (-1) n page S2.PG:=by
 obtain⟨S1,h,hm⟩:=h;have v:Made S1.PG page n S2.PG:=by
  rcases hm with ⟨h1,rfl⟩|⟨h1,_,rfl⟩
  ·exact .inl ⟨h1,rfl⟩
  ·exact .inr ⟨h1,(fun r (e:([]:List Bool)=true::r)=>nomatch e),rfl⟩
 refine⟨S1.PG,?_,v⟩;rcases h with h|⟨C,J,j,d,⟨_,at_,K,rfl⟩,hf,rfl⟩
 ·obtain⟨rfl,hf⟩:=UL h;exact .inl (.inr ⟨S.PG,Px,hf,rfl⟩)
 ·obtain rfl:=Oj j;exact .inr ⟨C.PG,_,Px,d,⟨(fun r (e:([]:List Bool)=true::r)=>nomatch e),at_,K,rfl⟩,hf,rfl⟩
def asks(next b n:Int):Nat:=if next+n<=b then 1 else 2
def L4(next b n:Int):Int:=if next+n<=b then b else b+Ek n
structure Mb(S:HS)(i:Nat)(next b:Int)(rf:List Bool):Prop where
 inv:Ag S no
 la:Dw S.PG b
 rf:S.V.rf=rf
 fr:RJ S next b
 lo:512<=next
 le:next<=b
 gn:Gn S
 pg:S.AA=next-512
 rel:S.V.rel=[]
 ow: ∀p,512<=p->p<next->0<S.own p
 fx:S.fx=⟨i,[]⟩
theorem Mb.new(rf:List Bool):Mb (HS.new (JJ [] rf [])) 0 512 512 rf:=⟨Ag.JJ [] rf [],Dw.new [],rfl,RJ.new _,Int.le_refl _,Int.le_refl _,Gn.new _,rfl,rfl,fun p h1 d=>by omega,rfl⟩
variable{i:Nat}{next b:Int}{rf:List Bool}
theorem Mb.laid(h:Mb S i next b []):Dw S b:=⟨h.la.la,h.la.b0,h.la.b1,h.la.h0,h.la.h1,h.la.pl,h.rf⟩
theorem Mb.notReady(h:Mb S i next b rf)(N:E9 S){q:Int}(d:next<=q): ¬mem S.V.ready q:=fun C=>by
 obtain⟨K,v⟩:=(h.inv.rd q rfl).1 C;have j:=(h.la.la q).1 ((h.inv.la q).2 K);have J:=(h.fr q).2 ⟨d,j.2⟩;refine CJ v (DX.2 (.inl ?_));rw[h.gn.rl];exact J
theorem g7(h:JG S (-1) n page S2):S2.V.wd=S.V.wd/\S2.V.fl=S.V.fl/\S2.V.ready=S.V.ready/\S2.V.rel=S.V.rel:=by
 rcases h with h|⟨v,j,d,_,⟨_,at_,_,rfl⟩,_,rfl⟩
 ·obtain⟨rfl,_⟩:=UL h;exact⟨rfl,rfl,rfl,rfl⟩
 ·obtain rfl:=Oj d;exact⟨rfl,rfl,rfl,rfl⟩
theorem Mb.found(h:Mb S i next b rf)(hk:E9 S)(Y:E9 S.PG)(hn:1<=n)(hb:b+Ek n<=34359738368)(hf:Found S (-1) n page S2):
  page=next/\Dw S2.PG (L4 next b n)/\RJ S2 (next+n) (L4 next b n)/\next+n<=L4 next b n/\S2.V.wd=S.V.wd/\S2.V.rel=[]/\S2.V.rf=rf.drop (asks next b n)/\(∀r,rf≠true::r)/\(asks next b n=2-> ∀r,rf.tail≠true::r):=by
 have hu:=Oh n;obtain⟨b',k1,k2,k3,k4,k5,_,_,k8⟩:=hf.PG.row (a:=next) h.la Y h.fr h.le hn hb (fun v C=>L2 (by omega) C) fun v pg C=>UK (by omega) C;subst k2;have aB:b'=L4 page b n:=by
  unfold L4;by_cases g:page+n<=b
  ·rw[if_pos g];exact k8 g
  ·rw[if_neg g];omega
 subst aB;refine⟨rfl,k4,k5,k3,?_⟩;obtain⟨S1,C,hm⟩:=hf;obtain⟨e1,e2,e3,e4⟩:=g7 C;have O: ¬Fm S1 page n:=fun hr=>h.notReady hk (Int.le_refl page) (by rw[<-e3];exact hr page (Int.le_refl _) (by omega));rcases hm with ⟨h1,_⟩|⟨_,d,rfl⟩
 ·exact absurd h1 O
 refine⟨funext fun q=>funext fun j=> ?_,?_,?_⟩
 ·show(if page<=q/\q<page+n/\Ik S1.V.rel q=true then Ei S1.V page q else S1.V.wd q j)=_;rw[e4,h.rel,if_neg (fun h=>by cases h.2.2),e1]
 ·show B6 S1.V.rel page (page+n)=[];rw[e4,h.rel];rfl
 show S1.V.rf.tail=_/\_;rcases C with C|⟨v,aI,N,T,⟨J,at_,hc,rfl⟩,K,rfl⟩
 ·obtain⟨rfl,K⟩:=UL C;obtain⟨_,hle⟩:=h.fr.first hn K;have ea:asks page b n=1:=if_pos hle;rw[ea];have d: ∀r,S.V.rf≠true::r:=d;have et:(S.DA page n).V.rf=rf:=h.rf;rw[et];rw[h.rf]at d;exact⟨by simp,d,fun e=>by cases e⟩
 ·obtain rfl:=Oj N;have aQ:=h.fr.none T;have ea:asks page b n=2:=if_neg (by omega);rw[ea];have d: ∀r,v.V.rf.tail≠true::r:=d;have et:((v.grown {v.V with rf:=v.V.rf.tail,pl:=v.V.pl.tail,laid:=Bk v.V.laid at_ (at_+Ek n)} at_ (Ek n)).DA page n).V.rf=rf.tail:=by
   show v.V.rf.tail=_;rw[h.rf]
  rw[et];rw[h.rf]at d J;refine⟨?_,J,fun _=>d⟩;cases rf with
  | nil=>rfl
  | cons x r=>cases r<;>rfl
theorem Mb.Dd(h:Mb S i next b rf)(hk:E9 S)(d:E9 S.PG)(T:1<=n)(J:b+Ek n<=34359738368)(hf:Found S (-1) n page S2){id:Int}{X:FX}(K:Next S2 id X){x:Nat×SI}(O:Ag (S2.Dd id x page n X) no):
  page=next/\id=(i:Int)+1/\X=⟨i+1,[]⟩/\(S2.Dd id x page n X).V.wd=S.V.wd/\Mb (S2.Dd id x page n X) (i+1) (next+n) (L4 next b n) (rf.drop (asks next b n))/\(∀r,rf≠true::r):=by
 obtain⟨rfl,N,Y,k3,j,v,k6,k7,_⟩:=h.found hk d T J hf;have es:=hf.same;obtain⟨rfl,rfl⟩:=K.top (n:=i) (by rw[es.fx];exact h.fx);have C:=h.lo;refine⟨rfl,rfl,rfl,j,⟨O,N.Dd _ _ _ _ _,k6,Y,by omega,k3,(hf.gn h.gn).Dd _ _ _ _ _,?_,v,fun p h1 h2=> ?_,rfl⟩,k7⟩
 ·show S2.AA+n=_;rw[es.AA,h.pg];omega
 ·show 0<(if page<=p/\p<page+n then((i:Int)+1)else S2.own p);split
  ·omega
  ·rw[es.own];exact h.ow p h1 (by omega)
theorem E9.PG(d:E9 S):E9 S.PG:=⟨d.tv,⟨d.vv.Gz,d.vv.IT,d.vv.JM,d.vv.rl,d.vv.el,d.vv.re,d.vv.Gc,d.vv.clean,d.vv.Xz⟩,d.ci,d.ok,d.fx⟩
end
theorem Qn: ∀(N:Nat) (l:List Int),l.Nodup->(∀n∈l,0<n/\n<=N)->l.length<=N
 | 0,[],_,_=>Nat.le_refl _
 | 0,n::_,_,h=>by have:=h n List.mem_cons_self;omega
 | N+1,l,hn,h=>by
  by_cases hm:((N+1:Nat):Int)∈l
  ·have j:=Qn N (l.erase ((N+1:Nat):Int)) (hn.erase _) fun n d=>by
    have h1:=(hn.mem_erase_iff).1 d;have C:=h n h1.2;have v:=h1.1;omega
   rw[List.length_erase_of_mem hm]at j;omega
  ·have j:=Qn N l hn fun n d=>by
    have C:=h n d;have v:n≠((N+1:Nat):Int):=fun e=>hm (e▸d);omega
   omega
end Go.Sh
set_option linter.all false
set_option maxRecDepth 4000
set_option maxHeartbeats 2000000
namespace Go.Sh
section
variable{E:Env}{w:World}{Z:List Pr}{s:AZ}{uw:List Int}{U:Nat->Bool}
def SI.set(S:SI)(U:Nat->Bool)(n:Nat):SI:={S with uw:=[W fun i=>U i||i==n],used:=S.used+1,look:=(n:Int)+1}
def SI.PG(S:SI)(U:Nat->Bool)(n:Nat):SI:={S with uw:=[W fun i=>U i&& !(i==n)],used:=S.used-1,look:=KX S.look n}
section
variable{b:Nat}{S:SI}
def YG(AA elem:Int):Prop:=AA=0∨134217728<AA∨elem<8∨AA*8192<elem
end
end
end Go.Sh
set_option linter.all false
set_option maxRecDepth 8000
set_option maxHeartbeats 2000000
namespace Go.Sh
def HS.put(S:HS)(id:Int)(x:Nat×SI):HS:={S with sp:=fun i=>if i=id then some x else S.sp i}
section
variable{S:HS}{fl:Int->Bool}{id:Int}{x:Nat×SI}{I:SI}
end
section
variable{E:Env}{h:Nat}{S:HS}{Z:List Pr}{w:World}
variable(hE:K7 E)
include hE
end
end Go.Sh
set_option linter.all false
set_option maxRecDepth 8000
set_option maxHeartbeats 2000000
namespace Go.Sh
inductive FO:HS->Int->HS->Int->Prop
 | stop {S:HS} {n:Int} (h:n=0∨ ∀p,S.T.idle p=false):FO S n S 0
 | step {S S':HS} {n p k m:Int} (h:MW S.T n p k) (r:FO (S.F5 p k) (n-k) S' m):FO S n S' (k+m)
section
variable{E:Env}{h:Nat}{S:HS}{Z:List Pr}{w:World}{g:HG}
variable(hE:K7 E)
include hE
theorem I6(H:Sat (Au E h S::Z) w)(hI:Ag S no){n:Int}(n0:0<=n)(n1:n<18446744073709551616){K:Int->World->Prop}
  (hK: ∀S' m,FO S n S' m->0<=m->m<=n->Ag S' no-> ∀w',Sat (Au E h S'::Z) w'->K m w'):F.Bm E (some ⟨h,0,none⟩) n K w:=by
 unfold F.Bm T0.Bm;refine AM (fun st w'=> ∃S1,0<=st.1/\st.1<=n/\Ag S1 no/\(∀S' m,FO S1 st.1 S' m->FO S n S' (n-st.1+m))/\Sat (Au E h S1::Z) w') (fun st _=>st.1.toNat) ⟨S,n0,Int.le_refl _,hI,fun S' m hs=>by show FO S n S' (n-n+m);rw[show n-n+m=m by omega];exact hs,H⟩ ?_;rintro⟨left,v⟩ _ w2 ⟨S1,l0,l1,j,N,O⟩;dsimp only at l0 l1 N⊢;have C:(left=0∨ ∀p,S1.T.idle p=false)-> ∀w',Sat (Au E h S1::Z) w'->K (u64 (n-left)) w':=fun hz w' H'=>by
  rw[AG (n:=n-left)];have:=N S1 0 (.stop hz);rw[Int.add_zero]at this;exact hK S1 _ this (by omega) (by omega) j w' H'
 refine AE (fun aC=> ?_) fun hz=>C (.inl (by omega)) w2 O;have d:=O.BH;simp only[AI];obtain⟨t,R,c1,ht,hb⟩:=O.SZ;refine⟨_,c1,V6 hE.toEnvS ht (by omega) (by omega) (fun hz=>Ao rfl (C hz w2 O)) fun p k hs w8 H8=>Ab (by have:=hs.k0;simpa using(by omega: ¬k=0)) ?_⟩;have k0:=hs.k0;have kn:=hs.kn;have H9:=hb H8;obtain⟨m,R2,c0,hm,Y⟩:=H9.YE;have J: ∀q,p<=q->q<p+k->0<=q/\q<34359738368:=fun q a b=>d.tv.Gc q (d.tv.fi q (j.idle d (hs.row q a b)).1);have b0:=J p (Int.le_refl _) (by omega);have b1:=J (p+k-1) (by omega) (by omega);refine⟨_,c0,Tu hE.toEnvS hm b0.1 k0 (by omega) (fun q a b=>(j.idle d (hs.row q a b)).2.2.1) fun aK aA=> ?_⟩;rw[AG (n:=left-k)];refine⟨⟨S1.F5 p k,by show 0<=left-k;omega,by show left-k<=n;omega,j.F5 d k0 hs.row,fun S' m' aB=> ?_,Y aA⟩,by show(left-k).toNat<left.toNat;omega⟩;have:=N S' (k+m') (.step hs aB);rw[show n-(left-k)+m'=n-left+(k+m') by omega];exact this
end
structure VP(S S':HS)(x y:Int):Prop where
 Fb:S'.T.Fb=S.T.Fb
 fr:S'.T.fr=S.T.fr
 rl: ∀q,S'.T.rl q=true↔S.T.rl q=true∨(x<=q/\q<y)
 ca:S'.ca=S.ca
 ks:S'.ks=S.ks
 own:S'.own=S.own
 fx:S'.fx=S.fx
 sp:S'.sp=S.sp
 hint:S'.hint=S.hint
 AA:S'.AA=S.AA
 laid:S'.V.laid=S.V.laid
 pl:S'.V.pl=S.V.pl
 rf:S'.V.rf=S.V.rf
 fl:S'.V.fl=S.V.fl
 ready: ∀q,mem S'.V.ready q↔mem S.V.ready q/\ ¬(x<=q/\q<y)
 rel: ∀q,mem S'.V.rel q↔mem S.V.rel q∨(x<=q/\q<y)
 wd: ∀q i,S'.V.wd q i=if x<=q/\q<y then 0 else S.V.wd q i
theorem FO.row{S S':HS}{n m:Int}(h:FO S n S' m): ∀{a b:Int},(∀q,S.T.idle q=true↔a<=q/\q<b)->a<=b->0<=a->b<=34359738368->0<=n->Ok S.V.rel->m=min n (b-a)/\VP S S' (b-m) b:=by
 induction h with
 | @stop S n hz=>
  intro a b v Y _ _ hn _;have hm:(0:Int)=min n (b-a):=by
   rcases hz with e|e
   ·omega
   ·by_cases g:a<b
    ·have:=(v a).2 ⟨Int.le_refl _,g⟩;rw[e]at this;cases this
    ·omega
  have j: ∀q,¬(b-0<=q/\q<b):=fun q=>by omega
  exact⟨hm,⟨rfl,rfl,fun q=>⟨.inl,fun h=>h.elim (fun h=>h) fun h=>absurd h (j q)⟩,rfl,rfl,rfl,rfl,rfl,rfl,rfl,rfl,rfl,rfl,rfl,fun q=>⟨fun h=>⟨h,j q⟩,fun h=>h.1⟩,fun q=>⟨.inl,fun h=>h.elim (fun h=>h) fun h=>absurd h (j q)⟩,fun q i=>by rw[if_neg (j q)]⟩⟩
 | @step S S' n p k m hs r ih=>
  intro a b v Y ha hb hn BH;have k0:=hs.k0;have kn:=hs.kn;have K:=(v p).1 (hs.row p (Int.le_refl _) (by omega));have e2:=(v (p+k-1)).1 (hs.row (p+k-1) (by omega) (by omega));have e3:=hs.last (b-1) ((v (b-1)).2 ⟨by omega,by omega⟩);have e4:p+k=b:=by omega
  have aD:=hs.row;have C: ∀q,(S.F5 p k).T.rl q=true↔S.T.rl q=true∨(p<=q/\q<p+k):=fun q=>by
   show(S.T.rl q||inr p k q)=true↔_;rw[Bool.or_eq_true,AU]
  have N: ∀q,(S.F5 p k).T.idle q=true↔a<=q/\q<p:=fun q=>by
   have h0:=v q;have h1:S.T.idle q=true↔S.T.fr q=true/\ ¬S.T.rl q=true:=by
    unfold TV.idle;cases S.T.fr q<;>cases S.T.rl q<;>simp
   have h2:(S.F5 p k).T.idle q=true↔S.T.fr q=true/\ ¬(S.F5 p k).T.rl q=true:=by
    unfold TV.idle;show(S.T.fr q&& !(S.F5 p k).T.rl q)=true↔_;cases S.T.fr q<;>cases (S.F5 p k).T.rl q<;>simp
   rw[h2,C];constructor
   ·rintro⟨O,q2⟩;have:=h0.1 (h1.2 ⟨O,fun h=>q2 (.inl h)⟩);have: ¬(p<=q/\q<p+k):=fun h=>q2 (.inr h);omega
   ·intro O;have:=h1.1 (h0.2 ⟨O.1,by omega⟩);exact⟨this.1,fun h=>h.elim this.2 fun h=>by omega⟩
  have hm:=Bo BH (a:=p) (b:=p+k) (by omega) (by omega) (by omega);have J:Ok (Bk S.V.rel p (p+k)):=(CQ BH (by omega) (by omega) (by omega)).1;obtain⟨g1,d⟩:=ih N K.1 ha (by omega) (by omega) J;have aE:0<=m/\m<=p-a:=by omega
  refine⟨by omega,⟨d.Fb,d.fr,fun q=> ?_,d.ca,d.ks,d.own,d.fx,d.sp,d.hint,d.AA,d.laid,d.pl,d.rf,d.fl,fun q=> ?_,fun q=> ?_,fun q i=> ?_⟩⟩
  ·rw[d.rl,C];constructor
   ·rintro((h|h)|h)
    ·exact .inl h
    ·exact .inr (by omega)
    ·exact .inr (by omega)
   ·rintro(h|h)
    ·exact .inl (.inl h)
    ·by_cases e:q<p
     ·exact .inr ⟨by omega,e⟩
     ·exact .inl (.inr (by omega))
  ·rw[d.ready];have:mem (S.F5 p k).V.ready q↔mem S.V.ready q/\ ¬(p<=q/\q<p+k):=B7 (by omega);rw[this];constructor
   ·rintro⟨⟨h1,h2⟩,h3⟩;exact⟨h1,by omega⟩
   ·rintro⟨h1,h2⟩;exact⟨⟨h1,by omega⟩,by omega⟩
  ·rw[d.rel];have:mem (S.F5 p k).V.rel q↔mem S.V.rel q∨(p<=q/\q<p+k):=hm q;rw[this];constructor
   ·rintro((h|h)|h)
    ·exact .inl h
    ·exact .inr (by omega)
    ·exact .inr (by omega)
   ·rintro(h|h)
    ·exact .inl (.inl h)
    ·by_cases e:q<p
     ·exact .inr ⟨by omega,e⟩
     ·exact .inl (.inr (by omega))
  ·rw[d.wd];show(if p-m<=q/\q<p then 0 else if p<=q/\q<p+k then 0 else S.V.wd q i)=_;by_cases K:p-m<=q/\q<p
   ·rw[if_pos K,if_pos (by omega)]
   ·rw[if_neg K];by_cases e2:p<=q/\q<p+k
    ·rw[if_pos e2,if_pos (by omega)]
    ·rw[if_neg e2,if_neg (by omega)]
end Go.Sh
set_option linter.all false
set_option maxRecDepth 8000
set_option maxHeartbeats 1000000
namespace Go.Sh
open Ieee
def rd(x:Nat):Datum:=double.read x
noncomputable def timesV(n r:Int):Int:=match GX .mul (JC n) r.toNat with
 | none=>0
 | some x=>bif (Cd x 4895412794951729152==some .gt||Cd x 4895412794951729152==some .eq)then 18446744073709551615 else bif (Cd x 4607182418800017408==some .gt||Cd x 4607182418800017408==some .eq)then(LG x).getD 0 else 0
theorem lY:rd 4895412794951729152= .number false 4503599627370496 12:=by decide+kernel
theorem sY:rd 4607182418800017408= .number false 4503599627370496 (-52):=by decide+kernel
theorem L5(x c:Nat):Cd x c=(rd x).order (rd c):=GV _
theorem aL(x:Nat):LG x=(rd x).toInt .zero:=GV _
theorem YH{a b:Int}(h:((some (compare a b)==some Ordering.gt)||(some (compare a b)==some Ordering.eq))=true):b<=a:=by
 refine Classical.byContradiction fun g=> ?_;have:compare a b= .lt:=Int.compare_eq_lt.2 (by omega);rw[this]at h;simp at h
theorem g8{a b:Int}(h: ¬((some (compare a b)==some Ordering.gt)||(some (compare a b)==some Ordering.eq))=true):a<b:=by
 refine Classical.byContradiction fun g=>h ?_;by_cases e:a=b
 ·have:compare a b= .eq:=Int.compare_eq_eq.2 e;rw[this];rfl
 ·have:compare a b= .gt:=Int.compare_eq_gt.2 (by omega);rw[this];rfl
theorem Im(m u:Nat):signed false m u=((m*2^u:Nat):Int):=by unfold signed;rw[Nat.shiftLeft_eq];rfl
theorem Sb(m u:Nat):signed true m u= -((m*2^u:Nat):Int):=by unfold signed;rw[Nat.shiftLeft_eq];rfl
theorem YI(s:Bool)(n d:Nat):Toward.zero.cut s n d=n/2^(min d (n.log2+2)):=by
 unfold Toward.cut;simp only[Nat.shiftLeft_eq,Nat.one_mul,Bool.toNat_false,Nat.add_zero]
theorem g9{s:Bool}{n d B:Nat}(h:n<B*2^d)(j:0<B):Toward.zero.cut s n d<B:=by
 rw[YI];by_cases e:d<=n.log2+2
 ·rw[Nat.min_eq_left e];exact(Nat.div_lt_iff_lt_mul (Nat.pow_pos (by decide))).2 h
 ·rw[Nat.min_eq_right (by omega)];have:n<2^(n.log2+2):=Nat.lt_of_lt_of_le Nat.lt_log2_self (Nat.pow_le_pow_right (by decide) (by omega));rw[Nat.div_eq_of_lt this];exact j
theorem WY(m:Nat)(i:Int):(Datum.number false m i).toInt .zero=some ((Toward.zero.cut false (m*2^i.toNat) (-i).toNat:Nat):Int):=by
 unfold Datum.toInt Datum.integral;simp only[Im,Nat.shiftLeft_eq,Nat.pow_zero,Nat.mul_one]
theorem Qo{x:Nat}(h1:((Cd x 4607182418800017408==some .gt)||(Cd x 4607182418800017408==some .eq))=true)(v: ¬((Cd x 4895412794951729152==some .gt)||(Cd x 4895412794951729152==some .eq))=true):
  ∃k:Nat,LG x=some (k:Int)/\k<18446744073709551616:=by
 rw[L5,sY]at h1;rw[L5,lY]at v;rw[aL];generalize rd x=d at *
 cases d with
 | nan s t=>simp[Datum.order]at h1
 | infinity s=>
  cases s
  ·simp[Datum.order]at v
  ·simp[Datum.order]at h1
 | number s m i=>
  simp only[Datum.order]at h1 v;have C:=YH h1;have j:=g8 v;rw[Im]at C j;cases s with
  | true=>
   rw[Sb]at C;have:0<4503599627370496*2^(-52-min i (-52)).toNat:=Nat.mul_pos (by decide) (Nat.pow_pos (by decide));omega
  | false=>
   rw[Im]at j;have j:m*2^(i-min i 12).toNat<4503599627370496*2^(12-min i 12).toNat:=by exact_mod_cast j
   refine⟨_,WY m i,g9 (B:=18446744073709551616) ?_ (by decide)⟩;by_cases hi:0<=i
   ·rw[show(-i).toNat=0 by omega,Nat.pow_zero,Nat.mul_one];by_cases h12:i<=12
    ·rw[Int.min_eq_left h12,show(i-i).toNat=0 by omega,Nat.pow_zero,Nat.mul_one]at j;have e:2^(12-i).toNat*2^i.toNat=2^12:=by rw[<-Nat.pow_add];congr 1;omega
     calc m*2^i.toNat<4503599627370496*2^(12-i).toNat*2^i.toNat:=Nat.mul_lt_mul_of_pos_right j (Nat.pow_pos (by decide))
      _=18446744073709551616:=by rw[Nat.mul_assoc,e]
    ·rw[Int.min_eq_right (by omega),show(12-12:Int).toNat=0 by decide,Nat.pow_zero,Nat.mul_one]at j;have e:2^i.toNat=2^(i-12).toNat*2^12:=by rw[<-Nat.pow_add];congr 1;omega
     rw[e,<-Nat.mul_assoc]
     calc m*2^(i-12).toNat*2^12<4503599627370496*2^12:=Nat.mul_lt_mul_of_pos_right j (by decide)
      _=18446744073709551616:=by decide
   ·rw[show i.toNat=0 by omega,Nat.pow_zero,Nat.mul_one];rw[Int.min_eq_left (by omega),show(i-i).toNat=0 by omega,Nat.pow_zero,Nat.mul_one,show(12-i).toNat=12+(-i).toNat by omega,Nat.pow_add,<-Nat.mul_assoc]at j;exact j
theorem WZ(n r:Int):0<=timesV n r/\timesV n r<18446744073709551616:=by
 unfold timesV;cases GX .mul (JC n) r.toNat with
 | none=>exact⟨Int.le_refl _,by show(0:Int)<_;decide⟩
 | some x=>
  simp only;cases h2:(Cd x 4895412794951729152==some .gt||Cd x 4895412794951729152==some .eq)with
  | true=>exact⟨(by decide:(0:Int)<=18446744073709551615),(by decide:(18446744073709551615:Int)<18446744073709551616)⟩
  | false=>
   cases h1:(Cd x 4607182418800017408==some .gt||Cd x 4607182418800017408==some .eq)with
   | false=>exact⟨(by decide:(0:Int)<=0),(by decide:(0:Int)<18446744073709551616)⟩
   | true=>
    obtain⟨k,j,d⟩:=Qo h1 (by rw[h2];decide);simp only[cond_false,cond_true];rw[j];exact⟨by show(0:Int)<=(k:Int);omega,by show(k:Int)<_;omega⟩
theorem hO(t:Nat): ∃s f,rd (Vd t)= .nan s f:=by
 have h1:t %2<2:=Nat.mod_lt _ (by decide);have C:(t/2) %(2^52-1)<2^52-1:=Nat.mod_lt _ (by decide);unfold rd Vd Format.read;have j:double.signWeight=9223372036854775808:=by decide
 have v:double.binade=4503599627370496:=by decide
 have d:double.infRung=9218868437227405312:=by decide+kernel
 simp only[j,v,d];generalize t %2=a at *
 generalize (t/2) %(2^52-1)=b at *
 rw[if_neg (by omega),if_neg (by omega),if_neg (by omega)];exact⟨_,_,rfl⟩
theorem Nj(t c:Nat):Cd (Vd t) c=none:=by
 rw[L5];obtain⟨s,f,h⟩:=hO t;rw[h];cases rd c<;>rfl
end Go.Sh
set_option linter.all false
set_option maxRecDepth 8000
set_option maxHeartbeats 1000000
namespace Go.Sh
open Ieee
def times0(n r:Int):Int:=match fArith0 .mul (FloatKind.f64.nearest n) r.toNat with
 | none=>0
 | some x=>bif (FloatKind.f64.format.order x 4895412794951729152==some .gt||FloatKind.f64.format.order x 4895412794951729152==some .eq)then 18446744073709551615 else bif (FloatKind.f64.format.order x 4607182418800017408==some .gt||FloatKind.f64.format.order x 4607182418800017408==some .eq)then((FloatKind.f64.decode x).toInt .zero).getD 0 else 0
theorem Wa(n r:Int):timesV n r=times0 n r:=by
 unfold timesV times0;simp only[GX,JC,Cd,LG,GV]
 try (cases fArith0 .mul (FloatKind.f64.nearest n) r.toNat<;>rfl)
theorem Sd:timesV 1 4607632778762754458=1:=(Wa _ _).trans (by decide+kernel)
theorem M4{n r:Int}(h:GX .mul (JC n) r.toNat=none):timesV n r=0:=by unfold timesV;rw[h]
end Go.Sh
set_option linter.all false
set_option maxRecDepth 8000
set_option maxHeartbeats 1000000
namespace Go.Sh
open Ieee
end Go.Sh

/- What the heap's laws share. No further condition. -/
import Derived.Test.YtcjamkpfbpfeoaaGreatDoorH
import Derived.Test.YtcjamkpfbpfeoaaGreatDoorY
import Derived.Test.YtcjamkpfbpfeoaaGreatDoorA
import Derived.Test.YtcjamkpfbpfeoaaGreatDoorC
import Derived.Test.YtcjamkpfbpfeoaaGreatDoorR
set_option linter.all false
set_option maxRecDepth 8000
set_option maxHeartbeats 2000000
namespace Go.Sh
theorem Found.induct{P:HS->Prop}{S S2:HS}{p n page:Int}(v:P S)(h1: ∀S i q,i<64->P S->P (S.fill i q))(h2: ∀S i k n,P S->P (S.Gx i k n))(K: ∀S page n,P S->P (S.FC page n))
  (h4: ∀S V at_ N,P S->P (S.grown V at_ N))(T: ∀S V,P S->P {S with V:=V})(h:Found S p n page S2):P S2:=by
 have hf: ∀{i S1},i<64->GD S i S1->P S1:=fun{i S1} hi h=>by
  rcases h with ⟨_,q,_,rfl⟩|⟨_,rfl⟩
  ·exact h1 _ _ _ hi v
  ·exact v
 have J: ∀{S1},GM S p n S1->P S1:=fun{S1} h=>by
  rcases h with ⟨_,rfl⟩|⟨i,hi,_,_,h,_⟩
  ·exact v
  ·exact hf hi h
 obtain⟨S1,Y,hm⟩:=h;have j:P S1:=by
  rcases Y with (⟨C,i,k,hi,_,_,y,_,_,_,_,rfl⟩|⟨C,d,_,rfl⟩)|⟨C,O,d,_,⟨_,at_,_,rfl⟩,_,rfl⟩
  ·exact h2 _ _ _ _ (hf hi y)
  ·exact K _ _ _ (J d)
  ·exact K _ _ _ (h4 _ _ _ _ (J d))
 rcases hm with ⟨_,rfl⟩|⟨_,_,rfl⟩
 ·exact j
 ·exact T _ _ j
structure Same(S S2:HS):Prop where
 sp:S2.sp=S.sp
 own:S2.own=S.own
 fx:S2.fx=S.fx
 AB:S2.AB=S.AB
theorem Found.same{S S2:HS}{p n page:Int}(h:Found S p n page S2):Same S S2:=
 h.induct (P:=Same S) ⟨rfl,rfl,rfl,rfl⟩ (fun _ _ _ _ h=>⟨h.sp,h.own,h.fx,h.AB⟩) (fun _ _ _ _ h=>⟨h.sp,h.own,h.fx,h.AB⟩) (fun _ _ _ h=>⟨h.sp,h.own,h.fx,h.AB⟩) (fun _ _ _ _ h=>⟨h.sp,h.own,h.fx,h.AB⟩) fun _ _ h=>⟨h.sp,h.own,h.fx,h.AB⟩
structure Eb(S:HS)(b:Int):Prop where
 la: ∀p,mem S.V.laid p↔512<=p/\p<b
 b0:512<=b
 b1:b %512=0
 h0:0<=S.hint
 h1:S.hint<=b
 pl:S.V.pl=[]
 rf:S.V.rf=[]
theorem Eb.new(fl:List Int):Eb (HS.new (Mh [] [] fl)) 512:=⟨fun p=>⟨fun h=>absurd h (A9 p),fun h=>by omega⟩,Int.le_refl _,rfl,Int.le_refl _,by show(0:Int)<=512;decide,rfl,rfl⟩
section
variable{S S2:HS}{b p n page:Int}
theorem Xe(n:Int):n<=GN n/\GN n<n+512/\GN n %512=0:=by unfold GN;omega
theorem Eb.Xf(h:Eb S b){hint N at_:Int}(C:0<N)(d:hint<=b)(hp:KP S.V.laid hint N at_):at_=b:=by
 have h1:=hp.low;have v:=hp.mul;have b0:=h.b0;have b1:=h.b1;by_cases g:b<at_
 ·obtain⟨m,m1,y,j⟩:=hp.first b b1 b0 d g;have:=(h.la m).1 j;omega
 ·by_cases g2:at_<b
  ·exact absurd ((h.la at_).2 ⟨h1,g2⟩) (hp.free at_ (Int.le_refl _) (by omega))
  ·omega
theorem Eb.vW(h:Eb S b){N at_:Int}(d:0<N)(j:Gv S.V S.hint N at_):at_=b:=by
 have:=h.h0;have:=h.h1;rcases j with ⟨p,r,e,_⟩|⟨_,⟨_,h1,_⟩|⟨_,_,h1,_⟩⟩
 ·rw[h.pl]at e;cases e
 ·exact h.Xf d (by omega) h1
 ·exact h.Xf d (by have:=h.b0;omega) h1
theorem Eb.fF(h:Eb S b){N:Int}(d:0<N)(v:b+N<=34359738368)(hu:Ke S.V S.hint N):False:=by
 have:=h.h1;obtain⟨_,g|⟨a,j,y⟩,_⟩:=hu
 ·omega
 ·have:=h.Xf d h.h1 j;omega
theorem Eb.S5(h:Eb S b)(d:S2.V=S.V)(j:S2.hint=S.hint):Eb S2 b:=⟨by rw[d];exact h.la,h.b0,h.b1,by rw[j];exact h.h0,by rw[j];exact h.h1,by rw[d];exact h.pl,by rw[d];exact h.rf⟩
theorem GD.V{i:Nat}(h:GD S i S2):S2.V=S.V/\S2.hint=S.hint:=by
 rcases h with ⟨_,q,_,rfl⟩|⟨_,rfl⟩<;>exact⟨rfl,rfl⟩
theorem GM.V(h:GM S p n S2):S2.V=S.V/\S2.hint=S.hint:=by
 rcases h with ⟨_,rfl⟩|⟨i,_,_,_,h,_⟩
 ·exact⟨rfl,rfl⟩
 ·exact h.V
theorem Eb.made(h:Eb S b)(hm:Made S page n S2):Eb S2 b:=by
 rcases hm with ⟨_,rfl⟩|⟨_,_,rfl⟩
 ·exact h
 ·exact⟨h.la,h.b0,h.b1,h.h0,h.h1,h.pl,by show S.V.rf.tail=[];rw[h.rf];rfl⟩
theorem Eb.grew'(h:Eb S b)(v:Ok S.V.laid)(y:1<=n)(j:SG S n S2)(C:b+GN n<=34359738368):Eb S2 (b+GN n)/\S2=S.grown {S.V with rf:=S.V.rf.tail,pl:=S.V.pl.tail,laid:=CX S.V.laid b (b+GN n)} b (GN n):=by
 obtain⟨_,at_,d,rfl⟩:=j;have hu:=Xe n;have b0:=h.b0;have b1:=h.b1;have:=h.vW (by omega) d;subst this;refine⟨⟨fun q=> ?_,by omega,by omega,by show 0<=at_+GN n;omega,Int.le_refl _,by show S.V.pl.tail=[];rw[h.pl];rfl,by show S.V.rf.tail=[];rw[h.rf];rfl⟩,rfl⟩;refine(Ca v (by omega) (by omega) (by omega) q).trans ?_;rw[h.la];omega
theorem Eb.lost(y:Eb S b)(Y:1<=n)(K:b+GN n<=34359738368)(h:NF S p n S2):False:=by
 have hu:=Xe n;rcases h with ⟨j,d,_,⟨r,v,_⟩|⟨_,C,_⟩⟩|⟨S1,page,r,T,_,v,_⟩
 ·rw[(y.S5 d.V.1 d.V.2).rf]at v;cases v
 ·exact(y.S5 d.V.1 d.V.2).fF (by omega) K C
 ·have e:S1.V.rf=[]:=by
   rcases T with (⟨j,i,k,hi,_,_,J,_,_,_,_,rfl⟩|⟨j,d,_,rfl⟩)|⟨j,O,d,_,⟨_,at_,hc,rfl⟩,_,rfl⟩
   ·show j.V.rf=[];rw[J.V.1];exact y.rf
   ·show j.V.rf=[];rw[d.V.1];exact y.rf
   ·show j.V.rf.tail=[];rw[d.V.1,y.rf];rfl
  rw[e]at v;cases v
theorem fG{V:TV}{p:Int}(h:Fz V 1 p):V.fr p=true:=h.2.2.1 p (Int.le_refl _) (by omega)
def S6(S:HS)(a b:Int):Prop:= ∀p,S.T.fr p=true↔a<=p/\p<b
theorem S6.first{a:Int}(h:S6 S a b)(v:1<=n)(hf:Fz S.T n page):page=a/\a+n<=b:=by
 obtain⟨_,_,h1,d⟩:=hf;have y:=(h page).1 (h1 page (Int.le_refl _) (by omega));have C:=(h (page+n-1)).1 (h1 (page+n-1) (by omega) (by omega));have:=d a fun m m1 j=>(h m).2 (by omega);omega
theorem S6.none{a:Int}(h:S6 S a b)(d: ∀q,¬Im S.T.fr q n):b<a+n:=by
 refine Classical.byContradiction fun g=>d a fun m m1 j=>(h m).2 (by omega)
theorem S6.taken{a:Int}(h:S6 S a b)(d:0<=n):S6 (S.FC a n) (a+n) b:=fun p=>by
 refine K7.trans ?_;rw[h p];omega
theorem S6.grown{a:Int}(h:S6 S a b){V:VS}{N:Int}(h1:b %512=0)(j:N %512=0)(v:0<=N)(d:a<=b):S6 (S.grown V b N) a (b+N):=fun p=>by
 show(S.T.fr p||inr (b/512*512) (N/512*512) p)=true↔_;rw[Bool.or_eq_true,h p,AR];omega
theorem S6.new(V:VS):S6 (HS.new V) 512 512:=fun p=>⟨fun h=>(by cases h),fun h=>by omega⟩
theorem Found.row(h:Found S p n page S2){a:Int}(O:Eb S b)(hk:HP S)(C:S6 S a b)(aC:a<=b)(hn:1<=n)(hb:b+GN n<=34359738368)(hT: ∀d,GM S p n d->d=S)(aA: ∀d page,Vp S p n page d->d=S.FC page n/\Fz S.T n page):
  ∃v,(v=b∨v=b+GN n)/\page=a/\a+n<=v/\Eb S2 v/\S6 S2 (a+n) v/\S2.ca=S.ca/\(v=b-> ∀V,{S2 with V:=V}={S.FC a n with V:=V})/\(a+n<=b->v=b):=by
 obtain⟨S1,h,hm⟩:=h;have hu:=Xe n;have hs: ∀{S1 S2:HS},Made S1 page n S2->S2.ca=S1.ca/\S2.T=S1.T/\ ∀V,{S2 with V:=V}={S1 with V:=V}:=fun h=>by
  rcases h with ⟨_,rfl⟩|⟨_,_,rfl⟩<;>exact⟨rfl,rfl,fun _=>rfl⟩
 obtain⟨s1,s2,s3⟩:=hs hm;rcases h with h|⟨d,K,Y,j,hg,hf,rfl⟩
 ·obtain⟨rfl,hf⟩:=aA _ _ h;obtain⟨rfl,h1⟩:=C.first hn hf;refine⟨b,.inl rfl,rfl,h1,(O.S5 rfl rfl:Eb (S.FC page n) b).made hm,fun q=> ?_,s1,fun _=>s3,fun _=>rfl⟩;rw[s2];exact C.taken (by omega) q
 ·obtain rfl:=hT _ Y;obtain⟨h1,e0⟩:=O.grew' hk.vv.JA hn hg hb;have J:Eb S2 (b+GN n):=(h1.S5 rfl rfl:Eb (K.FC page n) (b+GN n)).made hm;subst e0;have y:S6 (d.grown {d.V with rf:=d.V.rf.tail,pl:=d.V.pl.tail,laid:=CX d.V.laid b (b+GN n)} b (GN n)) a (b+GN n):=C.grown O.b1 hu.2.2 (by omega) aC;obtain⟨rfl,h2⟩:=y.first hn hf;have hl:=C.none j;refine⟨b+GN n,.inr rfl,rfl,h2,J,fun q=> ?_,s1,fun e=>by omega,fun e=>by omega⟩;rw[s2];exact y.taken (by omega) q
theorem Vr(h: ¬(0<=p/\p<64/\n<16)){d:HS}(j:GM S p n d):d=S:=by
 rcases j with ⟨_,rfl⟩|⟨i,hi,rfl,v,_⟩
 ·rfl
 ·omega
theorem vX(h: ¬(0<=p/\p<64/\n<16)){d:HS}{page:Int}(j:Vp S p n page d):d=S.FC page n/\Fz S.T n page:=by
 rcases j with ⟨d,i,k,hi,rfl,v,_⟩|⟨d,j,hf,rfl⟩
 ·omega
 ·rw[Vr h j]at hf⊢;exact⟨rfl,hf⟩
theorem OA(d: ∀q,S.T.fr q=false){j:HS}(C:1<=n)(y:GM S p n j):j=S:=by
 rcases y with ⟨_,rfl⟩|⟨i,hi,rfl,_,⟨_,q,v,_⟩|⟨_,rfl⟩,_⟩
 ·rfl
 ·have:=fG v;rw[d]at this;cases this
 ·rfl
theorem Xg(d: ∀q,S.T.fr q=false)(O: ∀i,i<64->(S.ca i).empty){j:HS}{page:Int}(C:1<=n)(v:Vp S p n page j):j=S.FC page n/\Fz S.T n page:=by
 rcases v with ⟨S1,i,k,hi,rfl,_,y,K,_⟩|⟨j,v,hf,rfl⟩
 ·exfalso;rcases y with ⟨_,q,J,_⟩|⟨_,rfl⟩
  ·have:=fG J;rw[d]at this;cases this
  ·have:=K 0 (by omega);rw[O i hi]at this;cases this
 ·rw[OA d C v]at hf⊢;exact⟨rfl,hf⟩
end
end Go.Sh
set_option linter.all false
set_option maxRecDepth 4000
set_option maxHeartbeats 4000000
namespace Go.Sh
theorem RN(i:Nat){t:Nat}{Ps:List Pr}{w:World}{K:Nat->World->Prop}(H:Sat Ps w)(hi:Ps[i]? =some YB)(j: ∀b w',Sat (Ps.set i (Row t 1 ⟨some ⟨b,0,none⟩,0,0⟩ [])) w'->K b w'):AL (.cells ⟨[]⟩ t) w K:=
 Hu (n:=0) (z:=1) (H.front i hi).tail rfl (by decide) fun b w' d=>j b w' (Sat.back i d (List.getElem?_eq_some_iff.1 hi).1)
theorem Kg(i:Nat){t bytes b:Nat}{zs:Array Value}{a:AZ}{vs:List Value}{Ps:List Pr}{w:World}{K:AZ->World->Prop}(H:Sat Ps w)(hi:Ps[i]? =some (Row t 1 ⟨some ⟨b,0,none⟩,0,0⟩ []))(hz:zs.size=1)
  (d: ∀w',Sat (Ps.eraseIdx i) w'->rowAt w' a.base a.len vs)(J:vs.length=a.len)(hlen:a.len<=1099511627776)(j:bytes<=8)(O: ∀v∈vs,v.oneCell'=true)(C: ∀s' w',Sat (Ps.set i (Row t 1 s' vs)) w'->K s' w'):
  APP t 1 bytes zs ⟨some ⟨b,0,none⟩,0,0⟩ a w K:=by
 have hm:(0+a.len)*bytes<=1099511627776*8:=Nat.mul_le_mul (by omega) j;exact F4 (H.front i hi) hz (by simpa using d w (H.front i hi).tail) (by simpa using J) O (by simp only;omega) (by simp only;omega) fun s' w' y _=>C s' w' (Sat.back i y (List.getElem?_eq_some_iff.1 hi).1)
theorem OB(k:IntKind)(l:List Int): ∀v∈ints k l,v.oneCell'=true:=by intro v d;simp[ints]at d;obtain⟨x,_,rfl⟩:=d;rfl
theorem aL(l:List Bool): ∀v∈A6 l,v.oneCell'=true:=by intro v d;simp[A6]at d;rcases d with ⟨_,rfl⟩|⟨_,rfl⟩<;>rfl
section
variable{E:Env}{b c:Nat}{V:VS}{Z Rs:List Pr}{w:World}
theorem RO{b1 J t1 t3:Nat}{us:List Value}{s0 s1 s2:AZ}{r0 r1 T:List Value}{K:AZ->AZ->AZ->World->Prop}
  (hK: ∀s0 s1 s2 w',Sat (Row E.AJ 1 s0 r0::Row E.Ag 1 s1 r1::Row E.AJ 1 s2 T::Rs) w'->K s0 s1 s2 w')
  (H:Sat (Cells b1 t1 us::Row E.AJ 1 s0 r0::Row E.Ag 1 s1 r1::Row E.AJ 1 s2 T::Cells J t3 [.slice none 0 0,.slice none 0 0,.slice none 0 0]::Rs) w):
  stCells (Addr.mk J 0 none) 0 [.slice s0.base s0.len s0.cap,.slice s1.base s1.len s1.cap,.slice s2.base s2.len s2.cap] w fun d=>
     ∃j:AZ,d.cell? ((Addr.mk J 0 none).add 0)=some (.slice j.base j.len j.cap)/\
     ∃C:AZ,d.cell? ((Addr.mk J 0 none).add 1)=some (.slice C.base C.len C.cap)/\
     ∃y:AZ,d.cell? ((Addr.mk J 0 none).add 2)=some (.slice y.base y.len y.cap)/\
     K j C y d:=by
 refine Jc (news:=[.slice s0.base s0.len s0.cap,.slice s1.base s1.len s1.cap,.slice s2.base s2.len s2.cap]) (H.tail.front 3 rfl) rfl (by intro v Y;simp at Y;rcases Y with rfl|rfl|rfl<;>rfl) fun w' O=>⟨s0,O.cell rfl,s1,O.cell rfl,s2,O.cell rfl,hK _ _ _ _ O.tail⟩
end
end Go.Sh
set_option linter.all false
set_option maxRecDepth 8000
set_option maxHeartbeats 4000000
namespace Go.Sh
section
variable{E:Env}{w:World}{Rs Z:List Pr}
theorem T5(H:Sat Rs w){a0 a1 a2:AZ}{pl:List Int}{rf:List Bool}{fl:List Int}
  (h0: ∀w',Sat Rs w'->rowAt w' a0.base a0.len (ints .u64 pl))(l0:pl.length=a0.len)(k0:a0.len<=1099511627776)
  (h1: ∀w',Sat Rs w'->rowAt w' a1.base a1.len (A6 rf))(l1:rf.length=a1.len)(k1:a1.len<=1099511627776)
  (T: ∀w',Sat Rs w'->rowAt w' a2.base a2.len (ints .u64 fl))(l2:fl.length=a2.len)(Y:a2.len<=1099511627776)
  {K:AZ->AZ->AZ->World->Prop}(hK: ∀s0 s1 s2 w',Sat (Row E.AJ 1 s0 (ints .u64 pl)::Row E.Ag 1 s1 (A6 rf)::Row E.AJ 1 s2 (ints .u64 fl)::Rs) w'->K s0 s1 s2 w'):F.Ft E a0 a1 a2 K w:=by
 unfold F.Ft;have j:(ints IntKind.u64 pl).length=a0.len:=by rw[ints,List.length_map];exact l0
 have C:(A6 rf).length=a1.len:=by rw[A6,List.length_map];exact l1
 have v:(ints IntKind.u64 fl).length=a2.len:=by rw[ints,List.length_map];exact l2
 refine Ad (vs:=[Ie a0,Ie a1,Ie a2]) H fun b1 w2 H2 _=> ?_;refine Ad (vs:=[.slice none 0 0,.slice none 0 0,.slice none 0 0]) H2 fun b3 w4 J _=> ?_;have y:Sat (Cells b1 E.Eg [Ie a0,Ie a1,Ie a2]::YB::YB::YB::Cells b3 E.Eg [.slice none 0 0,.slice none 0 0,.slice none 0 0]::Rs) w4.drew:=(J.drew.emp.emp.emp).front 4 rfl;clear H2 J;have t4: ∀{P0 P1 P2 P3:Pr} {w'},Sat (P0::P1::P2::P3::Rs) w'->Sat Rs w':=fun h=>h.tail.tail.tail.tail;refine⟨a0,y.A2 rfl,a1,y.cell rfl,a2,y.cell rfl,?_⟩
 repeat' first
  | (exact Sat.cell (by assumption) (by rfl))
  | (exact Sat.A2 (by assumption) (by rfl))
  | (refine Kg 1 (a:=a0) (vs:=ints .u64 pl) (by assumption) (by rfl) rfl (by intro w' h;exact h0 w' (t4 h)) j k0 (by decide) (OB _ _) fun s' w' d=> ?_)
  | (refine Kg 1 (a:=a2) (vs:=ints .u64 fl) (by assumption) (by rfl) rfl (by intro w' h;exact T w' (t4 h)) v Y (by decide) (OB _ _) fun s' w' d=> ?_)
  | (refine Kg 2 (a:=a1) (vs:=A6 rf) (by assumption) (by rfl) rfl (by intro w' h;exact h1 w' (t4 h)) C k1 (by decide) (aL _) fun s' w' d=> ?_)
  | (refine Kg 3 (a:=a0) (vs:=ints .u64 pl) (by assumption) (by rfl) rfl (by intro w' h;exact h0 w' (t4 h)) j k0 (by decide) (OB _ _) fun s' w' d=> ?_)
  | (refine Kg 3 (a:=a2) (vs:=ints .u64 fl) (by assumption) (by rfl) rfl (by intro w' h;exact T w' (t4 h)) v Y (by decide) (OB _ _) fun s' w' d=> ?_)
  | (refine RN 2 (t:=E.Ag) (by assumption) (by rfl) fun O w' d=> ?_)
  | (refine RN 1 (t:=E.AJ) (by assumption) (by rfl) fun O w' d=> ?_)
  | (refine RN 3 (t:=E.AJ) (by assumption) (by rfl) fun O w' d=> ?_)
  | (exact RO hK (by assumption))
  | (exact RO hK (Sat.perm (by assumption) (.cons _ (((List.Perm.swap _ _ _).trans (.cons _ (.swap _ _ _))).trans (.swap _ _ _)))))
  | (refine And.intro ?_ ?_)
theorem Al.Mh(pl:List Int)(rf:List Bool)(fl:List Int):Al (HS.new (Go.Sh.Mh pl rf fl)) no:=Al.new rfl rfl
variable(hE:EnvA E)
include hE
theorem Oy{h:Nat}{S:HS}(hT: ∀w',Sat Z w'->GV E.AP w')(H:Sat (Aj E h S::Z) w)(hI:Al S no){p n c b:Int}{J:Bool}(hL:Eb S b)(O: ¬E7 0 n c)(n0:0<=n)(hb:b+GN n<=34359738368){K:Int->Int->World->Prop}
  (hK:1<=n-> ∀page S2 d id X,Found S p n page S2->HP S->Al S2 (inr page n)->0<=page->page+n<=34359738368->Next S2 id X->Al (S2.DP id (d,IX page n c J) page n X) no-> ∀w',Sat (Aj E h (S2.DP id (d,IX page n c J) page n X)::Z) w'->K id 0 w'):
  F.Ct E (some ⟨h,0,none⟩) p n c J K w:=by
 have Bi:=H.Bi;have v:=O;unfold E7 at v;have T:1<=n/\n<=134217728:=by
  by_cases e:c=0
  ·omega
  ·have aA:=KE (c:=c) (by omega) (by omega);omega
 exact PT hE hT H hI n0 (by omega) (fun C=>absurd C O) (fun _ S2 hl=>(hL.lost T.1 hb hl).elim) fun _ page S2 d id X hf j q0 q1 hX y w' Y=>hK T.1 page S2 d id X hf Bi j q0 q1 hX y w' Y
end
structure Xh(S:HS)(i k:Nat):Prop where
 fr:S6 S 576 1024
 base:(S.ca i).base=512
 has: ∀m,(S.ca i).has m=true↔k<=m/\m<64
 other: ∀j,j≠i->(S.ca j).empty
section
variable{S S2:HS}{i k:Nat}{page:Int}
theorem Xh.first(d:S6 S 513 1024)(v: ∀j,(S.ca j).empty){S1:HS}(h:GD S i S1):Xh S1 i 1/\S1.V=S.V/\S1.hint=S.hint:=by
 rcases h with ⟨_,q,C,rfl⟩|⟨h|h,rfl⟩
 ·have:=(d.first (n:=1) (by decide) C).1;subst this;refine⟨⟨fun p=> ?_,?_,fun m=> ?_,fun j y=> ?_⟩,rfl,rfl⟩
  ·refine K7.trans ?_;rw[d p];omega
  ·show(if i=i then filled S.T 513 else S.ca i).base=512;rw[if_pos rfl];rfl
  ·show(if i=i then filled S.T 513 else S.ca i).has m=true↔_;rw[if_pos rfl];show(decide (m<64)&&S.T.fr (513/64*64+m))=true↔_;rw[Bool.and_eq_true,decide_eq_true_eq,d];omega
  ·show(if j=i then filled S.T 513 else S.ca j).empty;rw[if_neg y];exact v j
 ·exact absurd (v i) h
 ·have:=(d 513).2 (by decide);rw[h]at this;cases this
theorem Xh.found(O: ∀S1,GD S i S1->Xh S1 i k/\S1.V=S.V/\S1.hint=S.hint)(hi:i<64)(hk:k<64){b:Int}(hL:Eb S b)(h:Found S i 1 page S2):page=512+k/\Xh S2 i (k+1)/\Eb S2 b:=by
 obtain⟨S1,h,hm⟩:=h;have J: ∀{y},GM S i 1 y->False:=fun{y} h=>by
  rcases h with ⟨h,_⟩|⟨d,aA,e,_,hf,J⟩
  ·omega
  ·obtain rfl:d=i:=by omega
   obtain⟨hC,_⟩:=O _ hf;refine J k fun m hm=>(hC.has _).2 ?_;have:(1:Int).toNat=1:=rfl;omega
 rcases h with (⟨y,d,v,aA,e,_,hf,hr,K,T,rfl,rfl⟩|⟨y,Y,_⟩)|⟨y,aD,Y,_⟩
 ·obtain rfl:d=i:=by omega
  obtain⟨hC,e1,e2⟩:=O _ hf;have e3:(1:Int).toNat=1:=rfl;rw[e3]at hr K T hm;have q1:=(hC.has v).1 (by have:=hr 0 (by decide);rwa[Nat.add_zero]at this);have q2:=K k fun m hm=>(hC.has _).2 (by omega);obtain rfl:v=k:=by omega
  have C:Xh (y.Gx d v 1) d (v+1):=by
   refine⟨hC.fr,?_,fun m=> ?_,fun j hj=> ?_⟩
   ·show(if d=d then(y.ca d).alloc v 1 else y.ca d).base=512;rw[if_pos rfl];exact hC.base
   ·show(if d=d then(y.ca d).alloc v 1 else y.ca d).has m=true↔_;rw[if_pos rfl];show((y.ca d).has m&& !(decide (v<=m)&&decide (m<v+1)))=true↔_;rw[Bool.and_eq_true,hC.has];by_cases g:m=v
    ·subst g;simp;omega
    ·have:(decide (v<=m)&&decide (m<v+1))=false:=by
      by_cases g2:v<=m
      ·rw[decide_eq_false (show ¬m<v+1 by omega)];simp
      ·rw[decide_eq_false g2];rfl
     rw[this];simp only[Bool.not_false,and_true];omega
   ·show(if j=d then(y.ca d).alloc v 1 else y.ca j).empty;rw[if_neg hj];exact hC.other j hj
  refine⟨by rw[hC.base],?_,((hL.S5 e1 e2).S5 rfl rfl:Eb (y.Gx d v 1) b).made hm⟩;rcases hm with ⟨_,rfl⟩|⟨_,_,rfl⟩
  ·exact C
  ·exact⟨C.fr,C.base,C.has,C.other⟩
 ·exact(J Y).elim
 ·exact(J Y).elim
theorem Xh.own(h:Xh S i k){p:Int}:(S.ca i).own p=true↔512+(k:Int)<=p/\p<576:=by
 rw[Gl,h.base,h.has];omega
theorem Xh.eQ(h:Xh S i k){j:Nat}(d:j≠i)(p:Int):(S.ca j).own p=false:=P8 (h.other j d) p
theorem Xh.DP(h:Xh S i k)(id:Int)(x:Nat×SI)(pg n:Int)(X:FX):Xh (S.DP id x pg n X) i k:=⟨h.fr,h.base,h.has,h.other⟩
theorem Eb.DP{b:Int}(h:Eb S b)(id:Int)(x:Nat×SI)(pg n:Int)(X:FX):Eb (S.DP id x pg n X) b:=⟨h.la,h.b0,h.b1,h.h0,h.h1,h.pl,h.rf⟩
theorem Vs{fl:List Int}{p n:Int}(hk:HP (HS.new (Mh [] [] fl)))(v:1<=n)(aA:n<=512)(h:Found (HS.new (Mh [] [] fl)) p n page S2):page=512/\S6 S2 (512+n) 1024/\Eb S2 1024/\ ∀j,S2.ca j=CS.nil:=by
 have d: ∀q,(HS.new (Mh [] [] fl)).T.fr q=false:=fun _=>rfl;obtain⟨b',h1,K,h3,C,Y,O,_⟩:=h.row (Eb.new fl) hk (S6.new _) (Int.le_refl _) v (by unfold GN;omega) (fun J y=>OA d v y) fun J pg y=>Xg d (fun _ _ _=>rfl) v y;have e:GN n=512:=by unfold GN;omega
 have e:b'=1024:=by omega
 subst e;exact⟨K,Y,C,fun j=>by rw[O];rfl⟩
theorem Next.top{id:Int}{X:FX}(h:Next S id X){n:Nat}(e:S.fx=⟨n,[]⟩):id=(n:Int)+1/\X=⟨n+1,[]⟩:=by
 rcases h with ⟨_,d,j⟩|⟨a,r,h1,_⟩
 ·rw[e]at d j;exact⟨d,j⟩
 ·rw[e]at h1;cases h1
end
end Go.Sh
set_option linter.all false
set_option maxRecDepth 8000
set_option maxHeartbeats 4000000
namespace Go.Sh
theorem cls5:(E3 5).2.1=1:=by decide+kernel
theorem spOk0{n:Int}(h:1<=n)(d:n<=134217728): ¬E7 0 n 0:=by unfold E7;omega
theorem RP{S:HS}{id:Int}{x:Nat×SI}{pg n:Int}{X:FX}(p:Int):(S.DP id x pg n X).own p=if pg<=p/\p<pg+n then id else S.own p:=rfl
theorem Vt{S:HS}{b:Int}(j:Eb S b){fl:Int->Bool}(d:Al S fl)(p:Int):S.T.GH p=true↔512<=p/\p<b:=by rw[<-d.la,j.la]
theorem mK{S:HS}{b:Int}(d:Eb S b){fl:Int->Bool}(j:Al S fl)(v:b<=34359738368):cP S.T.GH=b-512:=by
 have b0:=d.b0;rw[<-Ov (x:=512) (n:=b-512) (by decide) (by omega) (by omega)];refine RC fun p _ _=> ?_;rw[Bool.eq_iff_iff,Vt d j,AR];omega
theorem mL{S:HS}{b:Int}(j:Eb S b){fl:Int->Bool}(d:Al S fl){p:Int}:mem S.ks (p/512)↔512<=p/\p<b:=by rw[d.ks,Vt j d]
section
variable{E:Env}{w:World}{Rs Z:List Pr}(hE:EnvA E)
include hE
theorem Vu(hT: ∀w',Sat Z w'->GV E.AP w')(H:Sat Z w){K:Bool->World->Prop}(hK: ∀w',Sat Z w'->K true w'):F.DY E K w:=by
 unfold F.DY T0.DY;refine eM hE.toEnvS H fun m w2 H2=>Ac rfl (aH H2 fun h w4 H4=>Ac rfl ?_);have bad: ¬E7 0 1 5:=by unfold E7;rw[cls5];omega
 refine Oy hE hT H4 (Al.Mh [] [] []) (Eb.new []) bad (by decide) (by decide) fun _ page S2 O id X hf hk aP q0 q1 T a2 w7 H7=> ?_;obtain⟨e1,e2,e3,e4⟩:=Vs hk (by decide) (by decide) hf;subst e1;have es:=hf.same;obtain⟨rfl,rfl⟩:=T.top (n:=0) es.fx;have o1: ∀p,(S2.DP ((0:Nat)+1) (O,IX 512 1 5 false) 512 1 ⟨0+1,[]⟩).own p=if 512<=p/\p<512+1 then((0:Nat):Int)+1 else 0:=fun p=>by rw[RP,es.own];rfl
 have aX:(S2.DP ((0:Nat)+1) (O,IX 512 1 5 false) 512 1 ⟨0+1,[]⟩).AB=1:=by show S2.AB+1=1;rw[es.AB];rfl
 have a5: ∀j,((S2.DP ((0:Nat)+1) (O,IX 512 1 5 false) 512 1 ⟨0+1,[]⟩).ca j).empty:=fun j=>by show(S2.ca j).empty;rw[e4];exact fun _=>rfl
 have a3:S6 (S2.DP ((0:Nat)+1) (O,IX 512 1 5 false) 512 1 ⟨0+1,[]⟩) 513 1024:=e2;have aJ:=e3.DP ((0:Nat)+1) (O,IX 512 1 5 false) 512 1 ⟨0+1,[]⟩;have aV:(S2.DP ((0:Nat)+1) (O,IX 512 1 5 false) 512 1 ⟨0+1,[]⟩).fx=⟨1,[]⟩:=rfl;generalize S2.DP ((0:Nat)+1) (O,IX 512 1 5 false) 512 1 ⟨0+1,[]⟩=T1 at *
 clear hf aP T es e2 e3 e4 hk;refine Oy hE hT H7 a2 aJ bad (by decide) (by decide) fun _ page S3 d id X hf hk aQ q0 q1 T aZ bD aO=> ?_;obtain⟨e1,e2,e3⟩:=Xh.found (i:=0) (fun S1 a8=>Xh.first a3 a5 a8) (by decide) (by decide) aJ hf;have e1:page=513:=e1;subst e1;have es:=hf.same;obtain⟨rfl,rfl⟩:=T.top (n:=1) (by rw[es.fx];exact aV);have o2: ∀p,(S3.DP ((1:Nat)+1) (d,IX 513 1 5 false) 513 1 ⟨1+1,[]⟩).own p=if 513<=p/\p<513+1 then((1:Nat):Int)+1 else if 512<=p/\p<512+1 then((0:Nat):Int)+1 else 0:=fun p=>by rw[RP,es.own,o1]
 have a4:(S3.DP ((1:Nat)+1) (d,IX 513 1 5 false) 513 1 ⟨1+1,[]⟩).AB=2:=by show S3.AB+1=2;rw[es.AB,aX];rfl
 have Y:=e2.DP ((1:Nat)+1) (d,IX 513 1 5 false) 513 1 ⟨1+1,[]⟩;have aD:=e3.DP ((1:Nat)+1) (d,IX 513 1 5 false) 513 1 ⟨1+1,[]⟩;have aU:(S3.DP ((1:Nat)+1) (d,IX 513 1 5 false) 513 1 ⟨1+1,[]⟩).fx=⟨2,[]⟩:=rfl;generalize S3.DP ((1:Nat)+1) (d,IX 513 1 5 false) 513 1 ⟨1+1,[]⟩=T2 at *
 clear hf aQ T es e2 e3 hk;refine Oy hE hT aO aZ aD (spOk0 (by decide) (by decide)) (by decide) (by decide) fun _ page S4 v id X hf hk bM q0 q1 T C bE aM=> ?_;obtain⟨b',k1,k2,k3,k4,k5,k6,_,k7⟩:=hf.row aD hk Y.fr (by decide) (by decide) (by decide) (fun S0 ht=>Vr (by omega) ht) fun S0 pg ht=>vX (by omega) ht;have:=k7 (by decide);subst this;subst k2;have es:=hf.same;obtain⟨rfl,rfl⟩:=T.top (n:=2) (by rw[es.fx];exact aU);have o3: ∀p,(S4.DP ((2:Nat)+1) (v,IX 576 16 0 false) 576 16 ⟨2+1,[]⟩).own p=if 576<=p/\p<576+16 then((2:Nat):Int)+1 else if 513<=p/\p<513+1 then((1:Nat):Int)+1 else if 512<=p/\p<512+1 then((0:Nat):Int)+1 else 0:=fun p=>by rw[RP,es.own,o2]
 have a7:(S4.DP ((2:Nat)+1) (v,IX 576 16 0 false) 576 16 ⟨2+1,[]⟩).AB=18:=by show S4.AB+16=18;rw[es.AB,a4];rfl
 have aK:=k4.DP ((2:Nat)+1) (v,IX 576 16 0 false) 576 16 ⟨2+1,[]⟩;have aF: ∀j,(S4.DP ((2:Nat)+1) (v,IX 576 16 0 false) 576 16 ⟨2+1,[]⟩).ca j=T2.ca j:=fun j=>congrFun k6 j;generalize S4.DP ((2:Nat)+1) (v,IX 576 16 0 false) 576 16 ⟨2+1,[]⟩=T3 at *
 have J: ¬0<T3.own 514:=by rw[o3];decide
 have aE: ∀i,i<64->(T3.ca i).own 514=true->i=0:=fun i _ hi=>by
  rw[aF]at hi;refine Classical.byContradiction fun e=> ?_;rw[Y.eQ e]at hi;cases hi
 refine PQ hE aM (by decide) (by decide) (fun y=> ?_) (fun _ _ y=>absurd y J) (fun _ _ _ i hi ho _ bQ aY=> ?_) fun _ _ _ aT=> ?_
 ·exfalso;have:mem T3.ks (514/512):=(mL aK C).2 (by decide);rcases y with g|g
  ·omega
  ·exact g this
 ·obtain rfl:=aE i hi ho;refine PS aY C fun bS aR=> ?_;rw[mK aK C (by decide),a7];refine AV rfl (AV rfl (AV rfl (AV rfl (AV rfl (AV rfl ?_)))));refine L9 aR (by decide) (by decide) fun bL aS=> ?_;rw[o3];refine AV (by decide) (L9 aS (by decide) (by decide) fun a0 aN=> ?_);rw[o3];exact AV (by decide) (AV rfl (AV rfl (AV rfl (hK a0 aN.tail))))
 ·have:=aT 0 (by decide);rw[aF,Y.own.2 (by decide)]at this;cases this
end
end Go.Sh
set_option linter.all false
set_option maxRecDepth 8000
set_option maxHeartbeats 4000000
namespace Go.Sh
section
variable{S S2:HS}{n page:Int}
def asks(next b n:Int):Nat:=if next+n<=b then 1 else 2
variable{i:Nat}{next b:Int}{rf:List Bool}
end
theorem T6: ∀(N:Nat) (l:List Int),l.Nodup->(∀n∈l,0<n/\n<=N)->l.length<=N
 | 0,[],_,_=>Nat.le_refl _
 | 0,n::_,_,h=>by have:=h n List.mem_cons_self;omega
 | N+1,l,hn,h=>by
  by_cases hm:((N+1:Nat):Int)∈l
  ·have j:=T6 N (l.erase ((N+1:Nat):Int)) (hn.erase _) fun n d=>by
    have h1:=(hn.mem_erase_iff).1 d;have v:=h n h1.2;have y:=h1.1;omega
   rw[List.length_erase_of_mem hm]at j;omega
  ·have j:=T6 N l hn fun n d=>by
    have v:=h n d;have y:n≠((N+1:Nat):Int):=fun e=>hm (e▸d);omega
   omega
end Go.Sh
set_option linter.all false
set_option maxRecDepth 4000
set_option maxHeartbeats 2000000
namespace Go.Sh
theorem W_not(u:Nat->Bool):D8 .u64 2 18446744073709551615 (W u)=W fun i=> !u i:=by
 rw[<-Tc];show IntKind.wrap .u64 ((BitVec.ofInt 64 (W fun _=>true)^^^BitVec.ofInt 64 (W u)).toNat:Int)=_;rw[BitVec.toNat_xor,nE,nE];have e:wN (fun _=>true) 64^^^wN u 64=wN (fun i=> !u i) 64:=by
  refine Nat.eq_of_testBit_eq fun i=> ?_;rw[Nat.testBit_xor,Da,Da,Da];cases decide (i<64)<;>cases u i<;>rfl
 rw[e,Qi (LO _ 64)];rfl
theorem nU{n:Nat}(h:n<64):u64 (1*2^(min (Int.toNat (n:Int)) (IntKind.bits .u64)))=W fun i=>i==n:=by
 have e:=cH (fun i=>i==0) (n:=(n:Int)) (by omega) (by omega);rw[cC]at e;rw[e];refine FI fun i hi=> ?_;rw[Int.toNat_natCast,Bool.eq_iff_iff,Bool.and_eq_true,decide_eq_true_eq,beq_iff_eq,beq_iff_eq];omega
theorem Xi{n:Nat}(h:n<64):u64 ((u64 (1*2^(min (Int.toNat (n:Int)) (IntKind.bits .u64))))-1)=W fun i=>decide (i<n):=by
 have e:wN (fun i=>i==n) 64=2^n:=by
  refine Nat.eq_of_testBit_eq fun i=> ?_;rw[Da,Nat.testBit_two_pow];rw[Bool.eq_iff_iff,Bool.and_eq_true,decide_eq_true_eq,beq_iff_eq,decide_eq_true_eq];omega
 have d:wN (fun i=>decide (i<n)) 64=2^n-1:=by
  refine Nat.eq_of_testBit_eq fun i=> ?_;rw[Da,Nat.testBit_two_pow_sub_one];rw[Bool.eq_iff_iff,Bool.and_eq_true,decide_eq_true_eq,decide_eq_true_eq];omega
 rw[nU h];unfold W;rw[e,d];have h1:0<2^n:=Nat.pow_pos (by decide);have j:2^n<=2^63:=Nat.pow_le_pow_right (by decide) (by omega);rw[AM];omega
theorem fH{u:Nat->Bool}{i:Nat}(hu:u i=false): ∀n,cN (fun j=>u j||j==i) n=cN u n+(if i<n then 1 else 0)
 | 0=>rfl
 | n+1=>by
  simp only[cN,fH hu n];by_cases e:n=i
  ·subst e;rw[hu,if_neg (by omega),if_pos (by omega)];simp
  ·rw[show(n==i)=false by simpa using e,Bool.or_false];by_cases g:i<n
   ·rw[if_pos g,if_pos (by omega)];omega
   ·rw[if_neg g,if_neg (by omega)];omega
section
variable{E:Env}{w:World}{Z:List Pr}{s:AZ}{uw:List Int}{U:Nat->Bool}
def SI.set(S:SI)(U:Nat->Bool)(n:Nat):SI:={S with uw:=[W fun i=>U i||i==n],used:=S.used+1,look:=(n:Int)+1}
section
variable{b:Nat}{S:SI}
def RQ(page AB elem:Int):SI:=⟨page*8192,AB,2,0,false,elem,AB*8192/elem,0,false,false,0,[],[],0⟩
def E4(AB elem:Int):Prop:=AB=0∨134217728<AB∨elem<8∨AB*8192<elem
theorem RR(H:Sat Z w){page AB elem:Int}(h0:0<=page)(p0:0<=AB)(p1:AB<18446744073709551616)(J:page+AB<=34359738368∨page=0)(e0:elem<9223372036854775808){K:Option Addr->Int->World->Prop}
  (v:E4 AB elem->K none 1 w)(y: ¬E4 AB elem-> ∀b w',Sat (Ed E b (RQ page AB elem)::Z) w'->K (some ⟨b,0,none⟩) 0 w'):F.I3 E page AB elem K w:=by
 unfold F.I3;have d:E4 AB elem->K none 1 w:=v;refine An (BW (fun e j=>AV rfl (d (.inl e))) fun n1=>AD (fun e=>absurd e (by omega)) fun n2=> ?_);rw[AM (n:=34359738368-page)];refine AD (fun e j=>AV rfl (d (.inr (.inl (by omega))))) fun n3=>AD (fun e j=>AV rfl (d (.inr (.inl e)))) fun n4=>AD (fun e j=>AV rfl (d (.inr (.inr (.inl e))))) fun n5 j=> ?_;rw[AM (n:=elem),AM (n:=AB*8192)];refine AD (fun e=>d (.inr (.inr (.inr e)))) fun n6=>⟨by omega,?_⟩;rw[AM (n:=page*8192),AH (n:=AB),AH (n:=AB*8192),Int.tdiv_eq_ediv_of_nonneg (by omega)];have hd:0<=AB*8192/elem/\AB*8192/elem<=AB*8192:=⟨Int.ediv_nonneg (by omega) (by omega),Int.ediv_le_self _ (by omega)⟩;rw[AH (n:=AB*8192/elem)];refine Ad (vs:=[.int .u64 (page*8192),.int .i64 AB,.int .i64 2,.int .i64 0,.bool false,.int .i64 elem,.int .i64 (AB*8192/elem),.int .i64 0,.bool false,.bool false,.int .u32 0,.slice none 0 0,.slice none 0 0,.int .i64 0]) H fun O Y T _=> ?_;refine y (by unfold E4;omega) O Y (Sat.span.2 ⟨⟨none,0,0⟩,⟨none,0,0⟩,?_⟩);have C:=T.nil E.AJ 1;have h3:=C.nil E.AJ 1;exact h3.perm ((List.reverse_perm [_,_,_]).symm.append_right Z)
end
end
end Go.Sh
set_option linter.all false
set_option maxRecDepth 8000
set_option maxHeartbeats 2000000
namespace Go.Sh
def HS.put(S:HS)(id:Int)(x:Nat×SI):HS:={S with sp:=fun i=>if i=id then some x else S.sp i}
section
variable{S:HS}{fl:Int->Bool}{id:Int}{x:Nat×SI}{I:SI}
theorem Al.put(h:Al S fl)(C:S.sp id=some x)(h1:I.base=x.2.base)(v:I.AB=x.2.AB)(O:I.state≠0):Al (S.put id (x.1,I)) fl:=by
 refine⟨h.cr,h.cd,h.fn,fun p hp=> ?_,h.o0,h.li,h.cv,h.ks,h.la,h.rd,fun i y j=> ?_,fun i=> ?_,h.fb,h.pg,h.h0,h.h1⟩
 ·obtain⟨a,b,c,y,j,J,K⟩:=h.ow p hp;refine⟨a,b,c,?_⟩;by_cases e:S.own p=id
  ·refine⟨(x.1,I),if_pos e,?_⟩;rw[e,C]at j;cases j;rw[h1,v];exact⟨J,K⟩
  ·exact⟨y,(if_neg e).trans j,J,K⟩
 ·have j:(if i=id then some (x.1,I)else S.sp i)=some y:=j;by_cases e:i=id
  ·rw[if_pos e]at j;cases j;obtain⟨a,b,c,_,d⟩:=h.sp id x C;subst e;refine⟨a,by rw[h1];exact b,by rw[v];exact c,O,?_⟩;rw[h1,v];exact d
  ·rw[if_neg e]at j;exact h.sp i y j
 ·show(if i=id then some (x.1,I)else S.sp i)≠none↔_;refine Iff.trans ?_ (h.sf i);by_cases e:i=id
  ·rw[if_pos e,e,C];simp
  ·rw[if_neg e]
theorem HS.fI:(S.put id x).sp id=some x:=if_pos rfl
theorem HS.fJ{i:Int}(h:i≠id):(S.put id x).sp i=S.sp i:=if_neg h
end
section
variable{E:Env}{h:Nat}{S:HS}{Z:List Pr}{w:World}
theorem PU{α:Type}: ∀{l:List α} {i:Nat} {x:α},l.Nodup->l[i]? =some x->x∉l.eraseIdx i
 | [],i,x,_,h=>by simp at h
 | y::l,0,x,d,h=>by
  simp at h;subst h;simpa using(List.nodup_cons.1 d).1
 | y::l,i+1,x,d,h=>by
  have d:=List.nodup_cons.1 d;have h:l[i]? =some x:=by simpa using h
  have j:=PU d.2 h;rw[List.eraseIdx_cons_succ,List.mem_cons];rintro(e|e)
  ·subst e;exact d.1 (List.mem_of_getElem? h)
  ·exact j e
theorem Sat.fK(H:Sat (Aj E h S::Z) w){id:Int}{x:Nat×SI}(v:S.sp id=some x): ∃R:List Pr,Sat (Ed E x.1 x.2::(R++Z)) w/\ ∀{Y:List Pr} {I:SI} {w'},Sat (Ed E x.1 I::(R++Y)) w'->Sat (Aj E h (S.put id (x.1,I))::Y) w':=by
 obtain⟨g,d,H⟩:=Sat.heap.1 H;have hm:id∈g.ids:=(d.mem id).2 (by rw[v];exact fun h=>by cases h);obtain⟨i,hi⟩:=List.mem_iff_getElem?.1 hm;have H1:=(H.front 6 rfl).Hs hi;have e:JF E S.sp id=Ed E x.1 x.2:=by unfold JF;rw[v]
 rw[e]at H1;refine⟨Ap (JF E S.sp) (g.ids.eraseIdx i)::(CH E h S g).eraseIdx 6,H1,fun{Y I w'} h'=>Sat.heap.2 ⟨g,⟨d.nd,fun j=> ?_⟩,?_⟩⟩
 ·rw[d.mem];show _↔(if j=id then some (x.1,I)else S.sp j)≠none;by_cases e:j=id
  ·rw[if_pos e,e,v];simp
  ·rw[if_neg e]
 ·have O:JF E (S.put id (x.1,I)).sp id=Ed E x.1 I:=by unfold JF;rw[HS.fI]
  have C:Ap (JF E S.sp) (g.ids.eraseIdx i)=Ap (JF E (S.put id (x.1,I)).sp) (g.ids.eraseIdx i):=Ap.congr fun j J=>by
   have:j≠id:=fun e=>PU d.nd hi (e▸J);unfold JF;rw[HS.fJ this]
  rw[<-O,C]at h';have K:=Sat.Gq h' hi;have y:=Sat.back (Ps:=CH E h S g++Y) 6 K (by simp[CH]);have e3:EG S.sp=EG (S.put id (x.1,I)).sp:=by
   funext j;unfold EG;by_cases e:j=id
   ·rw[e,HS.fI,v];rfl
   ·rw[HS.fJ e]
  have e4:(CH E h S g++Y).set 6 (Ap (JF E (S.put id (x.1,I)).sp) g.ids)=CH E h (S.put id (x.1,I)) g++Y:=by
   show [Cells h E.Ae (Bm g S.hint S.AB),BR E g.m S.V,BI E g.t S.T,Bu E g.a S.ks S.own,GC E g.f S.fx,Ef g.sm .i64 (EG S.sp),_,_]++Y=_;rw[e3];rfl
  rw[e4]at y;exact y
variable(hE:EnvA E)
include hE
theorem T7(hT: ∀w',Sat Z w'->GV E.AP w')(H:Sat (Aj E h S::Z) w)(hI:Al S no){n el:Int}(n0:0<=n)(n1:n<18446744073709551616)(e1:el<9223372036854775808){K:Int->Int->World->Prop}
  (aA:E4 n el-> ∀w',Sat (Aj E h S::Z) w'->K 0 1 w')
  (y: ¬E4 n el-> ∀S2,NF S (-1) n S2->Al S2 no-> ∀w',Sat (Aj E h S2::Z) w'->K 0 13 w')
  (aB: ¬E4 n el-> ∀page S2 b id X,Found S (-1) n page S2->Al S2 (inr page n)->0<=page->page+n<=34359738368->Next S2 id X->Al (S2.DP id (b,RQ page n el) page n X) no-> ∀w',Sat (Aj E h (S2.DP id (b,RQ page n el) page n X)::Z) w'->K id 0 w'):
  F.DX E (some ⟨h,0,none⟩) n el K w:=by
 unfold F.DX T0.DX;refine RR H (by decide) n0 n1 (.inr rfl) e1 (fun T=>AV rfl (aA T _ H)) fun d b0 w3 H3=>Ac rfl ?_;have hg:=d;unfold E4 at hg;refine RL hE hT H3.tail hI (by omega) (by omega) (fun page S2 hf j C O hr w6 H6=>Ac rfl ?_) fun S2 hl j w6 H6=>AV rfl (y d S2 hl j w6 H6);refine RR H6 C n0 n1 (.inl O) e1 (fun T=>absurd T d) fun _ b w9 H9=> ?_;exact RM hE H9 j C (by omega) O hr rfl rfl (by show(2:Int)≠0;decide) fun id X hX Y J v=>aB d page S2 b id X hf j C O hX Y J v
end
end Go.Sh
set_option linter.all false
set_option maxRecDepth 8000
set_option maxHeartbeats 2000000
namespace Go.Sh
inductive I8:HS->Int->HS->Int->Prop
 | stop {S:HS} {n:Int} (h:n=0∨ ∀p,S.T.idle p=false):I8 S n S 0
 | step {S S':HS} {n p k m:Int} (h:Oo S.T n p k) (r:I8 (S.K3 p k) (n-k) S' m):I8 S n S' (k+m)
section
variable{E:Env}{h:Nat}{S:HS}{Z:List Pr}{w:World}{g:HG}
variable(hE:EnvA E)
include hE
theorem Xj(H:Sat (Aj E h S::Z) w)(hI:Al S no){n:Int}(n0:0<=n)(n1:n<18446744073709551616){K:Int->World->Prop}
  (hK: ∀S' m,I8 S n S' m->0<=m->m<=n->Al S' no-> ∀w',Sat (Aj E h S'::Z) w'->K m w'):F.Cu E (some ⟨h,0,none⟩) n K w:=by
 unfold F.Cu T0.Cu;refine AK (fun st w'=> ∃S1,0<=st.1/\st.1<=n/\Al S1 no/\(∀S' m,I8 S1 st.1 S' m->I8 S n S' (n-st.1+m))/\Sat (Aj E h S1::Z) w') (fun st _=>st.1.toNat) ⟨S,n0,Int.le_refl _,hI,fun S' m hs=>by show I8 S n S' (n-n+m);rw[show n-n+m=m by omega];exact hs,H⟩ ?_;rintro⟨left,v⟩ _ w2 ⟨S1,l0,l1,j,J,O⟩;dsimp only at l0 l1 J⊢;have y:(left=0∨ ∀p,S1.T.idle p=false)-> ∀w',Sat (Aj E h S1::Z) w'->K (u64 (n-left)) w':=fun hz w' H'=>by
  rw[AM (n:=n-left)];have:=J S1 0 (.stop hz);rw[Int.add_zero]at this;exact hK S1 _ this (by omega) (by omega) j w' H'
 refine AD (fun aD=> ?_) fun hz=>y (.inl (by omega)) w2 O;have d:=O.Bi;simp only[AI];obtain⟨t,R,c1,ht,hb⟩:=O.Vq;refine⟨_,c1,Zs hE.toEnvS ht (by omega) (by omega) (fun hz=>AV rfl (y hz w2 O)) fun p k hs w8 H8=>Ac (by have:=hs.k0;simpa using(by omega: ¬k=0)) ?_⟩;have k0:=hs.k0;have kn:=hs.kn;have H9:=hb H8;obtain⟨m,R2,c0,hm,aA⟩:=H9.fE;have C: ∀q,p<=q->q<p+k->0<=q/\q<34359738368:=fun q a b=>d.tv.Gn q (d.tv.fi q (j.idle d (hs.row q a b)).1);have b0:=C p (Int.le_refl _) (by omega);have b1:=C (p+k-1) (by omega) (by omega);refine⟨_,c0,XM hE.toEnvS hm b0.1 k0 (by omega) (fun q a b=>(j.idle d (hs.row q a b)).2.2.1) fun aF Y=> ?_⟩;rw[AM (n:=left-k)];refine⟨⟨S1.K3 p k,by show 0<=left-k;omega,by show left-k<=n;omega,j.K3 d k0 hs.row,fun S' m' aB=> ?_,aA Y⟩,by show(left-k).toNat<left.toNat;omega⟩;have:=J S' (k+m') (.step hs aB);rw[show n-(left-k)+m'=n-left+(k+m') by omega];exact this
end
end Go.Sh

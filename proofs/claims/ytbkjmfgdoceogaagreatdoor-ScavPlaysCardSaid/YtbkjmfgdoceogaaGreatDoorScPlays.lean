/- The law ScavPlays holds (its card: math/bits' table as the program's text lays it): for every input the Go function returns true and leaves its arguments alone. No further condition. -/
import Derived.Test.YtbkjmfgdoceogaaGreatDoorJ
import Derived.Test.YtbkjmfgdoceogaaGreatDoorL
import Derived.Test.YtbkjmfgdoceogaaGreatDoorK
import Derived.Test.YtbkjmfgdoceogaaGreatDoorQ
import Derived.Test.YtbkjmfgdoceogaaGreatDoorA
import Derived.Test.YtbkjmfgdoceogaaGreatDoorCards
import Derived.Test.YtbkjmfgdoceogaaGreatDoorTie
import Derived.WalkKit
import Derived.ProofKit
import Derived.OpenShut
import Derived.Deep.DeepHandedRow
import Derived.Lib.LaidTab
set_option linter.all false
set_option maxRecDepth 8000
set_option maxHeartbeats 4000000
namespace Go.Sh
def NQ(S:HS)(um:Q9):Prop:= ∀id x,S.sp id=some x->nJ x.2 (um id).1 (um id).2/\x.2.f8=false/\x.2.f9=false
theorem iI(n:Nat):cN PH n=0:=by
 have:=Qy (U:=PH) (n:=0) (fun _ _=>rfl) n;rwa[Nat.zero_add]at this
theorem aW{S:SI}(h1:S.uw=[])(j:S.mw=[])(v:S.used=0)(C:S.look=0)(d:0<=S.Bs/\S.Bs<=137438953472):nJ S PH PH:=
 ⟨by rw[h1];exact P7 fun _=>rfl,by rw[j];exact P7 fun _=>rfl,by rw[h1];show(0:Int)*64<=_;omega,by rw[j];show(0:Int)*64<=_;omega,fun i h=>(by cases h),fun i h=>(by cases h),d,by rw[v,iI];rfl,by rw[C];exact⟨Int.le_refl _,d.1,fun i J=>by omega⟩⟩
theorem Yj{page n c:Int}{j:Bool}(d: ¬D5 page n c):nJ (K8 page n c j) PH PH:=by
 unfold D5 at d;refine aW rfl rfl rfl rfl ?_;show 0<=(if c=0 then 1 else(Dp c).2.2.1)/\(if c=0 then 1 else(Dp c).2.2.1)<=137438953472;by_cases e:c=0
 ·rw[if_pos e];omega
 ·rw[if_neg e];have:=Sq (c:=c) (by omega) (by omega);omega
theorem NQ.Dd{S:HS}{um:Q9}(h:NQ S um){id page n:Int}{X:FX}{b:Nat}{I:SI}(C:nJ I PH PH)(v:I.f8=false)(J:I.f9=false):NQ (S.Dd id (b,I) page n X) (MH um id PH PH):=by
 intro j x d;have d:(if j=id then some (b,I)else S.sp j)=some x:=d;unfold MH;by_cases e:j=id
 ·rw[if_pos e]at d⊢;cases d;exact⟨C,v,J⟩
 ·rw[if_neg e]at d⊢;exact h j x d
theorem FB.room{S S1:HS}{i:Nat}(h:FB S i S1):S1.V=S.V:=by
 rcases h with ⟨_,q,_,rfl⟩|⟨_,rfl⟩<;>rfl
theorem SY.room{S S1:HS}{p n page:Int}(h:SY S p n page S1):S1.V=S.V:=by
 rcases h with ⟨j,i,k,_,_,_,hf,_,_,_,_,rfl⟩|⟨j,d,_,rfl⟩
 ·exact hf.room
 ·exact d.Fb.1
theorem Yk{l:Iv}(h:Ok l){a b:Int}(d:a<b)(h0:0<=a)(j:b<18446744073709551616):CK (Bk l a b)<=CK l+(b-a):=by
 have:=(CQ h d h0 j).2.2;have:=B1 l a b;omega
theorem PF.room{S S1:HS}{n:Int}(h:PF S n S1)(j:E9 S)(C:1<=n)(v:n<=134217728)(h0:0<=S.hint)(hp: ∀x∈S.V.pl,0<=x):CK S1.V.laid<=CK S.V.laid+Ek n:=by
 obtain⟨_,a,d,rfl⟩:=h;obtain⟨O,K,N,J⟩:=O3 C v;have hf:=NF j.vv (by omega) d;have a0:0<=a:=by
  rcases d with ⟨p,r,h1,_,rfl⟩|⟨_,⟨_,h1,_⟩|⟨_,_,h1,_⟩⟩
  ·exact hp a (by rw[h1];exact List.mem_cons_self)
  ·have:=h1.low;omega
  ·have:=h1.low;omega
 have:=Yk j.vv.Gz (a:=a) (b:=a+Ek n) (by omega) a0 (by have:=hf.2.2.1;omega);show CK (Bk S.V.laid a (a+Ek n))<=_;omega
def NR(S:HS):Prop:= ∀x∈S.V.pl,0<=x
theorem JG.room{S S1:HS}{p n page:Int}(h:JG S p n page S1)(N:Ag S no)(T:E9 S)(C:1<=n)(j:n<=134217728)(hp:NR S):CK S1.V.laid<=CK S.V.laid+Ek n/\NR S1:=by
 have u:=O3 C j;rcases h with h|⟨K,O,v,_,J,_,rfl⟩
 ·rw[h.room];exact⟨by omega,by unfold NR;rw[h.room];exact hp⟩
 ·have e:=v.Fb;have:=J.room (v.ok T) C j (by rw[e.2];exact N.h0) (by rw[e.1];exact hp);rw[e.1]at this;refine⟨this,?_⟩;obtain⟨_,a,_,rfl⟩:=J;intro x d;have d:x∈K.V.pl.tail:=d;rw[e.1]at d;exact hp x (List.mem_of_mem_tail d)
theorem Found.room{S S2:HS}{p n page:Int}(h:Found S p n page S2)(C:Ag S no)(J:E9 S)(v:1<=n)(d:n<=134217728)(hp:NR S):CK S2.V.laid<=CK S.V.laid+Ek n/\NR S2:=by
 obtain⟨S1,j,hm⟩:=h;have:=j.room C J v d hp;rcases hm with ⟨_,rfl⟩|⟨_,_,rfl⟩<;>exact this
theorem Ma.room{S S2:HS}{p n:Int}(h:Ma S p n S2)(K:Ag S no)(O:E9 S)(J:1<=n)(C:n<=134217728)(hp:NR S):CK S2.V.laid<=CK S.V.laid+Ek n/\NR S2:=by
 have u:=O3 J C;rcases h with ⟨j,v,_,N⟩|⟨S1,page,r,v,_,_,rfl⟩
 ·have e:=v.Fb;rcases N with ⟨r,_,rfl⟩|⟨_,_,rfl⟩
  ·refine⟨by show CK j.V.laid<=_;rw[e.1];omega,fun x d=> ?_⟩;have d:x∈j.V.pl:=d;rw[e.1]at d;exact hp x d
  ·refine⟨by show CK j.V.laid<=_;rw[e.1];omega,fun x d=> ?_⟩;have d:x∈j.V.pl.tail:=d;rw[e.1]at d;exact hp x (List.mem_of_mem_tail d)
 ·exact v.room K O J C hp
theorem FB.PK{S S1:HS}{i:Nat}(h:FB S i S1):S1.sp=S.sp:=by
 rcases h with ⟨_,q,_,rfl⟩|⟨_,rfl⟩<;>rfl
theorem Er.PK{S S1:HS}{p n:Int}(h:Er S p n S1):S1.sp=S.sp:=by
 rcases h with ⟨_,rfl⟩|⟨i,_,_,_,hf,_⟩
 ·rfl
 ·exact hf.PK
theorem JG.PK{S S1:HS}{p n page:Int}(h:JG S p n page S1):S1.sp=S.sp:=by
 rcases h with (⟨j,i,k,_,_,_,hf,_,_,_,_,rfl⟩|⟨j,d,_,rfl⟩)|⟨C,v,d,_,⟨_,a,_,rfl⟩,_,rfl⟩
 ·exact hf.PK
 ·exact d.PK
 ·exact d.PK
theorem Found.PK{S S2:HS}{p n page:Int}(h:Found S p n page S2):S2.sp=S.sp:=by
 obtain⟨S1,d,hm⟩:=h;rcases hm with ⟨_,rfl⟩|⟨_,_,rfl⟩<;>exact d.PK
theorem Ma.PK{S S2:HS}{p n:Int}(h:Ma S p n S2):S2.sp=S.sp:=by
 rcases h with ⟨v,d,_,j⟩|⟨S1,page,r,d,_,_,rfl⟩
 ·rcases j with ⟨r,_,rfl⟩|⟨_,_,rfl⟩<;>exact d.PK
 ·exact d.PK
theorem NQ.PK{S S2:HS}{um:Q9}(h:NQ S um)(e:S2.sp=S.sp):NQ S2 um:=fun id x d=>h id x (by rw[<-e];exact d)
theorem FO.PK{S S':HS}{n m:Int}(h:FO S n S' m):S'.sp=S.sp/\S'.V.laid=S.V.laid/\S'.V.pl=S.V.pl:=by
 induction h with
 | stop _=>exact⟨rfl,rfl,rfl⟩
 | step _ _ ih=>exact ih
theorem NQ.free{S:HS}{um:Q9}(j:NQ S um){a:Nat}{page n:Int}:NQ (S.free a page n) um:=fun id x d=>j id x (by
 have d:(if id=(a:Int)+1 then none else S.sp id)=some x:=d;by_cases c:id=(a:Int)+1
 ·rw[if_pos c]at d;cases d
 ·rwa[if_neg c]at d)
section
variable{E:Env}{h r:Nat}{S S':HS}{um um':Q9}{g:RG}{Z:List Pr}{w:World}
theorem Yl{A:Pr}{Z:List Pr}:Sat (EN E r S um g++A::Z) w↔Sat (A::(EN E r S um g++Z)) w:=
 ⟨fun H=>H.perm (List.perm_middle (l₁:=EN E r S um g)),fun H=>H.perm (List.perm_middle (l₁:=EN E r S um g)).symm⟩
end
end Go.Sh
set_option linter.all false
set_option maxRecDepth 8000
set_option maxHeartbeats 4000000
namespace Go.Sh
section
variable{E:Env}{h q:Nat}{S:HS}{um:Q9}{pb tp:Nat}{r:Int}{Z:List Pr}{w:World}
theorem TA(H:Sat Z w){n r:Int}{K:Int->World->Prop}(T: ∀w',Sat Z w'->K (timesV n r) w'):F.C6 E n r K w:=by
 unfold F.C6 T0.C6 F.DH T0.DH F.Di;have main: ∀(x:Nat) w',Sat Z w'->(bif (Cd x 4895412794951729152==some .gt||Cd x 4895412794951729152==some .eq)then(18446744073709551615:Int)else bif (Cd x 4607182418800017408==some .gt||Cd x 4607182418800017408==some .eq)then(LG x).getD 0 else 0)=timesV n r->
   CND (!(Cd x 4607182418800017408==some .gt||Cd x 4607182418800017408==some .eq)) (K 0 w')
    (CND ((Cd x 4895412794951729152==some .gt||Cd x 4895412794951729152==some .eq)) (K 18446744073709551615 w') (∃d:Int,LG x=some d/\(IntKind.min .u64<=d/\d<=IntKind.max .u64)/\K d w')):=by
  intro x w' Y e;have v:=T w' Y;refine LX (AR (fun h1=>AR (fun j=> ?_) fun j=> ?_) fun h1=> ?_)
  ·rw[j]at e;rw[<-e]at v;exact v
  ·obtain⟨k,J,O⟩:=Qo h1 (by rw[j];decide);refine⟨k,J,⟨by show(0:Int)<=k;omega,by show(k:Int)<=18446744073709551615;omega⟩,?_⟩;rw[j,h1,cond_false,cond_true,J]at e;rw[<-e]at v;exact v
  ·have j:(Cd x 4895412794951729152==some .gt||Cd x 4895412794951729152==some .eq)=false:=by
    cases c:(Cd x 4895412794951729152==some .gt||Cd x 4895412794951729152==some .eq)with
    | false=>rfl
    | true=>rw[aV c]at h1;cases h1
   rw[j,h1,cond_false,cond_false]at e;rw[<-e]at v;exact v
 have key:FRES (GX .mul (JC n) r.toNat) w fun C N=>
   CND (!(Cd C 4607182418800017408==some .gt||Cd C 4607182418800017408==some .eq)) (K 0 N)
    (CND ((Cd C 4895412794951729152==some .gt||Cd C 4895412794951729152==some .eq)) (K 18446744073709551615 N) (∃d:Int,LG C=some d/\(IntKind.min .u64<=d/\d<=IntKind.max .u64)/\K d N)):=by
  cases hx:GX .mul (JC n) r.toNat with
  | some x=>
   refine main x w H ?_;unfold timesV;rw[hx]
  | none=>
   intro t;refine main (Vd t) w.drew H.drew ?_;rw[Nj,Nj,M4 hx];rfl
 exact key
theorem Ag.full(d:Ag S no)(j:E9 S):cP S.T.Fb-cP S.gone=CK S.V.ready/\0<=S.AA/\S.AA<=CK S.V.ready/\CK S.V.ready<=34359738368:=by
 have h1:=d.counts j;have J:=GM S.T.Fb;have v:=GM S.gone;have C:=d.rY;generalize cP S.T.Fb=A at *
 generalize cP S.gone=B at *
 omega
noncomputable def KI(S:HS)(r:Int):Int:=Hv S.AA (CK S.V.ready-S.AA) r
theorem QC(j:Ag S no)(v:E9 S):0<=KI S r/\KI S r<=34359738368:=by
 obtain⟨_,C,J,K⟩:=j.full v;have:=QA (u:=S.AA) (d:=CK S.V.ready-S.AA) r (by omega);unfold KI;omega
def Ym(S:HS)(bytes:Int)(S':HS)(m:Int):Prop:=(CK S.V.ready*8192<=bytes/\S'=S/\m=0)∨(bytes<CK S.V.ready*8192/\FO S ((CK S.V.ready*8192-bytes+8191)/8192) S' m)
theorem Ym.uniq{bytes m m':Int}{S1 S2:HS}(h:Ym S bytes S1 m)(d:Ym S bytes S2 m'):S1=S2/\m=m':=by
 rcases h with ⟨g,rfl,rfl⟩|⟨g,h⟩<;>rcases d with ⟨g',rfl,rfl⟩|⟨g',d⟩
 ·exact⟨rfl,rfl⟩
 ·omega
 ·omega
 ·exact h.uniq d
abbrev Wv(pb tp h:Nat)(r:Int):Pr:=Cells pb tp [.pointer (some ⟨h,0,none⟩),.int .u64 r]
theorem TB{A u m r:Int}(j:0<=u)(C:u<=A)(J:A<=34359738368)(hm:m=HL u (timesV u r)){K:Int->World->Prop}(d:K (Hv u (A-u) r) w):
  CND (decide ((u64 A:Int)<=m)) (K 0 w) (Gl (u64 ((u64 A)-m):Int) fun t=>K t w):=by
 have v:=Nm u (timesV u r);unfold Hv at d;rw[show u+(A-u)=A by omega]at d;rw[AG (n:=A),hm];refine AE (fun g=> ?_) fun g=> ?_
 ·rw[if_pos g]at d;exact d
 ·rw[if_neg g]at d;show K (u64 (A-HL u (timesV u r))) w;rw[AG];exact d
theorem NI(H:Sat (Au E h S::Wv pb tp h r::Z) w)(C:Ag S no){K:Int->World->Prop}(N: ∀w',Sat (Au E h S::Wv pb tp h r::Z) w'->K (KI S r) w'):F.BT E (some ⟨pb,0,none⟩) K w:=by
 unfold F.BT T0.BT;refine BD ⟨_,(H.front 1 rfl).BI rfl,HE H C fun Y j=>BD ⟨_,(j.front 1 rfl).cell rfl,?_⟩⟩;obtain⟨e,J,O,T⟩:=C.full j.BH;rw[e];exact O5 j fun d v=>TB J O T rfl (N d v)
theorem O6(H:Sat (Hu E q S um::Z) w)(d:Ag S no)(j:E9 S){K:Int->World->Prop}(J: ∀w',Sat (Hu E q S um::Z) w'->K (KI S r) w'):F.Ch E (some ⟨q,0,none⟩) r K w:=by
 unfold F.Ch T0.Ch;refine IW H d j fun w4 O=>TA O fun v T=> ?_;obtain⟨e,C,Y,p2⟩:=d.full j;rw[e];have hb:=Nm S.AA (timesV S.AA r);refine Et (fun st w'=>st.1=HL S.AA (timesV S.AA r)/\w'=v) (AE (fun g=>⟨by show S.AA=_;omega,rfl⟩) fun g=>⟨by show timesV S.AA r=_;omega,rfl⟩) ?_;rintro⟨m,u⟩ _ N ⟨hm,rfl⟩;exact TB C Y p2 hm (J N T)
theorem Ug(H:Sat (Hu E q S um::Z) w)(j:Ag S no)(v:E9 S)(d:CK S.V.laid<=1000000){Ii:Int}(m0:0<=Ii){K:Int->World->Prop}
  (C: ∀S' m,FO S (min (KI S r) Ii) S' m-> ∀w',Sat (Hu E q S' um::Z) w'->K m w'):F.C7 E (some ⟨q,0,none⟩) r Ii K w:=by
 unfold F.C7 T0.C7;have Y:=QC (r:=r) j v;refine O6 H j v fun N J=>Et (fun st w'=>st.1=min (KI S r) Ii/\w'=N) (AE (fun g=>⟨by show Ii=_;omega,rfl⟩) fun g=>⟨by show KI S r=_;omega,rfl⟩) ?_;rintro⟨m,u⟩ _ w5 ⟨hm,rfl⟩;dsimp only at hm⊢;rw[hm];exact NH J j v d (by omega) (by omega) fun S' m' hs T O=>C S' m' hs T O
theorem TC(H:Sat (Hu E q S um::Z) w)(j:Ag S no)(v:E9 S)(d:CK S.V.laid<=1000000){bytes:Int}(m0:0<=bytes){K:Int->World->Prop}
  (C: ∀S' m,Ym S bytes S' m-> ∀w',Sat (Hu E q S' um::Z) w'->K m w'):F.Cp E (some ⟨q,0,none⟩) bytes K w:=by
 unfold F.Cp T0.Cp;refine IW H j v fun O N=>AY fun x J=> ?_;obtain⟨e,p0,p1,p2⟩:=j.full v;rw[e,AG (n:=CK S.V.ready),AG (n:=CK S.V.ready*8192)]at J;subst J;refine AE (fun g=>C S 0 (.inl ⟨g,rfl,rfl⟩) O N) fun g=>⟨by decide,?_⟩;rw[AG (n:=CK S.V.ready*8192-bytes),AG (n:=CK S.V.ready*8192-bytes+8191),Int.tdiv_eq_ediv_of_nonneg (by omega),AG];exact NH N j v d (by omega) (by omega) fun S' m hs T Y=>C S' m (.inr ⟨by omega,hs⟩) T Y
variable(hE:K7 E)
include hE
theorem TE(H:Sat (Au E h S::Wv pb tp h r::Z) w)(d:Ag S no){Ii:Int}(m0:0<=Ii){K:Int->World->Prop}
  (J: ∀S' m,FO S (min (KI S r) Ii) S' m->Ag S' no-> ∀w',Sat (Au E h S'::Wv pb tp h r::Z) w'->K m w'):F.Bn E (some ⟨pb,0,none⟩) Ii K w:=by
 have T:=QC (r:=r) d H.BH;unfold F.Bn T0.Bn;refine BD ⟨_,(H.drew.front 1 rfl).BI rfl,NI H.drew d fun O v=>⟨(v.front 1 rfl).BI rfl,?_⟩⟩;have e:KX (KI S r) Ii=min (KI S r) Ii:=by unfold KX;split<;>omega
 rw[e];exact I6 hE v d (by omega) (by omega) fun S' m hs _ _ j C N=>J S' m hs j C N
theorem RH(H:Sat (Au E h S::Wv pb tp h r::Z) w)(d:Ag S no){bytes:Int}(m0:0<=bytes){K:Int->World->Prop}
  (C: ∀S' m,Ym S bytes S' m->Ag S' no-> ∀w',Sat (Au E h S'::Wv pb tp h r::Z) w'->K m w'):F.BU E (some ⟨pb,0,none⟩) bytes K w:=by
 have Y:=H.BH;unfold F.BU T0.BU;refine BD ⟨_,(H.front 1 rfl).BI rfl,HE H d fun N j=>AY fun x J=> ?_⟩;obtain⟨e,p0,p1,p2⟩:=d.full Y;rw[e,AG (n:=CK S.V.ready),AG (n:=CK S.V.ready*8192)]at J;subst J;refine AE (fun g=>C S 0 (.inl ⟨g,rfl,rfl⟩) d N j) fun g=>BD ⟨_,(j.front 1 rfl).BI rfl,by decide,?_⟩;rw[AG (n:=CK S.V.ready*8192-bytes),AG (n:=CK S.V.ready*8192-bytes+8192),AG (n:=CK S.V.ready*8192-bytes+8192-1),Int.tdiv_eq_ediv_of_nonneg (by omega),AG,show CK S.V.ready*8192-bytes+8192-1=CK S.V.ready*8192-bytes+8191 by omega];exact I6 hE j d (by omega) (by omega) fun S' m hs _ _ v O T=>C S' m (.inr ⟨by omega,hs⟩) v O T
end
end Go.Sh
set_option linter.all false
set_option maxRecDepth 8000
set_option maxHeartbeats 8000000
namespace Go.Sh
theorem Yn{x:Int}(h0:0<=x)(h1:x<18446744073709551616):E8 .u64 0 x 511=x %512:=by
 obtain⟨X,rfl⟩:=Int.eq_ofNat_of_zero_le h0;have e:=bH (a:=X) (b:=511) (by omega) (by decide);have d:=Nat.and_two_pow_sub_one_eq_mod X 9;have j:(2:Nat)^9-1=511:=by decide
 rw[j]at d;rw[d]at e;exact e.trans (by show((X %512:Nat):Int)=_;omega)
theorem iJ(x:Int):0<=E8 .i64 0 x 255/\E8 .i64 0 x 255<=255:=by
 have e:E8 .i64 0 x 255=i64 ((BitVec.ofInt 64 x&&&BitVec.ofInt 64 255).toNat:Int):=rfl;have h:(BitVec.ofInt 64 x&&&BitVec.ofInt 64 255).toNat<=255:=by
  rw[BitVec.toNat_and,show(BitVec.ofInt 64 255).toNat=255 by decide];exact Nat.and_le_right
 rw[e,AN];omega
abbrev IN:AT:=.cons (.int .i64) (.cons (.int .i64) (.cons (.int .i64) (.cons (.int .u64) .nil)))
def sW(x:NM IN):Int:=x.1
def sP(x:NM IN):Int:=x.2.1
def sI(x:NM IN):Int:=x.2.2.1
def sN(x:NM IN):Int:=x.2.2.2.1
theorem Yo{w:World}{s:AZ}{z:Nat->NM IN}(h:KY w IN s z){j:Nat}(v:j<s.len): ∃x,s.base=some x/\(w.cell? ((x.add (j*4)).add 0)=some (.int .i64 (sW (z j)))/\w.cell? ((x.add (j*4)).add 1)=some (.int .i64 (sP (z j)))/\w.cell? ((x.add (j*4)).add 2)=some (.int .i64 (sI (z j)))/\
  w.cell? ((x.add (j*4)).add 3)=some (.int .u64 (sN (z j))))/\(0<=sN (z j)/\sN (z j)<18446744073709551616):=by
 obtain⟨x,J,d,BH⟩:=h.2.2 j v;have hs:AT.size IN=4:=rfl;rw[hs]at d;obtain⟨_,_,_,C,_⟩:=BH;refine⟨x,J,⟨?_,?_,?_,?_⟩,XJ C⟩<;>rw[add_add]
 ·exact d 0 _ rfl
 ·exact d 1 _ rfl
 ·exact d 2 _ rfl
 ·exact d 3 _ rfl
theorem LZ.bS{w w':World}{s:AZ}{z:Nat->NM IN}(h:KY w IN s z)(he:Ext AK w w'):KY w' IN s z:=
 ⟨h.1,h.2.1,fun j J=>by
  obtain⟨x,h1,C,d⟩:=h.2.2 j J;exact⟨x,h1,fun i v K=>he.cell (C i v K) fun f=>f,d⟩⟩
section
variable{E:Env}{w:World}(hE:K7 E)
include hE
theorem O7{N J v a2:AZ}{r:Int}{z0:Nat->Int}{z1:Nat->Bool}{z2:Nat->Int}{z:Nat->NM IN}(hT:GC E.AQ w)(h0:KY w (.int .u64) N z0)(h1:KY w .bool J z1)(h2:KY w (.int .u64) v z2)(hA:KY w IN a2 z)
  {K:Bool->World->Prop}(hK: ∀w',Ext AK w w'->K true w'):F.BO E N J v r a2 K w:=by
 unfold F.BO T0.BO;have cN:=hA.1;have cG:=hA.2.1;refine Am (vs:=[HU N,HU J,HU v]) (Sat.start w) fun b1 w2 H2 _=> ?_;refine Et (fun st w'=>w'=w2/\(st.1=false->a2.len<=100/\N.len<=50/\J.len<=100/\v.len<=2000)) ?_ ?_
 ·refine AE (fun _=>⟨rfl,fun c=>by cases c⟩) fun _=>⟨N,H2.BI rfl,AE (fun _=>⟨rfl,fun c=>by cases c⟩) fun _=>⟨J,H2.cell rfl,AE (fun _=>⟨rfl,fun c=>by cases c⟩) fun _=>⟨v,H2.cell rfl,rfl,fun c=> ?_⟩⟩⟩;have:=of_decide_eq_false c;omega
 rintro⟨s,u⟩ _ w5 ⟨rfl,hs⟩;dsimp only at hs⊢;refine AR (fun _=>hK w5 (H2.JT 1 rfl)) fun e=> ?_;obtain⟨l0,l1,l2,l3⟩:=hs e;refine AM (fun st w'=> ∃i:Nat,st.2.1=(i:Int)/\i<=a2.len/\w'=w5) (fun st _=>((a2.len:Int)-st.2.1).toNat) ⟨0,rfl,Nat.zero_le _,rfl⟩ ?_;rintro⟨n,i',u⟩ _ aV ⟨i,hi,bX,rfl⟩;dsimp only at hi⊢;subst hi;refine AE (fun aM=> ?_) fun dL=> ?_
 ·obtain⟨x,Y,hc,_⟩:=Yo (hA.bS (H2.JT 1 rfl)) (show i<a2.len by omega);rw[Y];have c0:=hc.1;rw[add_add,Nat.add_zero]at c0;have nx:(∃i2:Nat,i64 ((i:Int)+1)=(i2:Int)/\i2<=a2.len/\aV=aV)/\((a2.len:Int)-i64 ((i:Int)+1)).toNat<((a2.len:Int)-(i:Int)).toNat:=by
   rw[AN (n:=(i:Int)+1)];exact⟨⟨i+1,rfl,by omega,rfl⟩,by omega⟩
  exact BD ⟨⟨by omega,aM⟩,_,c0,CO (fun _=>BD ⟨⟨by omega,aM⟩,_,hc.2.2.2,AY fun _ _=>nx⟩) fun _=>nx⟩
 refine AE (fun _=>hK aV (H2.JT 1 rfl)) fun _=>⟨N,H2.cell rfl,J,H2.cell rfl,v,H2.cell rfl,?_⟩;have r0: ∀w',Ext AK w w'->rowAt w' N.base N.len (ints .u64 (I0 N.len z0)):=fun w' h=>OG (LZ.jK h0 h);have r1: ∀w',Ext AK w w'->rowAt w' J.base J.len (BS (I0 J.len z1)):=fun w' h=>RA (LZ.iF h1 h);have r2: ∀w',Ext AK w w'->rowAt w' v.base v.len (ints .u64 (I0 v.len z2)):=fun w' h=>OG (LZ.jK h2 h);have aU:=ZE h0;refine MJ H2 aU (fun w' h=>r0 w' (h.JT 1 rfl)) (Fi _ _) (by omega) (fun w' h=>r1 w' (h.JT 1 rfl)) (Fi _ _) (by omega) (fun w' h=>r2 w' (h.JT 1 rfl)) (Fi _ _) (by omega) fun h dM aI=> ?_;refine⟨N,(aI.front 1 rfl).cell rfl,J,(aI.front 1 rfl).cell rfl,v,(aI.front 1 rfl).cell rfl,?_⟩;refine Wo aI aU (fun w' h=>r0 w' (h.JT 2 rfl)) (Fi _ _) (by omega) (fun w' h=>r1 w' (h.JT 2 rfl)) (Fi _ _) (by omega) (fun w' h=>r2 w' (h.JT 2 rfl)) (Fi _ _) (by omega) fun c c4 a9=> ?_;refine Ue (um:=fun _=>(PH,PH)) a9 fun q c8 bG=>Ab rfl ?_;unfold F.Ic;refine Am (vs:=[.pointer (some ⟨h,0,none⟩),.int .u64 r]) bG fun pb cB bM _=>Ab rfl ?_;have bJ: ∀w',Sat [Old w] w'->GC E.AQ w':=fun w' h=>hT.ext (h.JT 0 rfl);have a5:Sat [Au E h (HS.new (JJ (I0 N.len z0) (I0 J.len z1) (I0 v.len z2))),Wv pb E.ES h r,Hu E q (HS.new (JJ (I0 N.len z0) (I0 J.len z1) (I0 v.len z2))) (fun _=>(PH,PH)),Old w] cB:=((bM.front 3 rfl).tail.front 2 rfl);clear bM bG a9 aI H2;refine AM (fun st w'=> ∃(i:Nat) (S:HS) (um:Q9),st.1=(i:Int)/\i<=a2.len/\Ag S no/\NQ S um/\NR S/\CK S.V.laid<=512*i/\Sat [Au E h S,Wv pb E.ES h r,Hu E q S um,Old w] w') (fun st _=>((a2.len:Int)-st.1).toNat)
  ⟨0,_,_,rfl,Nat.zero_le _,Ag.JJ _ _ _,fun id x Y=>(by cases Y),fun x Y=>(aU x Y).1,by show(0:Int)<=_;omega,a5⟩ ?_
 clear a5;rintro⟨i',u⟩ _ dE ⟨i,S,um,hi,bX,O,hU,hP,hB,aN⟩;dsimp only at hi⊢;subst hi;refine AE (fun aM=> ?_) fun _=>RF hE (fun w' h'=>bJ w' h'.tail.tail.tail) aN fun bC aH=>hK bC (aH.JT 3 rfl);obtain⟨x,Y,hc,hN⟩:=Yo (hA.bS (aN.JT 3 rfl)) (show i<a2.len by omega);rw[Y];generalize sW (z i)=v0 at hc;generalize sP (z i)=v1 at hc;generalize sI (z i)=v2 at hc;generalize sN (z i)=v3 at hc hN;refine BD ⟨⟨by omega,aM⟩,v0,hc.1,v1,hc.2.1,v2,hc.2.2.1,v3,hc.2.2.2,?_⟩;refine Am (vs:=[.int .i64 0,.int .i64 0,.int .i64 0,.int .u64 0]) aN fun aS dF a7 _=>Jg (news:=[.int .i64 v0,.int .i64 v1,.int .i64 v2,.int .u64 v3]) a7 rfl (by simp[Value.oneCell']) fun cI d=> ?_;have hk:=(d.front 1 rfl).BH;have cA: ∀(P1 P2 P3:Pr) w',Sat (P1::P2::P3::[Old w]) w'->GC E.AQ w':=fun P1 P2 P3 w' h'=>bJ w' h'.tail.tail.tail;refine Et (fun _ w'=> ∃(S:HS) (um:Q9),Ag S no/\NQ S um/\NR S/\CK S.V.laid<=512*(i+1)/\Sat [Hu E q S um,Au E h S,Wv pb E.ES h r,Cells aS E.EU [.int .i64 v0,.int .i64 v1,.int .i64 v2,.int .u64 v3],Old w] w') ?_ ?_
 ·refine⟨v0,d.BI rfl,CO (fun e0=> ?_) fun _=>CO (fun e0=> ?_) fun _=>CO (fun e0=> ?_) fun _=>CO (fun e0=> ?_) fun _=>⟨S,um,O,hU,hP,by omega,(((d.front 2 rfl).front 2 rfl).front 3 rfl)⟩⟩
  ·-- a span
   refine⟨v1,d.cell rfl,v3,d.cell rfl,?_⟩;rw[Yn hN.1 hN.2,AG (n:=1+v3 %512)];have aX: ¬D5 0 (1+v3 %512) 0:=by unfold D5;omega
   have c5:Ek (1+v3 %512)=512:=by unfold Ek;omega
   refine M3 hE (fun w' h'=>cA _ _ _ w' h') (d.front 1 rfl) O (by omega) (by omega) (fun hb=>absurd hb aX) (fun hb S2 hL aL cF aP=> ?_) fun hb page S2 bb id X hF aL p0 p1 hX b6 cF aP=> ?_
   all_goals
    have C:=aP.front 1 rfl;refine⟨v1,C.cell rfl,v3,C.cell rfl,?_⟩;rw[Yn hN.1 hN.2,AG (n:=1+v3 %512)]
   ·refine MI (aP.front 3 rfl) O hk (by omega) (by omega) (fun c=>absurd c aX) (fun _ S3 aZ bE aQ=> ?_) fun _ page S3 id X hF _ _ _=>(hF.not hL).elim;obtain rfl:=hL.uniq aZ;have hr:=hL.room O hk (by omega) (by omega) hP;exact Ax (DE (fun c=>absurd rfl c) fun _ j=>Ab rfl ⟨S2,um,aL,hU.PK hL.PK,hr.2,by omega,aQ.perm (.cons _ (.cons _ (.swap _ _ _)))⟩)
   ·refine MI (aP.front 3 rfl) O hk (by omega) (by omega) (fun c=>absurd c aX) (fun _ S3 aZ bE aQ=>(hF.not aZ).elim) fun _ cD S3 dH X' bU bZ bE aQ=> ?_;obtain⟨rfl,rfl⟩:=hF.uniq bU;obtain⟨rfl,rfl⟩:=hX.uniq bZ;have hr:=hF.room O hk (by omega) (by omega) hP;exact Ax (DE (fun c=>absurd rfl c) fun _ j=>Ab rfl ⟨_,_,b6,(hU.PK hF.PK).Dd (Yj (by unfold D5;omega)) rfl rfl,hr.2,by show CK S2.V.laid<=_;omega,(aQ bb).perm (.cons _ (.cons _ (.swap _ _ _)))⟩)
  ·-- one is freed
   obtain⟨g,hR,Hr⟩:=Sat.GS.1 (d.front 3 rfl);have hl:=MC (Hr.front 4 rfl);have same: ∀{w'},Sat (Hu E q S um::Au E h S::Cells aS E.EU [.int .i64 v0,.int .i64 v1,.int .i64 v2,.int .u64 v3]::Wv pb E.ES h r::[Old w]) w'-> ∃(S:HS) (um:Q9),Ag S no/\NQ S um/\NR S/\CK S.V.laid<=512*(i+1)/\Sat [Hu E q S um,Au E h S,Wv pb E.ES h r,Cells aS E.EU [.int .i64 v0,.int .i64 v1,.int .i64 v2,.int .u64 v3],Old w] w':=fun h'=>
    ⟨S,um,O,hU,hP,by omega,h'.perm (.cons _ (.cons _ (.swap _ _ _)))⟩
   refine BD ⟨g.sl,VZ Hr,AE (fun cK=>BD ⟨g.sl,VZ Hr.drew,v2,d.drew.cell rfl,BD ⟨g.sl,VZ Hr.drew,by omega,?_⟩⟩) fun _=>same ((d.front 1 rfl).front 3 rfl)⟩;have hb:=iJ v2;generalize E8 .i64 0 v2 255=kk at hb;have bB:0<=Int.tmod kk (g.sl.len:Int)/\Int.tmod kk (g.sl.len:Int)<(g.sl.len:Int):=by
    rw[Int.tmod_eq_emod_of_nonneg hb.1];exact⟨Int.emod_nonneg _ (by omega),Int.emod_lt_of_pos _ (by omega)⟩
   generalize Int.tmod kk (g.sl.len:Int)=k at bB;obtain⟨y,hy⟩: ∃y,g.L[k.toNat]? =some y:=⟨_,List.getElem?_eq_getElem (by omega)⟩;obtain⟨b,bA⟩:=(Hr.front 4 rfl).FF (by decide) CH (i:=k.toNat) (by omega);rw[bA];have cC:cI.drew.cell? ((Addr.mk b 0 none).add (Int.toNat k*2))=some (.int .i64 y.1):=by
    have:=(Hr.drew.front 4 rfl).B5 CH bA hy (j:=0) rfl;rwa[Nat.add_zero]at this
   refine BD ⟨bB,y.1,cC,?_⟩;refine Og hE (d.drew.front 1 rfl) O (fun hs=> ?_) (fun x Y hu=> ?_) fun x a Y hu ha aL dB b8=> ?_
   ·refine KG ((d.drew.front 1 rfl).front 3 rfl) O hk (fun _ a8 aG=>DE (fun c=>absurd rfl c) fun _=>same aG) (fun x Y=> ?_) fun x a Y=> ?_
    ·rw[hs]at Y;cases Y
    ·rw[hs]at Y;cases Y
   ·have hg:=(hU _ x Y).1;rw[hg.cnt]at hu;refine KG ((d.drew.front 1 rfl).front 3 rfl) O hk (fun hs=> ?_) (fun x' aA _ a8 aG=>DE (fun c=>absurd rfl c) fun _=>same aG) fun x' a aA bK=> ?_
    ·rw[Y]at hs;cases hs
    ·rw[Y]at aA;cases aA;omega
   ·have hg:=(hU _ x Y).1;rw[hg.cnt]at hu;refine KG (b8.front 3 rfl) O hk (fun hs=> ?_) (fun x' aA bK=> ?_) fun x' a' aA bK dD a8 aG=> ?_
    ·rw[Y]at hs;cases hs
    ·rw[Y]at aA;cases aA;omega
    ·rw[Y]at aA;cases aA;obtain rfl:a=a':=by omega
     exact DE (fun c=>absurd rfl c) fun _=>⟨_,um,aL,hU.free,hP,by show CK S.V.laid<=_;omega,aG.perm (.cons _ (.cons _ (.swap _ _ _)))⟩
  ·-- a step
   have aY:=(d.drew.front 1 rfl).DF 1 rfl;refine⟨v3,d.drew.cell rfl,v3,d.drew.cell rfl,TE hE aY O hN.1 fun S' m hs aW bY aE=>⟨(aE.front 2 rfl).cell rfl,?_⟩⟩;refine Ug (aE.front 3 rfl) O hk (by omega) hN.1 fun S3 m3 a0 b7 aT=> ?_;obtain⟨rfl,rfl⟩:=hs.uniq a0;have e:=hs.PK;exact DE (fun c=>absurd rfl c) fun _=>⟨S',um,aW,hU.PK e.1,by unfold NR;rw[e.2.2];exact hP,by rw[e.2.1];omega,aT⟩
  ·-- a limit
   have aY:=(d.drew.front 1 rfl).DF 1 rfl;refine⟨v3,d.drew.cell rfl,v3,d.drew.cell rfl,RH hE aY O hN.1 fun S' m hs aW bY aE=>⟨(aE.front 2 rfl).cell rfl,?_⟩⟩;refine TC (aE.front 3 rfl) O hk (by omega) hN.1 fun S3 m3 a0 b7 aT=> ?_;obtain⟨rfl,rfl⟩:=hs.uniq a0;have e:S'.sp=S.sp/\S'.V.laid=S.V.laid/\S'.V.pl=S.V.pl:=by
    rcases hs with ⟨_,rfl,_⟩|⟨_,hs⟩
    ·exact⟨rfl,rfl,rfl⟩
    ·exact hs.PK
   exact DE (fun c=>absurd rfl c) fun _=>⟨S',um,aW,hU.PK e.1,by unfold NR;rw[e.2.2];exact hP,by rw[e.2.1];omega,aT⟩
 clear d a7 hk hP hU O hB aN S um;rintro _ _ c3 ⟨S,um,O,hU,hP,hB,bI⟩;have hk:=(bI.front 1 rfl).BH;refine HE (bI.front 1 rfl) O fun c6 bW=>IW (bW.front 1 rfl) O hk fun c9 b9=> ?_;generalize cP S.T.Fb=CI;generalize cP S.gone=CG;refine Et (fun st w'=>st.1=false/\Sat [Au E h S,Wv pb E.ES h r,Hu E q S um,Old w] w') ?_ ?_
 ·refine NI ((b9.drew.front 1 rfl).DF 1 rfl) O fun dP cE=>O6 (cE.front 2 rfl) O hk fun dN bT=>DE (fun c=>absurd rfl c) fun _=>DE (fun c=>absurd rfl c) fun _=>DE (fun c=>absurd rfl c) fun _=>DE (fun c=>absurd rfl c) fun _=> ?_;obtain⟨g,hR,Hr⟩:=Sat.GS.1 bT;refine BD ⟨some ⟨g.m,0,none⟩,iG Hr,WO (Yl.1 Hr) fun m R Hm bm=>⟨iG Hr,?_⟩⟩;refine SF Hm fun cW a6=> ?_;have aR:=Yl.2 (bm a6);obtain⟨R2,bD,b2⟩:=O4 aR;refine⟨iG aR,Sv bD fun cJ bF=>⟨by simp[YV],?_⟩⟩;have aH:=Sat.GS.2 ⟨g,hR,b2 bF⟩;exact((aH.front 3 rfl).tail.front 2 rfl).front 2 rfl
 rintro⟨s,u⟩ _ c7 ⟨hs,b3⟩;dsimp only at hs⊢;subst hs;refine Ab rfl ?_;rw[AN (n:=(i:Int)+1)];exact⟨⟨i+1,S,um,by omega,by omega,O,hU,hP,by omega,b3⟩,by omega⟩
theorem NS{v j d a2:AZ}{r:Int}{z:Nat->NM IN}(O:GC E.AQ w)(h0: ∃z0,KY w (.int .u64) v z0)(h1: ∃T,KY w .bool j T)(C: ∃Y,KY w (.int .u64) d Y)(J:KY w IN a2 z)
  {K:Bool->World->Prop}(N: ∀w',Ext AK w w'->K true w'):F.BO E v j d r a2 K w:=
 let⟨_,h0⟩:=h0;let⟨_,h1⟩:=h1;let⟨_,C⟩:=C;O7 hE O h0 h1 C J N
end
end Go.Sh
namespace Go.Proofs.YtbkjmfgdoceogaaGreatDoor.scavPlays
open Go.ChangeShapes Go.WideShapes Go.ChangeAt Go.RowKit
set_option linter.unusedVariables false
set_option linter.unusedSimpArgs false
theorem own:ownKnob Tryz.prog.godebug=none:=by kernel_rfl
theorem laidOut:laidOutB Tryz.prog=true:=by kernel_rfl
theorem gTab:Tryz.prog.globalNamed "math/bits.deBruijn64tab" =some 1:=by kernel_rfl
theorem gTabType:(Tryz.prog.globals[1]?).map (·.type)=some 224:=by kernel_rfl
theorem und1:Tryz.prog.underlying 224=some (.array 64 5):=by kernel_rfl
theorem und2:Tryz.prog.underlying 5=some (.int .u8):=by kernel_rfl
theorem cells1:Tryz.prog.cellsOf 224=64:=by kernel_rfl
theorem cells2:Tryz.prog.cellsOf 5=1:=by kernel_rfl
theorem table{W:World}(h:laidMetH Tryz.prog Rows.scavPlaysRow.laid W):Go.Sh.GC Go.Sh.env.AQ W:=by
 have d:=Lib.tabIs_of_head (rest:=[]) (k:=.u8) (zs:=Lib.deBruijn64tab.map fun n:Nat=>(n:Int)) gTab gTabType und1 und2 cells2 cells1 h;intro i j;have:=d.cell gTab i (by rw[List.length_map];exact j);rw[show(Lib.deBruijn64tab.map fun n:Nat=>(n:Int)).getD i 0=((Lib.deBruijn64tab.getD i 0:Nat):Int) by rw[List.getD_eq_getElem?_getD,List.getD_eq_getElem?_getD,List.getElem?_map];cases Lib.deBruijn64tab[i]? <;>rfl]at this;exact this
theorem walk(x:Go.Sh.Rl [.cons (.sl (.int .u64)) (.cons (.sl (.bool)) (.cons (.sl (.int .u64)) (.nil))),.int .u64,.sl (.cons (.int .i64) (.cons (.int .i64) (.cons (.int .i64) (.cons (.int .u64) (.nil)))))])(w:World)(h:Go.Sh.TU w [.cons (.sl (.int .u64)) (.cons (.sl (.bool)) (.cons (.sl (.int .u64)) (.nil))),.int .u64,.sl (.cons (.int .i64) (.cons (.int .i64) (.cons (.int .i64) (.cons (.int .u64) (.nil)))))] x)(j:Go.Sh.GC Go.Sh.env.AQ w):
  Calls Tryz.prog 3 ⟨Go.Sh.NY [.cons (.sl (.int .u64)) (.cons (.sl (.bool)) (.cons (.sl (.int .u64)) (.nil))),.int .u64,.sl (.cons (.int .i64) (.cons (.int .i64) (.cons (.int .i64) (.cons (.int .u64) (.nil)))))] x⟩ w fun e w'=>e= .returned (.bool true)/\Below w.heap.size w w':=by
 obtain⟨a0,a1,a2,u⟩:=x;obtain⟨w0,w1,d,_⟩:=h;obtain⟨C,d⟩:=d;refine(Go.Sh.lK _ w (fun v w'=>v= .bool true/\Below w.heap.size w w') Go.Sh.Ns ?_).2.mono ?_
 ·show Go.Sh.F.BO Go.Sh.env a0.1 a0.2.1 a0.2.2.1 a1 a2 (fun r w'=>Value.bool r= .bool true/\Below w.heap.size w w') w;exact Go.Sh.NS Go.Sh.sA j w0.1 w0.2.1 w0.2.2.1 d fun w' h=>⟨rfl,h.below (Nat.le_refl _) fun _ f=>f.elim⟩
 ·intro e w' hE;obtain⟨v,rfl,rfl,h⟩:=hE.val;exact⟨rfl,h⟩
noncomputable def laidWorld(os:Os):World:=
 {World.holding Tryz.prog os ⟨#[],#[],[]⟩with heap:=(World.holding Tryz.prog os ⟨#[],#[],[]⟩).heap.modify 1 fun
   | .cells _ t frozen=>.cells ⟨Lib.deBruijn64tab.map fun n:Nat=>.int .u8 (n:Int)⟩ t frozen
   | o=>o}
theorem laid_met(os:Os):laidMet Tryz.prog Rows.scavPlaysRow.laid ((laidWorld os).forCall (fun _ _=>0) ⟨#[],#[.agg #[.slice none 0 0,.slice none 0 0,.slice none 0 0],.int .u64 0,.slice none 0 0],[]⟩).memory:=
 laidMet_of_run' 8 (by kernel_rfl) (by kernel_rfl)
theorem reads(os:Os){H:Type}(enc:TypeId×Value->H): ∃places,DataW.whole enc Tryz.prog ((laidWorld os).forCall (fun _ _=>0) ⟨#[],#[.agg #[.slice none 0 0,.slice none 0 0,.slice none 0 0],.int .u64 0,.slice none 0 0],[]⟩).memory Tryz.f3.params.toList Rows.scavPlaysSpec.vars false (#[.agg #[.slice none 0 0,.slice none 0 0,.slice none 0 0],.int .u64 0,.slice none 0 0]:Array Value).toList 8=some ([.agg [.nil,.nil,.nil],.lit (.int .u64 0),.nil],[],places):=
 ⟨[],by kernel_rfl⟩
set_option maxRecDepth 100000 in
theorem lifted(os:Os)(started:os.Started)(H:Type)(enc:TypeId×Value->H)(F:Stop.Interp):
  ReturnsInHanded {} Tryz.checked os 3 .any ((OpenSpec.ofChange Rows.scavPlaysSpec).preRow enc Tryz.prog Tryz.f3 Rows.scavPlaysRow.domain false Rows.scavPlaysRow.laid) (((OpenSpec.ofChange Rows.scavPlaysSpec).at F).post enc Tryz.prog Tryz.f3 false true false false):=by
 obtain⟨places,T⟩:=reads os enc;refine returnsInHanded_of_row (C:=Tryz.checked) (s:=OpenSpec.ofChange Rows.scavPlaysSpec) own started (by kernel_rfl) Tryz.func3
  (witness_row_at (enc:=enc) (C:=Tryz.checked) false (laidWorld os) #[.agg #[.slice none 0 0,.slice none 0 0,.slice none 0 0],.int .u64 0,.slice none 0 0] rfl (by kernel_rfl) (by kernel_rfl) (by kernel_rfl)
   (OpenSpec.preRow_of_cond 8 T (by kernel_rfl) (fun k hk=>by cases hk) (by kernel_rfl) (laid_met os))) ?_
 intro W base args K gs before J Y _ _ _ hL _ _;have N:=Y;obtain⟨p,q,O,hV,rfl,aA,aE⟩:=Y;obtain⟨rfl,rfl⟩:=trodVars_none hV;have d:=Go.Sh.Un (P:=Tryz.prog) (shs:=[.cons (.sl (.int .u64)) (.cons (.sl (.bool)) (.cons (.sl (.int .u64)) (.nil))),.int .u64,.sl (.cons (.int .i64) (.cons (.int .i64) (.cons (.int .i64) (.cons (.int .u64) (.nil)))))]) (by kernel_rfl) (fun j t v ht hv=>J j t v (by simpa using ht) (by simpa using hv)) O;obtain⟨x,T,BH⟩:=Go.Sh.OB d;obtain rfl:args=⟨Go.Sh.NY [.cons (.sl (.int .u64)) (.cons (.sl (.bool)) (.cons (.sl (.int .u64)) (.nil))),.int .u64,.sl (.cons (.int .i64) (.cons (.int .i64) (.cons (.int .i64) (.cons (.int .u64) (.nil)))))] x⟩:=Array.toList_inj.1 (by simpa using T);have hlen:=Go.Sh.Mn O;obtain⟨d0,d1,d2,rfl⟩: ∃d0 d1 d2,K=[d0,d1,d2]:=by
  have hl:K.length=3:=hlen
  match K,hl with
  | [d0,d1,d2],_=>exact⟨d0,d1,d2,rfl⟩
 refine(walk x W BH (table hL)).mono fun e W' ⟨he,bel⟩=> ?_;subst he;exact⟨_,rfl,_,_,_,[],_,[],N,trodAll_mk1 (shut_bool Tryz.underlying4 _),Go.Sh.Kg laidOut bel (by kernel_rfl) O,rfl,bel.frame _,fun h=>by cases h⟩
theorem said:Rows.ScavPlaysSaid:=
 OpenClaim.holds_of_cond 3 Tryz.f3 rfl rfl rfl rfl rfl rfl rfl ⟨rfl,rfl,rfl,rfl,rfl⟩ rfl rfl rfl rfl rfl (by kernel_rfl) Tryz.func3 (by kernel_rfl)
  (of_decide_eq_true (by kernel_rfl)) (by unfold Func.isWrapper;first|(rw[if_pos (by decide+kernel)];kernel_rfl)|(rw[if_neg (by decide+kernel)];exact⟨rfl,rfl⟩))
  (fun os started H enc _ F=>by rw[OpenClaim.pre_eq_preRow];exact lifted os started H enc F)
theorem plain(f:FuncId)(fn:Func)(hf:Tryz.pinned.checked.prog.funcNamed "mallow/mallowlaw22.ScavPlays" =some f)(v:Tryz.pinned.checked.prog.funcs[f]? =some fn):
  false=Tryz.pinned.checked.prog.looks []/\ ∀(j:Nat) t,fn.params[j]? =some t->Tryz.pinned.checked.prog.wantsStandIn t=false:=by
 obtain rfl:f=3:=Option.some.inj ((show Tryz.prog.funcNamed "mallow/mallowlaw22.ScavPlays" =some 3 by kernel_rfl).symm.trans hf)|>.symm;obtain rfl:fn=Tryz.f3:=(Option.some.inj (Tryz.func3.symm.trans v)).symm;refine⟨by kernel_rfl,fun j t C=> ?_⟩;have d:(Tryz.f3.params.toList.all fun t=> !(Tryz.prog.wantsStandIn t))=true:=by kernel_rfl
 have:=List.all_eq_true.1 d t (Array.mem_toList_iff.2 (Array.mem_of_getElem? C));exact Bool.not_eq_true' _▸this
theorem proved:Rows.ScavPlaysCardSaid:=
 Claim7.holds_tied_plain_at .later [] _ _ _ _ said (fun _ h=>by cases h) (by kernel_rfl) (fun _ h=>by cases h) scavPlays_row_tie rfl ⟨rfl,rfl⟩ (by kernel_rfl) rfl plain (by kernel_rfl)
#print axioms proved
end Go.Proofs.YtbkjmfgdoceogaaGreatDoor.scavPlays

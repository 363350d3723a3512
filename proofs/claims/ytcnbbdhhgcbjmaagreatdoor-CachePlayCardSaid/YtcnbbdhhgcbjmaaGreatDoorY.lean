/- The address space does what its pages and words say. No further condition. -/
import Derived.Test.YtcnbbdhhgcbjmaaGreatDoorS
import Derived.Test.YtcnbbdhhgcbjmaaGreatDoorA
import Derived.Test.YtcnbbdhhgcbjmaaGreatDoorM
import Derived.Test.YtcnbbdhhgcbjmaaGreatDoorW
set_option linter.all false
set_option maxRecDepth 50000
set_option maxHeartbeats 4000000
namespace Go.Sh
structure VS where
  laid:Iv
  ready:Iv
  rel:Iv
  wd:Int->Int->Int
  pl:List Int
  rf:List Bool
  fl:List Int
structure VG where
  sp:Ac
  sr:Ac
  sf:Ac
  s1:Ac
  s2:Ac
  s3:Ac
  fb:Nat
  pb:Nat
  G:Pgs
  f:Int->Option Int
def GJ(s:Ac):Value:=.slice s.base s.len s.cap
def qB(V:VS)(g:VG):List Value:=
  [GJ g.sp,GJ g.sr,GJ g.sf,GJ g.s1,.int .u64 (HE V.laid),GJ g.s2,.int .u64 (HE V.ready),GJ g.s3,.int .u64 (HE V.rel),.map (some g.fb),.map (some g.pb)]
def Zt(g:VG):Int->Option Value:=λp=>(g.f p).map λn=>.int .u64 n
def pageM(g:VG):Int->Option Value:=λp=>(g.G p).map λx=>.pointer (some ⟨x.1,0,none⟩)
def JA(E:Env)(b:Nat)(V:VS)(g:VG):List Pr:=
  [Cells b 0 (qB V g),Nb E g.s1 V.laid,Nb E g.s2 V.ready,Nb E g.s3 V.rel,K3 g.sp (ints .u64 V.pl),K3 g.sr (BA V.rf),K3 g.sf (ints .u64 V.fl),
   EJ g.fb .u64 (Zt g),EJ g.pb .u64 (pageM g),eC 1024 g.G]
def wordOf(g:VG)(p i:Int):Int:=match g.G p with
  | some x=>x.2 i
  | none=>(g.f p).getD 0
structure vP(V:VS)(g:VG):Prop where
  wd: ∀p i,0<=i->i<1024->V.wd p i=wordOf g p i
  pg: ∀p,g.G p≠none->mem V.ready p
  fi: ∀p,g.f p≠none->mem V.ready p
  rl: ∀p,mem V.ready p->mem V.laid p
  el: ∀p,mem V.rel p->mem V.laid p
  re: ∀p,mem V.ready p-> ¬mem V.rel p
  Kl: ∀p,mem V.laid p->512<=p/\p<34359738368
  jE: ∀x∈V.pl,0<=x/\x<18446744073709551616
def DT(E:Env)(b:Nat)(V:VS):Pr:=Ex λg=>Kk (vP V g) (NR (JA E b V g))
section
variable{E:Env}{b:Nat}{V:VS}{Rs:List Pr}{w:World}
def Sat.TX:Sat (DT E b V::Rs) w↔ ∃g,vP V g/\Sat (JA E b V g++Rs) w:=by
  unfold DT;rw[Sat.ex];constructor
  . rintro⟨g,h⟩;obtain⟨h1,h2⟩:=Sat.where.1 h;exact⟨g,h1,Sat.star.1 h2⟩
  . rintro⟨g,h1,h2⟩;exact⟨g,Sat.where.2 ⟨h1,Sat.star.2 h2⟩⟩
def Uw{g:VG}(H:Sat (JA E b V g++Rs) w):Ok V.laid/\Ok V.ready/\Ok V.rel:=
  ⟨(Nb.ok (H.front 1 rfl)).1,(Nb.ok (H.front 2 rfl)).1,(Nb.ok (H.front 3 rfl)).1⟩
def Wt{g:VG}(H:Sat (JA E b V g++Rs) w){K:Bool->Bool->World->Prop}(h0:V.rf=[]->K false false w)
    (h1: ∀x r,V.rf=x::r-> ∀w',Sat (JA E b {V with rf:=r} {g with sr:=⟨HU g.sr.base g.sr.cap 1 1,g.sr.len-1,g.sr.cap-1⟩}++Rs) w'->K x true w'):
    F.IA E (some ⟨b,1,none⟩) K w:=by
  unfold F.IA;have J:=(H.front 5 rfl).NV;have c:=H.Aa (o:=1) rfl;simp only[AH];refine⟨g.sr,c,AB (λaB=> ?_) λaA=>h0 ?_⟩
  . cases hr:V.rf with
    | nil=>have:=J.1;rw[hr]at this;simp[BA]at this;omega
    | cons x r=>
      obtain⟨a,T,Y⟩:=(H.front 5 rfl).Oe (j:=0) (v:=.bool x) (by rw[hr];rfl);refine⟨g.sr,c,?_⟩;rw[T];refine⟨⟨by decide,by omega⟩,x,Y,g.sr,c,⟨by decide,by omega⟩,?_⟩;have y:=Sat.back 5 ((H.front 5 rfl).Of (n:=1) (by omega)) (by simp[JA]);rw[hr]at y;exact DZ y rfl (by simp[qB]) λw' O=>h1 x r hr w' O
  . have:=J.1;have:(BA V.rf).length=0:=by omega
    simpa[BA]using this
def Zu{o:Nat}{s:Ac}{l:List Int}{rest:List Pr}{vs:List Value}(H:Sat (Cells b 0 vs::K3 s (ints .u64 l)::rest) w)(J:vs[o]? =some (GJ s)){K:Int->Bool->World->Prop}
    (h0:l=[]->K 0 false w)
    (h1: ∀x r,l=x::r-> ∀w',Sat (Cells b 0 (vs.set o (GJ ⟨HU s.base s.cap 1 1,s.len-1,s.cap-1⟩))::K3 ⟨HU s.base s.cap 1 1,s.len-1,s.cap-1⟩ (ints .u64 r)::rest) w'->K x true w'):
    F.E0 E (some ⟨b,o,none⟩) K w:=by
  unfold F.E0;have hl:=(H.front 1 rfl).NV;have c:=H.Aa J;simp only[AH];refine⟨s,c,AB (λaC=> ?_) λaA=>h0 ?_⟩
  . cases hr:l with
    | nil=>have:=hl.1;rw[hr]at this;simp[ints]at this;omega
    | cons x r=>
      obtain⟨a,T,Y⟩:=(H.front 1 rfl).Oe (j:=0) (v:=.int .u64 x) (by rw[hr];rfl);refine⟨s,c,?_⟩;rw[T];refine⟨⟨by decide,by omega⟩,x,Y,s,c,⟨by decide,by omega⟩,?_⟩;have y:=Sat.Wm 0 (((H.front 1 rfl).Of (n:=1) (by omega)).perm (.swap _ _ _)) (by simp);rw[hr]at y;exact DZ y rfl (List.getElem?_eq_some_iff.1 J).1 λw' O=>h1 x r hr w' O
  . have:(ints .u64 l).length=0:=by omega
    simpa[ints]using this
def Sr(l:Iv)(page AA:Int):Prop:=page %512=0/\page≠0/\page+AA<=34359738368/\cnt l page (page+AA)=0
structure Mk(l:Iv)(frm AA at_:Int):Prop where
  mul:at_ %512=0
  low:512<=at_
  fr:frm<=at_
  free: ∀m,at_<=m->m<at_+AA-> ¬mem l m
  first: ∀a,a %512=0->512<=a->frm<=a->a<at_-> ∃m,a<=m/\m<a+AA/\mem l m
variable(hE:EnvS E)
include hE
theorem Wu{g:VG}(H:Sat (JA E b V g++Rs) w){page AA:Int}(h0:0<=page)(h1:page<18446744073709551616)(T:0<=AA)(Y:AA<=134217728){K:Bool->World->Prop}
    (j: ∀r w',(r=true↔Sr V.laid page AA)->Ext AR w w'->K r w'):F.En E (some ⟨b,0,none⟩) page AA K w:=by
  unfold F.En T0.En;have v:=Ext.refl AR w;have hm:Int.tmod page 512=page %512:=Int.tmod_eq_emod_of_nonneg h0;rw[hm];refine⟨by decide,BI (λm0=>Ca (λz=>AB (λhle=> ?_) λy=> ?_) λz=> ?_) λm0=> ?_⟩
  . rw[AI (n:=34359738368-page)];refine AB (λO=> ?_) λy=> ?_
    . rw[AI (n:=page+AA)];simp only[AH,add_eq,Nat.zero_add];refine Uq hE H (o:=3) rfl rfl h0 (by omega) (by omega) λw' J=>j _ w' ?_ J;unfold Sr
      grind
    . refine j false w ⟨λh=>(by cases h),λh=> ?_⟩ v;have:=h.2.2.1;omega
  . refine j false w ⟨λh=>(by cases h),λh=> ?_⟩ v;have:=h.2.2.1;omega
  . exact j false w ⟨λh=>(by cases h),λh=>absurd z h.2.1⟩ v
  . exact j false w ⟨λh=>(by cases h),λh=>absurd h.1 m0⟩ v
theorem eW{g:VG}(hI:vP V g)(H:Sat (JA E b V g++Rs) w){J AA:Int}(h0:0<=J)(h1:J<18446744073709551616)(p0:0<AA)(p1:AA<=134217728){K:Int->Bool->World->Prop}
    (aX:34359738368<J->K 0 false w)
    (aY:J<=34359738368-> ∀at_ r w',Mk V.laid J AA at_->at_<=34359738880->(r=true↔at_+AA<=34359738368)->Ext AR w w'->K at_ r w'):
    F.EN E (some ⟨b,0,none⟩) J AA K w:=by
  unfold F.EN T0.EN;refine AB aX λhle=>⟨by decide,Am λbC aN=> ?_⟩;have aP: ∀n:Int,0<=n->n<=34359738368->u64 (u64 (Int.tdiv (u64 (u64 (n+512)-1)) 512)*512)=(n+511)/512*512:=by
    intro n h0 h1;rw[AI (n:=n+512),AI (n:=n+512-1),Int.tdiv_eq_ediv_of_nonneg (by omega),AI (n:=(n+512-1)/512),AI];omega
  rw[aP J h0 (by omega),Tk]at aN;simp only[AH,add_eq,Nat.zero_add];have hr:=(H.setAt (o:=3) rfl rfl).row;have hlen:=hr.len;have hsm:=hr.small;have a6:Pb=4398046511104:=rfl;refine Aj (λst w'=>Ext AR w w'/\Mk V.laid J AA st.1/\st.1<=34359738880) ?_ ?_
  . unfold F.Hy;simp only[AH];refine⟨g.s1,hr.c0,AJ (λst w'=> ∃k:Nat,st.2.1=(k:Int)/\k<=V.laid.length/\Ext AR w w'/\st.1 %512=0/\512<=st.1/\J<=st.1/\st.1<=34359738880/\(∀q∈V.laid.take k,q.2<=st.1)/\
      ∀a,a %512=0->512<=a->J<=a->a<st.1-> ∃m,a<=m/\m<a+AA/\mem V.laid m) (λst _=>(V.laid.length-st.2.1).toNat)
      ⟨0,rfl,Nat.zero_le _,Ext.refl _ _,by omega,by omega,by simp only;omega,by omega,by simp,λa h1 h2 h3 h4=>by omega⟩ ?_⟩
    rintro⟨at_,i',v⟩ _ w9 ⟨k,hk,bI,aE,m0,m1,m2,m3,T,y⟩;simp only at hk m0 m1 m2 m3 T y⊢;subst hk;refine AB (λbJ=> ?_) λbF=>⟨aE,⟨m0,m1,m2,λm h1 h2 hm=> ?_,y⟩,m3⟩
    . have aJ:k<V.laid.length:=by omega
      obtain⟨q,hq⟩: ∃q,V.laid[k]? =some q:=⟨_,List.getElem?_eq_getElem aJ⟩;obtain⟨g1,g2⟩:=On V.laid k q hq;have bL:=hr.ok.get hq;have bM:=hI.Kl (q.2-1) ⟨q,List.mem_of_getElem? hq,by omega,by omega⟩;have aC:=(hr.own.ext aE λb hb f=>f);obtain⟨bb,hb⟩:=aC.Gf (by omega);rw[hb];simp only[AH,add_eq,Nat.zero_add,Int.toNat_natCast,Nat.add_zero];have c1:=aC.cell hb g1;have c2:=aC.cell hb g2;rw[add_eq,Nat.zero_add]at c1 c2;refine⟨⟨by omega,by omega⟩,q.1,c1,q.2,c2,?_⟩;refine AQ (Sat.start w9) λaM bO aV a7=>Gm aV (by rfl) (by simp[Value.oneCell']) λaL Y=> ?_;have aH:Ext AR w aL:=aE.trans' (Y.PG 1 rfl);have ei:i64 ((k:Int)+1)=((k+1:Nat):Int):=by rw[AM];omega
      have aD: ∀x,q.2<=x->(∀p∈V.laid.take k,p.2<=x)-> ∀p∈V.laid.take (k+1),p.2<=x:=by
        intro x h1 h2 p hp;rw[List.take_succ_eq_append_getElem aJ,List.mem_append,List.mem_singleton]at hp;rcases hp with hp|rfl
        . exact h2 p hp
        . have:V.laid[k]=q:=by rw[List.getElem?_eq_getElem aJ]at hq;exact Option.some.inj hq
          grind
      refine⟨q.2,Y.Aa rfl,AB (λhle=>⟨⟨k+1,ei,by omega,aH,m0,m1,m2,m3,aD _ hle T,y⟩,by omega⟩) λbG=> ?_⟩;have aB: ∀w',Sat [Cells aM E.AE [.int .u64 q.1,.int .u64 q.2],Old w9] w'-> ¬(at_<=q.1/\AA<=q.1-at_)-> ∀(nx:Int->Prop),
          (∀a,(a %512=0/\512<=a/\J<=a/\a<=34359738880/\(∀p∈V.laid.take (k+1),p.2<=a)/\(∀a',a' %512=0->512<=a'->J<=a'->a'<a-> ∃m,a'<=m/\m<a'+AA/\mem V.laid m))->Ext AR w w'->nx a)->
          ∃aR:Int,w'.cell? ⟨aM,1,none⟩=some (.int .u64 aR)/\512≠(0:Int)/\Kj (u64 ((u64 (Int.tdiv (u64 ((u64 (aR+512))-1)) 512))*512):Int) λaI=>nx aI:=by
        intro w' H' bK nx aZ;refine⟨q.2,H'.Aa rfl,by decide,Am λa ha=> ?_⟩;rw[aP q.2 (by omega) (by omega)]at ha;refine aZ a ⟨by omega,by omega,by omega,by omega,aD a (by omega) λp hp=>by have:=T p hp;omega,λa' b1 b2 b3 b4=> ?_⟩ (aE.trans' (H'.PG 1 rfl));by_cases e:a'<at_
        . exact y a' b1 b2 b3 e
        . by_cases e2:q.1<=a'
          . exact⟨a',by omega,by omega,q,List.mem_of_getElem? hq,e2,by omega⟩
          . exact⟨q.1,by omega,by omega,q,List.mem_of_getElem? hq,by omega,by omega⟩
      refine AU ⟨q.1,Y.Aa rfl,AB (λa8=>⟨q.1,Y.Aa rfl,?_⟩) λaO j=>aB aL Y (λh=>aO h.1) _ λa h1 h2=> ?_⟩
      . rw[AI (n:=q.1-at_)];refine AB (λa9=>⟨aH,⟨m0,m1,m2,λm h1 h2 hm=> ?_,y⟩,m3⟩) λbA j=>aB aL Y (λh=>by omega) _ λa h1 h2=> ?_
        . obtain⟨p,hp,h3,h4⟩:=hm;obtain⟨i,hi⟩:=List.mem_iff_getElem?.1 hp;rcases Nat.lt_trichotomy i k with h|h|h
          . have:=T p (List.mem_of_getElem? (i:=i) (by grind));omega
          . grind
          . have:=hr.ok.lt h hq hi;omega
        . exact⟨⟨k+1,ei,by omega,h2,h1.1,h1.2.1,h1.2.2.1,h1.2.2.2.1,h1.2.2.2.2.1,h1.2.2.2.2.2⟩,by omega⟩
      . exact⟨⟨k+1,ei,by omega,h2,h1.1,h1.2.1,h1.2.2.1,h1.2.2.2.1,h1.2.2.2.2.1,h1.2.2.2.2.2⟩,by omega⟩
    . obtain⟨p,hp,h3,h4⟩:=hm
      grind
  . rintro⟨at_,v⟩ _ w4 ⟨aQ,O,aF⟩;simp only at O aF⊢;refine Wu hE (H.nothing aQ) (by have:=O.low;omega) (by omega) (by omega) p1 λr w' a0 a1=>aY (by omega) at_ r w' O aF ?_ (aQ.trans' a1);rw[a0];have:=O.mul;have:=O.low;constructor
    . intro h;exact h.2.2.1
    . intro h;exact⟨O.mul,by omega,h,(Di hr.ok (by omega)).2 O.free⟩
end
def X3(l:Iv)(hint AA at_:Int):Prop:=hint<=34359738368/\Mk l hint AA at_/\at_+AA<=34359738368
def Lc(l:Iv)(hint AA:Int):Prop:=34359738368<hint∨ ∃a,Mk l hint AA a/\ ¬a+AA<=34359738368
def QG(V:VS)(AA:Int):Prop:= ∀p r,V.pl=p::r-> ¬Sr V.laid p AA
def It(V:VS)(hint AA at_:Int):Prop:=
 (∃p r,V.pl=p::r/\Sr V.laid p AA/\at_=p)∨(QG V AA/\(X3 V.laid hint AA at_∨(Lc V.laid hint AA/\X3 V.laid 0 AA at_)))
def M5(V:VS)(hint AA:Int):Prop:=QG V AA/\Lc V.laid hint AA/\Lc V.laid 0 AA
def Mk.fits{l:Iv}(h:Ok l){hint AA at_:Int}(v:0<AA)(hp:Mk l hint AA at_)(j:at_+AA<=34359738368):Sr l at_ AA:=
 ⟨hp.mul,by have:=hp.low;omega,j,(Di h (by omega)).2 hp.free⟩
def It.fits{V:VS}(h:Ok V.laid){hint AA at_:Int}(j:0<AA)(v:It V hint AA at_):Sr V.laid at_ AA:=by
 rcases v with ⟨p,r,_,h1,rfl⟩|⟨_,⟨_,h1,h2⟩|⟨_,_,h1,h2⟩⟩
 .exact h1
 .exact h1.fits h j h2
 .exact h1.fits h j h2
section
variable{E:Env}{b:Nat}{V:VS}{Rs:List Pr}{w:World}(hE:EnvS E)
include hE
theorem X4(H:Sat (DT E b V::Rs) w){hint AA:Int}(h0:0<=hint)(h1:hint<18446744073709551616)(p0:0<=AA)(p1:AA<18446744073709551616){K:Int->Int->World->Prop}
  (aR:(AA=0∨AA %512≠0∨134217728<AA)->K 0 1 w)
  (bH: ¬(AA=0∨AA %512≠0∨134217728<AA)-> ∀r,V.rf=true::r-> ∀w',Sat (DT E b {V with rf:=r}::Rs) w'->K 0 13 w')
  (bI: ¬(AA=0∨AA %512≠0∨134217728<AA)->(∀r,V.rf≠true::r)->M5 V hint AA-> ∀w',Sat (DT E b {V with rf:=V.rf.tail,pl:=V.pl.tail}::Rs) w'->K 0 13 w')
  (bJ: ¬(AA=0∨AA %512≠0∨134217728<AA)->(∀r,V.rf≠true::r)-> ∀at_,It V hint AA at_-> ∀w',Sat (DT E b {V with rf:=V.rf.tail,pl:=V.pl.tail,laid:=D9 V.laid at_ (at_+AA)}::Rs) w'->K at_ 0 w'):
  F.Ef E (some ⟨b,0,none⟩) hint AA K w:=by
 unfold F.Ef T0.Ef;simp only[Nat.mul_one];rw[Int.tmod_eq_emod_of_nonneg p0];refine AU (BI (λe j=>AS rfl (aR (.inl e))) λn1=>⟨by decide,Ca (λe j=>AS rfl (aR (.inr (.inl e)))) λn2 j=>AB (λe=>aR (.inr (.inr e))) λn3=> ?_⟩);have aA: ¬(AA=0∨AA %512≠0∨134217728<AA):=by omega
 obtain⟨g,hI,H⟩:=Sat.TX.1 H;obtain⟨aM,bT,bU⟩:=Uw H;simp only[AH,add_eq,Nat.zero_add];have aD:(∀r,V.rf≠true::r)-> ∀(sr:Ac) (w7:World),Sat (JA E b {V with rf:=V.rf.tail} {g with sr:=sr}++Rs) w7->
   F.E0 E (some ⟨b,0,none⟩) (λr9 bP aH=>
    An (Bool×Unit) (λa1=>
     CND (bP) (
      F.En E (some ⟨b,0,none⟩) r9 AA (λbQ aV=>
      a1 (bQ,()) aV
      ) aH
     ) (
      a1 (false,()) aH
     )
    ) λMR _ aE=>
     AL (.cells ⟨[.int .u64 hint,.int .u64 0]⟩ E.AD) aE λY aI=>
     A9 (Int×Bool×Int×Unit) (r9,MR.1,0,()) aI λFN _ J y=>
      CND (decide ((FN.2.2.1:Int)<2)) (
       ((0:Int)<=FN.2.2.1/\(FN.2.2.1:Int)<(2:Nat))/\
       ∃aG:Int,J.cell? (Addr.mk Y (Int.toNat FN.2.2.1) none)=some (.int .u64 aG)/\
       CND (!FN.2.1) (
        F.EN E (some ⟨b,0,none⟩) aG AA (λaT aU aJ=>
        y (aT,aU,i64 (FN.2.2.1+1),()) aJ
        ) J
       ) (
        y (FN.1,FN.2.1,i64 (FN.2.2.1+1),()) J
       )
      ) (
       CND (!FN.2.1) (
        K 0 13 J
       ) (
        F.BT E (some ⟨b,3,none⟩) FN.1 (u64 (FN.1+AA)) (λaF=>
        K FN.1 0 aF
        ) J
       )
      )) w7:=by
  intro a5 sr w7 H7;have aB: ∀(sp:Ac) (pl:List Int) (aN:Int) (jF:Bool) (aE:World),pl=V.pl.tail->(jF=true->It V hint AA aN)->(jF=false->QG V AA)->
    Sat (JA E b {V with rf:=V.rf.tail,pl:=pl} {g with sr:=sr,sp:=sp}++Rs) aE->
    AL (.cells ⟨[.int .u64 hint,.int .u64 0]⟩ E.AD) aE λY aI=>
     A9 (Int×Bool×Int×Unit) (aN,jF,0,()) aI λFN _ J y=>
      CND (decide ((FN.2.2.1:Int)<2)) (
       ((0:Int)<=FN.2.2.1/\(FN.2.2.1:Int)<(2:Nat))/\
       ∃aG:Int,J.cell? (Addr.mk Y (Int.toNat FN.2.2.1) none)=some (.int .u64 aG)/\
       CND (!FN.2.1) (
        F.EN E (some ⟨b,0,none⟩) aG AA (λaT aU aJ=>
        y (aT,aU,i64 (FN.2.2.1+1),()) aJ
        ) J
       ) (
        y (FN.1,FN.2.1,i64 (FN.2.2.1+1),()) J
       )
      ) (
       CND (!FN.2.1) (
        K 0 13 J
       ) (
        F.BT E (some ⟨b,3,none⟩) FN.1 (u64 (FN.1+AA)) (λaF=>
        K FN.1 0 aF
        ) J
       )
      ):=by
   intro sp pl aN jF aE T bF bL bA;subst T;have aO:vP {V with rf:=V.rf.tail,pl:=V.pl.tail} {g with sr:=sr,sp:=sp}:=⟨hI.wd,hI.pg,hI.fi,hI.rl,hI.el,hI.re,hI.Kl,λx hx=>hI.jE x (List.mem_of_mem_tail hx)⟩;refine AQ bA λY aI bB _=> ?_;refine AJ (λst w'=>0<=st.2.2.1/\st.2.2.1<=2/\Sat (Cells Y E.AD [.int .u64 hint,.int .u64 0]::(JA E b {V with rf:=V.rf.tail,pl:=V.pl.tail} {g with sr:=sr,sp:=sp}++Rs)) w'/\
    (st.2.1=true->It V hint AA st.1)/\(st.2.1=false->QG V AA/\(1<=st.2.2.1->Lc V.laid hint AA)/\(2<=st.2.2.1->Lc V.laid 0 AA))) (λst _=>(2-st.2.2.1).toNat)
    ⟨Int.le_refl _,by grind,bB,bF,λh=>⟨bL h,λh=>by simp only at h;omega,λh=>by simp only at h;omega⟩⟩ ?_
   rintro⟨at_,ok,k,v⟩ _ J ⟨k0,k1,O,hc,hn⟩;simp only at k0 k1 O hc hn⊢;refine AB (λbZ=> ?_) λbY=> ?_
   .rw[AM (n:=k+1)];refine⟨⟨k0,by omega⟩,if k=0 then hint else 0,?_,?_⟩
    .by_cases e:k=0
     .subst e;exact O.Aa rfl
     .have:k=1:=by omega
      subst this;exact O.Aa rfl
    cases ok with
    | true=>exact AO rfl ⟨⟨by omega,by omega,O,hc,λh=>by cases h⟩,by omega⟩
    | false=>
     obtain⟨n1,n2,n3⟩:=hn rfl;have bM:0<=(if k=0 then hint else 0):=by omega
     have bN:(if k=0 then hint else 0)<18446744073709551616:=by omega
     have a4:Lc V.laid (if k=0 then hint else 0) AA->(1<=k+1->Lc V.laid hint AA)/\(2<=k+1->Lc V.laid 0 AA):=by grind
     refine AS rfl (eW hE aO O.tail bM bN (by omega) (by omega) (λbG=> ?_) λhle a r aJ T bX hr a7=> ?_)
     .exact⟨⟨by omega,by omega,O,λh=>(by cases h),λ_=>⟨n1,a4 (.inl bG)⟩⟩,by omega⟩
     .refine⟨⟨by omega,by omega,O.nothing a7,λh=> ?_,λh=>⟨n1,a4 (.inr ⟨a,T,λh2=> ?_⟩)⟩⟩,by omega⟩
      .have aK:=hr.1 h;refine .inr ⟨n1,?_⟩;by_cases e:k=0
       .rw[if_pos e]at T hle;exact .inl ⟨hle,T,aK⟩
       .rw[if_neg e]at T hle;exact .inr ⟨n2 (by omega),hle,T,aK⟩
      grind
   .have a3:k=2:=by omega
    subst a3;cases ok with
    | false=>
     obtain⟨n1,n2,n3⟩:=hn rfl;exact AS rfl (bI aA a5 ⟨n1,n2 (by decide),n3 (by decide)⟩ J (Sat.TX.2 ⟨_,aO,O.tail⟩))
    | true=>
     have aP:=hc rfl;have aQ:=aP.fits aM (by omega);have hmul:=aQ.1;have b0:=aQ.2.1;have aL:0<=at_:=by
      rcases aP with ⟨p,r,h1,_,h2⟩|⟨_,⟨_,h1,_⟩|⟨_,_,h1,_⟩⟩
      .rw[h2];exact(hI.jE p (by rw[h1];simp)).1
      .have:=h1.low;omega
      .have:=h1.low;omega
     have bR:=aQ.2.2.1;have bS:Pb=4398046511104:=rfl;rw[AI (n:=at_+AA)];refine AO rfl (pI hE O.tail (o:=3) rfl rfl aL (by omega) (by omega) λaF s' bC=>bJ aA a5 at_ aP aF (Sat.TX.2 ⟨{g with sr:=sr,sp:=sp,s1:=s'},?_,bC⟩));have hm: ∀p,mem (D9 V.laid at_ (at_+AA)) p↔mem V.laid p∨(at_<=p/\p<at_+AA):=λp=>Eo aM (by omega) aL (by omega) p;refine⟨hI.wd,hI.pg,hI.fi,λp hp=>(hm p).2 (.inl (hI.rl p hp)),λp hp=>(hm p).2 (.inl (hI.el p hp)),hI.re,λp hp=> ?_,aO.jE⟩;rcases(hm p).1 hp with h|h
     .exact hI.Kl p h
     .omega
  refine Zu (o:=0) (H7.FP 3 rfl) rfl (λaC=> ?_) λx r hx aH a9=> ?_
  .refine AU (AO rfl λj=>aB g.sp V.pl 0 false w7 ?_ (λh=>by cases h) (λ_ p r h=> ?_) H7)
   .grind
   grind
  .have aS:V.pl=x::r:=hx;have aZ:Sat (JA E b {V with rf:=V.rf.tail,pl:=r} {g with sr:=sr,sp:=⟨HU g.sp.base g.sp.cap 1 1,g.sp.len-1,g.sp.cap-1⟩}++Rs) aH:=Sat.Wm 3 a9 (by simp[JA]);obtain⟨x0,x1⟩:=hI.jE x (by rw[aS];simp);refine AU (AS rfl (Wu hE aZ x0 x1 (by omega) (by omega) λbD aV a2 a6 j=>aB _ r x bD aV (by rw[aS];rfl) (λh=>.inl ⟨x,r,aS,a2.1 h,rfl⟩) (λh p r' hp hf=> ?_) (aZ.nothing a6)))
   grind
 refine Wt H (λaC=>AO rfl (aD (λr h=>by grind) g.sr w ?_)) λx r hx w7 H7=> ?_
 .rw[aC];have:{V with rf:=[]}=V:=by rw[<-aC]
  show Sat (JA E b {V with rf:=[]} {g with sr:=g.sr}++Rs) w;rw[this];exact H
 .refine AP (λe=>bH aA r (by rw[hx,e]) w7 (Sat.TX.2 ⟨{g with sr:=⟨HU g.sr.base g.sr.cap 1 1,g.sr.len-1,g.sr.cap-1⟩},⟨hI.wd,hI.pg,hI.fi,hI.rl,hI.el,hI.re,hI.Kl,hI.jE⟩,H7⟩)) λe=>aD (λr' h=> ?_) ⟨HU g.sr.base g.sr.cap 1 1,g.sr.len-1,g.sr.cap-1⟩ w7 ?_
  .grind
  .rw[hx];exact H7
end
def Zv{p:Int×Int}{a b n:Int}:mem (LC p a b) n↔(p.1<=n/\n<p.2)/\a<=n/\n<b:=by
 unfold LC;split
 .constructor
  .intro h;exact absurd h (Bq n)
  omega
 .rw[mem_cons];constructor
  .rintro(h|h)
   .omega
   .exact absurd h (Bq n)
  omega
def Ov{l:Iv}{a b n:Int}:mem (withinL l a b) n↔mem l n/\a<=n/\n<b:=by
 induction l with
 | nil=>exact⟨λh=>absurd h (Bq n),λh=>absurd h.1 (Bq n)⟩
 | cons p r ih=>
  rw[withinL,mem_append,Zv,ih,mem_cons]
  grind
def Ux{l:Iv}(h:Ok l){a b:Int}(v:a<b):Ok (withinL l a b):=by
 induction l with
 | nil=>exact trivial
 | cons p r ih=>
  rw[withinL,GR];refine⟨?_,ih h.tail,?_⟩
  .unfold LC;split
   .exact trivial
   .have:=h.1;have:=h.2.1;have:=h.2.2.1;exact⟨by omega,by omega,by omega,by simp,trivial⟩
  .intro q J y j;obtain⟨h1,h2,K⟩:=QD h.tail v y j;have hm:mem r y.1:=(Ov.1 ⟨y,j,Int.le_refl _,h2⟩).1;obtain⟨z,hz,O,T⟩:=hm;have:=h.2.2.2.1 z hz;unfold LC at J
   grind
def N8(l:Iv)(n:Int):Bool:=l.any λq=>decide (q.1<=n/\n<q.2)
def Bh{l:Iv}{n:Int}:N8 l n=true↔mem l n:=by
 unfold N8 mem
 grind
section
variable{E:Env}{b:Nat}{V:VS}{Rs:List Pr}{w:World}
def eX{page AA:Int}(h0:0<=page)(y:0<=AA)(J:AA<18446744073709551616){K:Bool->World->Prop}(j:K (decide (AA≠0/\page+AA<=34359738368)) w):F.Na E page AA K w:=by
 unfold F.Na;refine Ca (λz=>AB (λhle=> ?_) λv=> ?_) λz=> ?_
 .rw[AI (n:=34359738368-page)];rwa[show decide (AA<=34359738368-page)=decide (AA≠0/\page+AA<=34359738368)from decide_eq_decide.2 (by omega)]
 .rwa[show decide (AA≠0/\page+AA<=34359738368)=false from decide_eq_false (by omega)]at j
 .rwa[show decide (AA≠0/\page+AA<=34359738368)=false from decide_eq_false (by omega)]at j
variable(hE:EnvS E)
include hE
theorem Wv{t o:Nat}{vs:List Value}{s:Ac}{l:Iv}{rest:List Pr}(H:Sat (Cells b t vs::Nb E s l::rest) w)(h0:vs[o]? =some (.slice s.base s.len s.cap))(h1:vs[o+1]? =some (.int .u64 (HE l)))
  {x y:Int}(J:0<=x)(T:y<18446744073709551616){K:Ac->World->Prop}
  (O: ∀s' w',Sat (Row E.AE 2 s' (flat (withinL l x y))::Cells b t vs::Nb E s l::rest) w'->Ext AR w w'->K s' w'):F.B5 E (some ⟨b,o,none⟩) x y K w:=by
 refine Zn hE (H.setAt h0 h1).row J T λs' w' j v=>O s' w' ?_ v;exact H.new (P:=Row E.AE 2 s' (flat (withinL l x y))) (D:=Qm s') v ⟨λ_=>Iff.rfl,j.lower (Nat.zero_le _)⟩ λk hk=>by
  obtain⟨a,J,rfl⟩:=hk;exact(j.lt J).1
end
section
variable{E:Env}{b:Nat}{V:VS}{Rs:List Pr}{w:World}
end
def IN(V:VS)(page p:Int):Int:=V.fl.getD (cnt V.rel page p).toNat 0
def JB(V:VS)(page AA:Int):VS:=
 {V with rf:=V.rf.tail,ready:=D9 V.ready page (page+AA),rel:=EI V.rel page (page+AA),fl:=V.fl.drop (cnt V.rel page (page+AA)).toNat,wd:=λp i=>if page<=p/\p<page+AA/\N8 V.rel p=true then IN V page p else V.wd p i}
def Jl(page AA:Int):Prop:=AA≠0/\page+AA<=34359738368
def Zw{l:Iv}(h:Ok l){a x y:Int}(h1:a<=x)(h2:x<=y)(j: ∀n,x<=n->n<y-> ¬mem l n):cnt l a y=cnt l a x:=by
 rw[MO (Ok.dY h) h1 h2,(Di h h2).2 j];omega
def Sat.QH{P:Pr}{w:World}(j:List Pr){T:List Pr}(H:Sat (P::(j++T)) w):Sat (j++P::T) w:=H.perm List.perm_middle.symm
def Sat.Q5{P:Pr}{w:World}(j:List Pr){T:List Pr}(H:Sat (j++P::T) w):Sat (j++T) w:=(H.perm List.perm_middle).tail
def OK(V:VS)(g:VG)(page x p:Int):Option Int:=
 if page<=p/\p<x/\N8 V.rel p=true then(if IN V page p=0 then none else some (IN V page p))else g.f p
def Q7{V:VS}{g:VG}{page x y:Int}(v:x<=y)(h: ∀p,x<=p->p<y->mem V.rel p->page<=p->IN V page p=0/\g.f p=none):OK V g page y=OK V g page x:=by
 funext p;unfold OK;by_cases e:page<=p/\p<x/\N8 V.rel p=true
 .grind
 .rw[if_neg e];by_cases e2:page<=p/\p<y/\N8 V.rel p=true
  .rw[if_pos e2];have j:x<=p:=by
    by_cases e3:x<=p
    .exact e3
    .exact absurd ⟨e2.1,by omega,e2.2.2⟩ e
   obtain⟨h1,h2⟩:=h p j e2.2.1 (Bh.1 e2.2.2) e2.1
   grind
  grind
def qC{V:VS}{g:VG}{page p:Int}(hp:page<=p)(hm:mem V.rel p)(q:Int):
  OK V g page (p+1) q=if q=p then(if IN V page p=0 then none else some (IN V page p))else OK V g page p q:=by
 unfold OK;by_cases e:q=p
 .subst e;rw[if_pos ⟨hp,by omega,Bh.2 hm⟩,if_pos rfl]
 grind
section
variable{E:Env}{b:Nat}{V:VS}{Rs:List Pr}{w:World}(hE:EnvS E)
include hE
theorem commit_spec(H:Sat (DT E b V::Rs) w){page AA:Int}(h0:0<=page)(h1:page<18446744073709551616)(p0:0<=AA)(p1:AA<18446744073709551616){K:Int->World->Prop}
  (cM: ¬Jl page AA->K 1 w)
  (cN:Jl page AA->cnt V.laid page (page+AA)≠AA-> ∀w',Ext AR w w'->K 33 w')
  (aN:Jl page AA->cnt V.laid page (page+AA)=AA->cnt V.ready page (page+AA)=AA-> ∀w',Ext AR w w'->K 0 w')
  (cO:Jl page AA->cnt V.laid page (page+AA)=AA->cnt V.ready page (page+AA)≠AA-> ∀r,V.rf=true::r-> ∀w',Sat (DT E b {V with rf:=r}::Rs) w'->K 13 w')
  (cP:Jl page AA->cnt V.laid page (page+AA)=AA->cnt V.ready page (page+AA)≠AA->(∀r,V.rf≠true::r)-> ∀w',Sat (DT E b (JB V page AA)::Rs) w'->K 0 w'):
  F.Cv E (some ⟨b,0,none⟩) page AA K w:=by
 obtain⟨g,hI,H⟩:=Sat.TX.1 H;obtain⟨ME,Pm,V3⟩:=Uw H;unfold F.Cv T0.Cv;refine eX h0 p0 p1 (Qn (AB (λhr=> ?_) λhr=>cM hr));have dN:=hr.1;have dO:=hr.2;simp only[AH,add_eq,Nat.zero_add];rw[AI (n:=page+AA)];refine Uq hE H (o:=3) rfl rfl h0 (by omega) (by omega) λw5 a1=> ?_;refine Ca (λhl=>cN hr hl w5 a1) λhl=> ?_;refine Uq hE ((H.nothing a1).FP 1 rfl) (o:=5) rfl rfl h0 (by omega) (by omega) λw8 c0=> ?_;have aU:=a1.trans' c0;refine BI (λhd=>aN hr hl hd w8 aU) λhd=> ?_;have H8:=H.nothing aU;have aX: ∀p,page<=p->p<page+AA->mem V.laid p:=(FI ME (a:=page) (b:=page+AA) (by omega)).1 (by omega);have aI:(∀r,V.rf≠true::r)-> ∀(sr:Ac) (a3:World),Sat (JA E b {V with rf:=V.rf.tail} {g with sr:=sr}++Rs) a3->
   An (Unit) (λbD=>
    F.B5 E (some ⟨b,7,none⟩) page (page+AA) (λa2 a4=>
    A9 (Int×Unit) (0,()) a4 λFN _ aD aO=>
     CND (decide ((FN.1:Int)<((a2.len:Nat):Int))) (
      NC a2.base λbT=>
      ((0:Int)<=FN.1/\(FN.1:Int)<(a2.len:Nat))/\
      ∃bE:Int,aD.cell? ((bT.add (Int.toNat FN.1*2)).add 0)=some (.int .u64 bE)/\
      ∃bF:Int,aD.cell? ((bT.add (Int.toNat FN.1*2)).add 1)=some (.int .u64 bF)/\
      AL (.cells #[.int .u64 0,.int .u64 0] E.AE) aD λaC bW=>
      stCells (Addr.mk aC 0 none) 0 [.int .u64 bE,.int .u64 bF] bW λa5=>
      ∃bY:Int,a5.cell? (Addr.mk aC 0 none)=some (.int .u64 bY)/\
      A9 (Int×Unit) (bY,()) a5 λKD _ Y aB=>
       ∃bZ:Int,Y.cell? (Addr.mk aC 1 none)=some (.int .u64 bZ)/\
       CND (decide ((KD.1:Int)<bZ)) (
        ∃aP:Ac,Y.cell? (Addr.mk b 2 none)=some (.slice aP.base aP.len aP.cap)/\
        CND ((((aP.len:Nat):Int):Int)==0) (
         bD (()) Y
        ) (
         F.E0 E (some (Addr.mk b 2 none)) (λbU dS aL=>
         CND ((bU:Int) !=0) (
          ∃b0:(Option Nat),aL.cell? (Addr.mk b 9 none)=some (.map b0)/\
          XY .u64 KD.1 (.int .u64 bU) b0 aL λa6=>
          aB (u64 (KD.1+1),()) a6
         ) (
          aB (u64 (KD.1+1),()) aL
         )
         ) Y
        )
       ) (
        aO (i64 (FN.1+1),()) Y
       )
     ) (
      bD (()) aD
     )
    ) a3
   ) λWB _ bV=>
    F.Cu E (some (Addr.mk b 7 none)) page (page+AA) (λbX=>
    F.BT E (some (Addr.mk b 5 none)) page (page+AA) (λa7=>
    K 0 a7
    ) bX
    ) bV:=by
  intro cX sr a3 b3;have aW: ∀p,mem V.rel p->g.f p=none:=λp hp=>by
   cases hf:g.f p with
   | none=>rfl
   | some v=>exact absurd hp (hI.re p (hI.fi p (by grind)))
  refine Aj (λ_ w'=> ∃sf,Sat (JA E b {V with rf:=V.rf.tail,fl:=V.fl.drop (cnt V.rel page (page+AA)).toNat} {g with sr:=sr,sf:=sf,f:=OK V g page (page+AA)}++Rs) w') ?_ ?_
  .refine Wv hE (b3.FP 2 rfl) (o:=7) rfl rfl h0 (by omega) λs' a4 a9 _=> ?_;have aE:Sat (JA E b {V with rf:=V.rf.tail} {g with sr:=sr}++Row E.AE 2 s' (flat (withinL V.rel page (page+AA)))::Rs) a4:=
    Sat.QH (JA E b {V with rf:=V.rf.tail} {g with sr:=sr}) (a9.perm (.cons _ (.cons _ (DV (i:=2) rfl).symm)))
   clear a9;have aA:=Ux V3 (a:=page) (b:=page+AA) (by omega);generalize hm:withinL V.rel page (page+AA)=m at aE aA;have aF: ∀n,mem m n↔mem V.rel n/\page<=n/\n<page+AA:=λn=>by rw[<-hm];exact Ov
   have bH: ∀q∈m,page<=q.1/\q.1<q.2/\q.2<=page+AA:=by rw[<-hm];exact QD V3 (by omega)
   have cF:=DU V.rel page;have dJ: ∀c,V.fl.length<=c->V.fl.getD c 0=0:=λc hc=>by grind
   have aR: ∀x,page<=x->x<=page+AA->(cnt V.rel page x).toNat<=V.fl.length->((∀n,x<=n->n<page+AA-> ¬mem V.rel n)∨V.fl.drop (cnt V.rel page x).toNat=[])-> ∀sf (T:List Pr) w',
     Sat (JA E b {V with rf:=V.rf.tail,fl:=V.fl.drop (cnt V.rel page x).toNat} {g with sr:=sr,sf:=sf,f:=OK V g page x}++T) w'->
     Sat (JA E b {V with rf:=V.rf.tail,fl:=V.fl.drop (cnt V.rel page (page+AA)).toNat} {g with sr:=sr,sf:=sf,f:=OK V g page (page+AA)}++T) w':=by
    intro x aJ aK bG cT sf T w' hS;rcases cT with aG|J
    .have e1:=Zw V3 aJ aK aG;have e2:OK V g page (page+AA)=OK V g page x:=Q7 aK λp h1 h2 h3 _=>absurd h3 (aG p h1 h2)
     grind
    .have hlen:V.fl.length<=(cnt V.rel page x).toNat:=List.drop_eq_nil_iff.1 J;have hle: ∀p,x<=p->cnt V.rel page x<=cnt V.rel page p:=λp hp=>by
      rw[MO (Ok.dY V3) aJ hp];have:=DU V.rel x p;omega
     have e1:V.fl.drop (cnt V.rel page (page+AA)).toNat=V.fl.drop (cnt V.rel page x).toNat:=by
      rw[J,List.drop_eq_nil_iff]
      grind
     have e2:OK V g page (page+AA)=OK V g page x:=Q7 aK λp h1 h2 h3 _=>⟨by
      unfold IN
      grind,aW p h3⟩
     grind
   have aT: ∀{T:List Pr} {sf fl f w'},Sat (JA E b {V with rf:=V.rf.tail,fl:=fl} {g with sr:=sr,sf:=sf,f:=f}++Row E.AE 2 s' (flat m)::T) w'->JX w' 0 E.AE 2 s' (flat m):=λh=>(h.front 10 rfl).own;have cY:s'.len=m.length:=by
    have:=(aT (T:=Rs) (sf:=g.sf) (fl:=V.fl) (f:=g.f) aE).len;rw[Fo]at this;omega
   have cQ:m.length<=34359738368:=by
    have: ∀(l:Iv) (B:Int),Ok l->(∀q∈l,B<=q.1/\q.2<=34359738368)->B<=34359738368->(l.length:Int)<=34359738368-B:=by
     intro l
     induction l with
     | nil=>grind
     | cons q r ih=>
      intro B ho hb _;have h1:=hb q List.mem_cons_self;have h2:=ho.2.1;have:=ih q.2 ho.tail (λq' bM=>⟨by have:=ho.2.2.2.1 q' bM;omega,(hb q' (List.mem_cons_of_mem _ bM)).2⟩) h1.2
      grind
    have:=this m 0 aA (λq hq=>⟨by grind,by grind⟩) (by decide);omega
   refine AJ (λst w'=> ∃(k:Nat) (x:Int) (sf:Ac),st.1=(k:Int)/\k<=m.length/\page<=x/\x<=page+AA/\(cnt V.rel page x).toNat<=V.fl.length/\(∀q∈m.take k,q.2<=x)/\(∀q∈m.drop k,x<=q.1)/\
     Sat (JA E b {V with rf:=V.rf.tail,fl:=V.fl.drop (cnt V.rel page x).toNat} {g with sr:=sr,sf:=sf,f:=OK V g page x}++Row E.AE 2 s' (flat m)::Rs) w') (λst _=>(m.length-st.1).toNat)
    ⟨0,page,g.sf,rfl,Nat.zero_le _,Int.le_refl _,by omega,?_,by simp,λq hq=>(bH q (by simpa using hq)).1,?_⟩ ?_
   .have:cnt V.rel page page=0:=(Di V3 (Int.le_refl _)).2 λn h1 h2=>by omega
    omega
   .have e1:cnt V.rel page page=0:=(Di V3 (Int.le_refl _)).2 λn h1 h2=>by omega
    have e2:OK V g page page=g.f:=by funext p;unfold OK;grind
    rw[e1,e2];exact aE
   rintro⟨i,v⟩ _ aD ⟨k,x,sf,hk,dL,aJ,aK,bG,cZ,cH,aV⟩;simp only at hk⊢;subst hk;refine AB (λbJ=> ?_) λcJ=> ?_
   .have aN:k<m.length:=by omega
    obtain⟨q,hq⟩: ∃q,m[k]? =some q:=⟨_,List.getElem?_eq_getElem aN⟩;have bN:=List.mem_of_getElem? hq;obtain⟨g1,g2⟩:=On m k q hq;obtain⟨q1,q2,q3⟩:=bH q bN;have aH:=aT aV;obtain⟨bb,hb⟩:=aH.Gf (by omega);have c1:=aH.cell hb g1;have c2:=aH.cell hb g2;rw[add_eq,Nat.zero_add]at c1 c2;rw[hb];simp only[AH,add_eq,Nat.zero_add,Int.toNat_natCast,Nat.add_zero];refine⟨⟨by omega,by omega⟩,q.1,c1,q.2,c2,?_⟩;refine AQ aV λaC bW b5 _=>Gm b5 (by rfl) (by simp[Value.oneCell']) λa5 bA=> ?_;refine⟨q.1,bA.Aa rfl,?_⟩;have bB:=Sat.QH (JA E b {V with rf:=V.rf.tail,fl:=V.fl.drop (cnt V.rel page x).toNat} {g with sr:=sr,sf:=sf,f:=OK V g page x}) bA;have bP:x<=q.1:=cH q (List.mem_of_getElem? (i:=0) (by grind));have aG: ∀n,x<=n->n<q.1-> ¬mem V.rel n:=by
     intro n h1 h2 hn;obtain⟨z,hz,h3,h4⟩:=(aF n).2 ⟨hn,by omega,by omega⟩;obtain⟨j,hj⟩:=List.mem_iff_getElem?.1 hz;rcases Nat.lt_trichotomy j k with e|e|e
     .have:=cZ z (List.mem_of_getElem? (i:=j) (by grind));omega
     .grind
     .have:=aA.lt e hq hj;omega
    have ec:cnt V.rel page q.1=cnt V.rel page x:=Zw V3 aJ bP aG;have ef:OK V g page q.1=OK V g page x:=Q7 bP λp h1 h2 h3 _=>absurd h3 (aG p h1 h2);refine AJ (λst w'=>q.1<=st.1/\st.1<=q.2/\(cnt V.rel page st.1).toNat<=V.fl.length/\ ∃sf,
      Sat (JA E b {V with rf:=V.rf.tail,fl:=V.fl.drop (cnt V.rel page st.1).toNat} {g with sr:=sr,sf:=sf,f:=OK V g page st.1}++Cells aC E.AE [.int .u64 q.1,.int .u64 q.2]::Row E.AE 2 s' (flat m)::Rs) w')
     (λst _=>(q.2-st.1).toNat) ⟨Int.le_refl _,by omega,by grind,sf,by rw[ec,ef];exact bB⟩ ?_
    rintro⟨p,v⟩ _ Y ⟨bK,cU,a0,sf,O⟩;simp only at bK cU a0 O⊢;refine⟨q.2,(O.front 10 rfl).Aa rfl,AB (λbJ=> ?_) λcJ=> ?_⟩
    .have bL:mem V.rel p:=((aF p).1 ⟨q,bN,bK,bJ⟩).1;have cG:=(KM V3 (a:=page) (k:=p) (by omega)).1 bL;have dB:=cF p;refine⟨sf,O.Aa rfl,BI (λhz=> ?_) λdM=> ?_⟩
     .have J:V.fl.drop (cnt V.rel page p).toNat=[]:=by
       have:(ints .u64 (V.fl.drop (cnt V.rel page p).toNat)).length=sf.len:=(O.front 6 rfl).NV.1;have h0:(ints .u64 (V.fl.drop (cnt V.rel page p).toNat)).length=0:=by omega
       rw[List.drop_eq_nil_iff];simp[ints]at h0;omega
      exact⟨sf,Sat.Q5 _ (Sat.Q5 _ (aR p (by omega) (by omega) a0 (.inr J) sf _ Y O))⟩
     .refine Zu (o:=2) (O.FP 5 rfl) rfl (λJ=> ?_) λy r hy aL b6=> ?_
      .exfalso;have:=(O.front 6 rfl).NV.1;have aY:V.fl.drop (cnt V.rel page p).toNat=[]:=J;rw[aY]at this;simp[ints]at this;omega
      .have bQ:V.fl.drop (cnt V.rel page p).toNat=y::r:=hy;have dA:(cnt V.rel page p).toNat<V.fl.length:=by grind
       have cW:r=V.fl.drop (cnt V.rel page (p+1)).toNat:=by
        rw[cG,show(cnt V.rel page p+1).toNat=(cnt V.rel page p).toNat+1 by omega,<-List.drop_drop,bQ];rfl
       have cI:IN V page p=y:=by
        unfold IN;rw[List.getD_eq_getElem?_getD,<-Nat.add_zero (cnt V.rel page p).toNat,<-List.getElem?_drop,bQ];rfl
       have bC:Sat (JA E b {V with rf:=V.rf.tail,fl:=V.fl.drop (cnt V.rel page (p+1)).toNat} {g with sr:=sr,sf:=⟨HU sf.base sf.cap 1 1,sf.len-1,sf.cap-1⟩,f:=OK V g page p}++Cells aC E.AE [.int .u64 q.1,.int .u64 q.2]::Row E.AE 2 s' (flat m)::Rs) aL:=by
        rw[<-cW];exact Sat.Wm 5 b6 (by simp[JA])
       rw[AI (n:=p+1)];refine Ca (λbR=> ?_) λbR=> ?_
       .refine⟨some g.fb,bC.Aa rfl,iO (bC.front 7 rfl) λa6 b7=> ?_⟩;refine⟨⟨by omega,by omega,by omega,⟨HU sf.base sf.cap 1 1,sf.len-1,sf.cap-1⟩,?_⟩,by omega⟩;have b8:=Sat.back 7 b7 (by simp[JA]);have:Zt {g with f:=OK V g page (p+1)}=λi=>if i=p then some (.int .u64 y)else Zt {g with f:=OK V g page p} i:=by
         funext i;show(OK V g page (p+1) i).map _=if i=p then _ else(OK V g page p i).map _
         rw[qC (by omega) bL i,cI,if_neg bR]
         grind
        show Sat (JA E b _ {g with sr:=sr,sf:=_,f:=OK V g page (p+1)}++_) a6;unfold JA;have e:Zt {g with sr:=sr,sf:=⟨HU sf.base sf.cap 1 1,sf.len-1,sf.cap-1⟩,f:=OK V g page (p+1)}=Zt {g with f:=OK V g page (p+1)}:=rfl;rw[e,this];exact b8
       .refine⟨⟨by omega,by omega,by omega,⟨HU sf.base sf.cap 1 1,sf.len-1,sf.cap-1⟩,?_⟩,by omega⟩;have:OK V g page (p+1)=OK V g page p:=Q7 (by omega) λp' h1 h2 h3 _=>by grind
        grind
    .have cV:p=q.2:=by omega
     subst cV;have ei:i64 ((k:Int)+1)=((k+1:Nat):Int):=by rw[AM];omega
     refine⟨⟨k+1,q.2,sf,ei,by omega,by omega,by omega,a0,λz hz=> ?_,λz hz=> ?_,Sat.Q5 _ O⟩,by omega⟩
     .rw[List.take_succ_eq_append_getElem aN,List.mem_append,List.mem_singleton]at hz
      grind
     .obtain⟨j,hj⟩:=List.mem_iff_getElem?.1 hz;rw[List.getElem?_drop]at hj;have:=aA.lt (i:=k) (j:=k+1+j) (by omega) hq hj;omega
   .have dK:k=m.length:=by omega
    refine⟨sf,Sat.Q5 _ (aR x aJ aK bG (.inl λn h1 h2 hn=> ?_) sf _ aD aV)⟩;obtain⟨z,hz,h3,h4⟩:=(aF n).2 ⟨hn,by omega,h2⟩
    grind
  .rintro _ _ bV ⟨sf,b4⟩;have c9:Pb=4398046511104:=rfl;refine zX hE (b4.FP 2 rfl) (o:=7) rfl rfl h0 (by omega) (by omega) λbX c5 b9=> ?_;have cA:=Sat.Wm 2 b9 (by simp[JA]);refine pI hE (cA.FP 1 rfl) (o:=5) rfl rfl h0 (by omega) (by omega) λa7 c4 cB=> ?_;have cC:=Sat.Wm 1 cB (by simp[JA]);refine cP hr hl hd cX a7 (Sat.TX.2 ⟨{g with sr:=sr,sf:=sf,s2:=c4,s3:=c5,f:=OK V g page (page+AA)},?_,cC⟩);have ma: ∀p,mem (D9 V.ready page (page+AA)) p↔mem V.ready p∨(page<=p/\p<page+AA):=λp=>Eo Pm (by omega) h0 (by omega) p;have mc: ∀p,mem (EI V.rel page (page+AA)) p↔mem V.rel p/\ ¬(page<=p/\p<page+AA):=λp=>FH (by omega);refine⟨λp i cK cL=> ?_,λp hp=>(ma p).2 (.inl (hI.pg p hp)),λp hp=> ?_,λp hp=> ?_,λp hp=>hI.el p ((mc p).1 hp).1,λp hp hq=> ?_,hI.Kl,hI.jE⟩
   .show(if page<=p/\p<page+AA/\N8 V.rel p=true then IN V page p else V.wd p i)=match g.G p with|some x=>x.2 i|none=>(OK V g page (page+AA) p).getD 0
    by_cases e:page<=p/\p<page+AA/\N8 V.rel p=true
    .rw[if_pos e];have bO:=Bh.1 e.2.2;have:g.G p=none:=by
      cases hG:g.G p with
      | none=>rfl
      | some x=>exact absurd bO (hI.re p (hI.pg p (by grind)))
     rw[this];unfold OK
     grind
    .rw[if_neg e,hI.wd p i cK cL];unfold wordOf OK
     grind
   .have aZ:OK V g page (page+AA) p≠none:=hp;unfold OK at aZ;by_cases e:page<=p/\p<page+AA/\N8 V.rel p=true
    .exact(ma p).2 (.inr ⟨e.1,e.2.1⟩)
    .rw[if_neg e]at aZ;exact(ma p).2 (.inl (hI.fi p aZ))
   .rcases(ma p).1 hp with h|h
    .exact hI.rl p h
    .exact aX p h.1 h.2
   .rcases(ma p).1 hp with h|h
    .exact hI.re p h ((mc p).1 hq).1
    .exact((mc p).1 hq).2 h
 refine Wt H8 (λJ=>AO rfl (aI (λr h=>by grind) g.sr w8 ?_)) λx r hx w7 H7=> ?_
 .have:{V with rf:=V.rf.tail}=V:=by
   have:V.rf.tail=V.rf:=by grind
   rw[this]
  show Sat (JA E b {V with rf:=V.rf.tail} {g with sr:=g.sr}++Rs) w8;rw[this];exact H8
 .refine AP (λe=>cO hr hl hd r (by rw[hx,e]) w7 (Sat.TX.2 ⟨{g with sr:=⟨HU g.sr.base g.sr.cap 1 1,g.sr.len-1,g.sr.cap-1⟩},⟨hI.wd,hI.pg,hI.fi,hI.rl,hI.el,hI.re,hI.Kl,hI.jE⟩,H7⟩)) λe=>aI (λr' h=> ?_) ⟨HU g.sr.base g.sr.cap 1 1,g.sr.len-1,g.sr.cap-1⟩ w7 ?_
  .grind
  .rw[hx];exact H7
end
section
variable{n:Nat}{G:Pgs}{Rs:List Pr}{p:Int}
end
section
variable{E:Env}{b:Nat}{V:VS}{Rs:List Pr}{w:World}
variable(hE:EnvS E)
include hE
end
def MF(pl:List Int)(rf:List Bool)(fl:List Int):VS:=⟨[],[],[],λ_ _=>0,pl,rf,fl⟩
section
variable{E:Env}{b:Nat}{V:VS}{Rs:List Pr}{w:World}
variable(hE:EnvS E)
include hE
end
section
variable{E:Env}{Ps Rs:List Pr}{w:World}
def Ss(i:Nat){K:Nat->World->Prop}(H:Sat Ps w)(j:Ps[i]? =some iN)(y: ∀b w',Sat (Ps.set i (EJ b .u64 λ_=>none)) w'->K b w'):AL (.map #[] 0) w K:=
 Xl (H.front i j).tail .u64 λb w' v _=>y b w' (Sat.back i v (List.getElem?_eq_some_iff.1 j).1)
def Zx{t:Nat}{zs:Array Value}{bytes:Nat}{a:Ac}{vs:List Value}{K:Ac->World->Prop}(H:Sat Rs w)(hz:zs.size=1)(j: ∀w',Sat Rs w'->rowAt w' a.base a.len vs)(hl:vs.length=a.len)(hlen:a.len<=1099511627776)(T:bytes<=8)
  (ho: ∀v∈vs,v.oneCell'=true)(J: ∀s' w',Sat (K3 s' vs::Rs) w'->K s' w'):
  CND (a.base.isNone) (K ⟨none,0,0⟩ w) (AL (.cells ⟨[]⟩ t) w λb1 y=>APP t 1 bytes zs ⟨(some (Addr.mk b1 0 none)),0,0⟩ a y λs3 w4=>K s3 w4):=by
 refine AP (λe=> ?_) λe=> ?_
 .have hb:a.base=none:=by simpa using e
  have:=j w H;rw[hb]at this;have hv:vs=[]:=this;rw[hv]at J;exact J _ w H.tZ
 .refine BZ λy O aE Y=> ?_;have H2:Sat (Row t 1 ⟨some ⟨w.heap.size,0,none⟩,0,0⟩ []::Rs) y:=H.new (P:=Row t 1 ⟨some ⟨w.heap.size,0,none⟩,0,0⟩ []) (D:=Qm ⟨some ⟨w.heap.size,0,none⟩,0,0⟩) Y
   ⟨λ_=>Iff.rfl,Xe O rfl (Nat.zero_le _) (by decide)⟩ λk hk=>by obtain⟨x,hx,rfl⟩:=hk;grind
  have hm:(0+a.len)*bytes<=1099511627776*8:=Nat.mul_le_mul (by omega) T;refine Gq H2 hz (by simpa using j y H2.tail) (by omega) ho (by grind) (by grind) λs' w' H' _=>J s' w' ?_;exact Sat.tY H'
def Ww(i:Nat){a:Ac}{l:List Int}{K:Ac->World->Prop}(H:Sat Ps w)(y:Ps[i]? =some iN)(j: ∀w',Sat (Ps.eraseIdx i) w'->rowAt w' a.base a.len (ints .u64 l))(Y:l.length=a.len)(hlen:a.len<=1099511627776)
  (T: ∀s' w',Sat (Ps.set i (K3 s' (ints .u64 l))) w'->K s' w'):F.ED E a K w:=by
 unfold F.ED;exact Zx (H.front i y).tail rfl j (by simpa[ints]using Y) hlen (Nat.le_refl _) (by intro v J;simp[ints]at J;obtain⟨x,_,rfl⟩:=J;rfl) λs' w' O=>T s' w' (Sat.back i O (List.getElem?_eq_some_iff.1 y).1)
def eY(i:Nat){a:Ac}{l:List Bool}{K:Ac->World->Prop}(H:Sat Ps w)(y:Ps[i]? =some iN)(j: ∀w',Sat (Ps.eraseIdx i) w'->rowAt w' a.base a.len (BA l))(Y:l.length=a.len)(hlen:a.len<=1099511627776)
  (T: ∀s' w',Sat (Ps.set i (K3 s' (BA l))) w'->K s' w'):F.FF E a K w:=by
 unfold F.FF;exact Zx (H.front i y).tail rfl j (by simpa[BA]using Y) hlen (by decide) (by intro v J;simp[BA]at J;rcases J with ⟨_,rfl⟩|⟨_,rfl⟩<;>rfl) λs' w' O=>T s' w' (Sat.back i O (List.getElem?_eq_some_iff.1 y).1)
def jG{b t1 b1 t2 m1 j:Nat}{v r2 y:Ac}{vs:List Value}{pl:List Int}{rf:List Bool}{fl:List Int}(J: ∀x∈pl,0<=x/\x<18446744073709551616)
  (H:Sat (Cells b t1 [GJ v,GJ r2,GJ y,.slice none 0 0,.int .u64 0,.slice none 0 0,.int .u64 0,.slice none 0 0,.int .u64 0,.map (some m1),.map (some j)]::Cells b1 t2 vs::
   K3 v (ints .u64 pl)::K3 r2 (BA rf)::K3 y (ints .u64 fl)::EJ m1 .u64 (λ_=>none)::EJ j .u64 (λ_=>none)::Rs) w):Sat (DT E b (MF pl rf fl)::Rs) w:=by
 have H1:=(H.perm (.swap _ _ _)).tail;have K:=(Sat.QH [Cells b t1 _,K3 v _,K3 r2 _,K3 y _,EJ m1 _ _,EJ j _ _] (H1.pgNil 1024));have O:=((K.eH (E:=E)).perm (.swap _ _ _));have T:=((O.eH (E:=E)).perm (.swap _ _ _));have Y:=((T.eH (E:=E)).perm (.swap _ _ _));exact Sat.TX.2 ⟨⟨v,r2,y,⟨none,0,0⟩,⟨none,0,0⟩,⟨none,0,0⟩,m1,j,λ_=>none,λ_=>none⟩,
  ⟨λ_ _ _ _=>rfl,λ_ h=>absurd rfl h,λ_ h=>absurd rfl h,λ_ h=>h,λ_ h=>h,λp h=>absurd h (Bq p),λp h=>absurd h (Bq p),J⟩,Y⟩
def l9(H:Sat Rs w){a0 a1 a2:Ac}{pl:List Int}{rf:List Bool}{fl:List Int}(v: ∀x∈pl,0<=x/\x<18446744073709551616)
  (h0: ∀w',Sat Rs w'->rowAt w' a0.base a0.len (ints .u64 pl))(l0:pl.length=a0.len)(k0:a0.len<=1099511627776)
  (h1: ∀w',Sat Rs w'->rowAt w' a1.base a1.len (BA rf))(l1:rf.length=a1.len)(k1:a1.len<=1099511627776)
  (h2: ∀w',Sat Rs w'->rowAt w' a2.base a2.len (ints .u64 fl))(l2:fl.length=a2.len)(k2:a2.len<=1099511627776)
  {K:Option Addr->World->Prop}(T: ∀b w',Sat (DT E b (MF pl rf fl)::Rs) w'->K (some ⟨b,0,none⟩) w'):F.KR E a0 a1 a2 K w:=by
 unfold F.KR T0.KR;refine AQ H.emp.emp.emp.emp.emp λb1 w2 O _=> ?_;have y:=O.drew;clear O;have t5: ∀{P0 Y P2 P3 P4:Pr} {w'},Sat (P0::Y::P2::P3::P4::Rs) w'->Sat Rs w':=λh=>h.tail.tail.tail.tail.tail;refine⟨a0,y.Aa rfl,a1,y.cell rfl,a2,y.cell rfl,?_⟩
 repeat' first
  | (exact Sat.cell (by assumption) (by rfl))
  | (exact Sat.Aa (by assumption) (by rfl))
  | (refine Ww 1 (a:=a0) (l:=pl) (by assumption) (by rfl) (by intro w' h;exact h0 w' (t5 h)) l0 k0 λs' w' j=> ?_)
  | (refine eY 2 (a:=a1) (l:=rf) (by assumption) (by rfl) (by intro w' h;exact h1 w' (t5 h)) l1 k1 λs' w' j=> ?_)
  | (refine Ww 3 (a:=a2) (l:=fl) (by assumption) (by rfl) (by intro w' h;exact h2 w' (t5 h)) l2 k2 λs' w' j=> ?_)
  | (refine Ss 4 (by assumption) (by rfl) λJ w' j=> ?_)
  | (refine Ss 5 (by assumption) (by rfl) λJ w' j=> ?_)
  | (refine AQ (by assumption) λJ w' j _=> ?_;exact T _ _ (jG v j))
  | (refine AQ (by assumption) λJ w' j _=> ?_;exact T _ _ (jG v (j.perm (.cons _ (.cons _ (.cons _ (.cons _ (.cons _ (.swap _ _ _)))))))))
  | (refine And.intro ?_ ?_)
def jH: ∀(n:Nat) {l m k:Iv},Ok l->Ok m->Ok k->(∀p,mem m p->mem l p)->(∀p,mem k p->mem l p)->(∀p,mem m p-> ¬mem k p)-> ∀a:Int,cnt m a (a+n)+cnt k a (a+n)<=cnt l a (a+n)
 | 0,l,m,k,hl,hm,hk,_,_,_,a=>by
  have h1:=FO hm (show a<=a+(0:Nat) by omega);have h2:=FO hk (show a<=a+(0:Nat) by omega);have j:=DU l a (a+(0:Nat));omega
 | n+1,l,m,k,hl,hm,hk,h1,h2,j,a=>by
  have y:=jH n hl hm hk h1 h2 j a;have e:a+((n+1:Nat):Int)=(a+n)+1:=by omega
  rw[e];have sl:=KM hl (a:=a) (k:=a+n) (by omega);have sm:=KM hm (a:=a) (k:=a+n) (by omega);have v:=KM hk (a:=a) (k:=a+n) (by omega);by_cases c1:mem m (a+n)
  .grind
  .have:=sm.2 c1;by_cases c2:mem k (a+n)
   .grind
   .have:=v.2 c2;by_cases c3:mem l (a+n)
    .grind
    grind
structure WH(V:VS):Prop where
 ME:Ok V.laid
 Pm:Ok V.ready
 V3:Ok V.rel
 rl: ∀p,mem V.ready p->mem V.laid p
 el: ∀p,mem V.rel p->mem V.laid p
 re: ∀p,mem V.ready p-> ¬mem V.rel p
 Kl: ∀p,mem V.laid p->512<=p/\p<34359738368
 clean: ∀p i,0<=i->i<1024-> ¬mem V.ready p->V.wd p i=0
 sums:HE V.ready+HE V.rel<=HE V.laid
def Sat.vok{b:Nat}{V:VS}(H:Sat (DT E b V::Rs) w):WH V:=by
 obtain⟨g,hI,H⟩:=Sat.TX.1 H;obtain⟨ME,Pm,V3⟩:=Uw H;refine⟨ME,Pm,V3,hI.rl,hI.el,hI.re,hI.Kl,λp i h0 h1 j=> ?_,?_⟩
 .rw[hI.wd p i h0 h1];unfold wordOf;cases hG:g.G p with
  | some x=>exact absurd (hI.pg p (by grind)) j
  | none=>
   cases hf:g.f p with
   | none=>rfl
   | some x=>exact absurd (hI.fi p (by grind)) j
 .have h1:=MP (Ok.dY ME) (a:=0) (b:=0+(34359738368:Nat)) λn j=>by have:=hI.Kl n j;omega
  have h2:=MP (Ok.dY Pm) (a:=0) (b:=0+(34359738368:Nat)) λn j=>by have:=hI.Kl n (hI.rl n j);omega
  have v:=MP (Ok.dY V3) (a:=0) (b:=0+(34359738368:Nat)) λn j=>by have:=hI.Kl n (hI.el n j);omega
  have:=jH 34359738368 ME Pm V3 hI.rl hI.el hI.re 0;omega
end
section
variable{E:Env}{b:Nat}{V:VS}{Rs:List Pr}{w:World}
variable(hE:EnvS E)
include hE
end
end Go.Sh

/- The address space does what its pages and words say. No further condition. -/
import Derived.Test.YtgeilojialbgdaaGreatDoorS
import Derived.Test.YtgeilojialbgdaaGreatDoorA
import Derived.Test.YtgeilojialbgdaaGreatDoorM
import Derived.Test.YtgeilojialbgdaaGreatDoorW
set_option linter.all false
set_option maxRecDepth 50000
set_option maxHeartbeats 4000000
namespace Go.Sh
structure VS where
  laid:Iv
  ready:Iv
  rel:Iv
  wd:Int->Int->Int
  pl:List Int
  rf:List Bool
  fl:List Int
structure VG where
  sp:AY
  sr:AY
  sf:AY
  s1:AY
  s2:AY
  s3:AY
  fb:Nat
  pb:Nat
  G:Pgs
  f:Int->Option Int
def FI(s:AY):Value:=.slice s.base s.len s.cap
def rF(V:VS)(g:VG):List Value:=
  [FI g.sp,FI g.sr,FI g.sf,FI g.s1,.int .u64 (Hm V.laid),FI g.s2,.int .u64 (Hm V.ready),FI g.s3,.int .u64 (Hm V.rel),.map (some g.fb),.map (some g.pb)]
def Sw(g:VG):Int->Option Value:=λp=>(g.f p).map λn=>.int .u64 n
def jP(g:VG):Int->Option Value:=λp=>(g.G p).map λx=>.pointer (sM x.1)
def Gc(E:Env)(b:Nat)(V:VS)(g:VG):List Pr:=
  [Cells b 0 (rF V g),NP E g.s1 V.laid,NP E g.s2 V.ready,NP E g.s3 V.rel,MW g.sp (ints .u64 V.pl),MW g.sr (Hu V.rf),MW g.sf (ints .u64 V.fl),
   CM g.fb .u64 (Sw g),CM g.pb .u64 (jP g),UW 1024 g.G]
def wordOf(g:VG)(p i:Int):Int:=match g.G p with
  | some x=>x.2 i
  | none=>(g.f p).getD 0
structure mM(V:VS)(g:VG):Prop where
  wd: ∀p i,0<=i->i<1024->V.wd p i=wordOf g p i
  pg: ∀p,g.G p≠none->mem V.ready p
  fi: ∀p,g.f p≠none->mem V.ready p
  rl: ∀p,mem V.ready p->mem V.laid p
  el: ∀p,mem V.rel p->mem V.laid p
  re: ∀p,mem V.ready p-> ¬mem V.rel p
  OZ: ∀p,mem V.laid p->512<=p/\p<34359738368
  vD: ∀x∈V.pl,0<=x/\x<18446744073709551616
def B8(E:Env)(b:Nat)(V:VS):Pr:=Ex λg=>Jt (mM V g) (Kx (Gc E b V g))
section
variable{E:Env}{b:Nat}{V:VS}{Rs:List Pr}{w:World}
def Sat.RC:Sat (B8 E b V::Rs) w↔ ∃g,mM V g/\Sat (Gc E b V g++Rs) w:=by
  unfold B8;rw[Sat.ex];constructor
  . rintro⟨g,h⟩;obtain⟨h1,a⟩:=Sat.where.1 h;exact⟨g,h1,Sat.star.1 a⟩
  . rintro⟨g,h1,a⟩;exact⟨g,Sat.where.2 ⟨h1,Sat.star.2 a⟩⟩
def RD{g:VG}(H:Sat (Gc E b V g++Rs) w):Ok V.laid/\Ok V.ready/\Ok V.rel:=
  ⟨(NP.ok (H.front 1 rfl)).1,(NP.ok (H.front 2 rfl)).1,(NP.ok (H.front 3 rfl)).1⟩
def Wv{g:VG}(H:Sat (Gc E b V g++Rs) w){K:Bool->Bool->World->Prop}(h0:V.rf=[]->K false false w)
    (h1: ∀x r,V.rf=x::r-> ∀w',Sat (Gc E b {V with rf:=r} {g with sr:=⟨KE g.sr.base g.sr.cap 1 1,g.sr.len-1,g.sr.cap-1⟩}++Rs) w'->K x true w'):
    F.HT E (some ⟨b,1,none⟩) K w:=by
  unfold F.HT;have u:=(H.front 5 rfl).Tq;have c:=H.AW (o:=1) rfl;simp only[AK];refine⟨g.sr,c,AE (λaA=> ?_) λY=>h0 ?_⟩
  . cases hr:V.rf with
    | nil=>have:=u.1;rw[hr]at this;simp[Hu]at this;omega
    | cons x r=>
      obtain⟨a,O,T⟩:=(H.front 5 rfl).ZZ (j:=0) (v:=.bool x) (by rw[hr];rfl);refine⟨g.sr,c,?_⟩;rw[O];refine⟨⟨by decide,by omega⟩,x,T,g.sr,c,⟨by decide,by omega⟩,?_⟩;have e:=Sat.back 5 ((H.front 5 rfl).Za (n:=1) (by omega)) (by simp[Gc]);rw[hr]at e;exact Bc e rfl (by simp[rF]) λw' J=>h1 x r hr w' J
  . have:=u.1;have:(Hu V.rf).length=0:=by omega
    simpa[Hu]using this
def Zp{o:Nat}{s:AY}{l:List Int}{rest:List Pr}{vs:List Value}(H:Sat (Cells b 0 vs::MW s (ints .u64 l)::rest) w)(ho:vs[o]? =some (FI s)){K:Int->Bool->World->Prop}
    (h0:l=[]->K 0 false w)
    (h1: ∀x r,l=x::r-> ∀w',Sat (Cells b 0 (vs.set o (FI ⟨KE s.base s.cap 1 1,s.len-1,s.cap-1⟩))::MW ⟨KE s.base s.cap 1 1,s.len-1,s.cap-1⟩ (ints .u64 r)::rest) w'->K x true w'):
    F.EL E (some ⟨b,o,none⟩) K w:=by
  unfold F.EL;have Y:=(H.front 1 rfl).Tq;have c:=H.AW ho;simp only[AK];refine⟨s,c,AE (λaA=> ?_) λT=>h0 ?_⟩
  . cases hr:l with
    | nil=>have:=Y.1;rw[hr]at this;simp[ints]at this;omega
    | cons x r=>
      obtain⟨a,J,O⟩:=(H.front 1 rfl).ZZ (j:=0) (v:=.int .u64 x) (by rw[hr];rfl);refine⟨s,c,?_⟩;rw[J];refine⟨⟨by decide,by omega⟩,x,O,s,c,⟨by decide,by omega⟩,?_⟩;have e:=Sat.OI 0 (((H.front 1 rfl).Za (n:=1) (by omega)).perm (.swap _ _ _)) (by simp);rw[hr]at e;exact Bc e rfl (List.getElem?_eq_some_iff.1 ho).1 λw' u=>h1 x r hr w' u
  . have:(ints .u64 l).length=0:=by omega
    simpa[ints]using this
def Ww(l:Iv)(page AD:Int):Prop:=page %512=0/\page≠0/\page+AD<=34359738368/\cnt l page (page+AD)=0
structure QB(l:Iv)(frm AD at_:Int):Prop where
  mul:at_ %512=0
  low:512<=at_
  fr:frm<=at_
  free: ∀m,at_<=m->m<at_+AD-> ¬mem l m
  first: ∀a,a %512=0->512<=a->frm<=a->a<at_-> ∃m,a<=m/\m<a+AD/\mem l m
variable(hE:EnvS E)
include hE
theorem Wx{g:VG}(H:Sat (Gc E b V g++Rs) w){page AD:Int}(h0:0<=page)(h1:page<18446744073709551616)(p0:0<=AD)(p1:AD<=134217728){K:Bool->World->Prop}
    (a: ∀r w',(r=true↔Ww V.laid page AD)->Ext AN w w'->K r w'):F.EF E (sM b) page AD K w:=by
  unfold F.EF T0.EF;have e0:=Ext.refl AN w;have hm:Int.tmod page 512=page %512:=Int.tmod_eq_emod_of_nonneg h0;rw[hm];refine⟨by decide,C6 (λm0=>Gm (λz=>AE (λhle=> ?_) λe=> ?_) λz=> ?_) λm0=> ?_⟩
  . rw[AP (n:=34359738368-page)];refine AE (λu=> ?_) λe=> ?_
    . rw[AP (n:=page+AD)];simp only[AK,add_eq,Nat.zero_add];refine Q9 hE H (o:=3) rfl rfl h0 (by omega) (by omega) λw' j=>a _ w' ?_ j;unfold Ww
      grind
    . refine a false w ⟨λh=>(by cases h),λh=> ?_⟩ e0;have:=h.2.2.1;omega
  . refine a false w ⟨λh=>(by cases h),λh=> ?_⟩ e0;have:=h.2.2.1;omega
  . exact a false w ⟨λh=>(by cases h),λh=>absurd z h.2.1⟩ e0
  . exact a false w ⟨λh=>(by cases h),λh=>absurd h.1 m0⟩ e0
theorem eN{g:VG}(hI:mM V g)(H:Sat (Gc E b V g++Rs) w){J AD:Int}(h0:0<=J)(h1:J<18446744073709551616)(p0:0<AD)(p1:AD<=134217728){K:Int->Bool->World->Prop}
    (aZ:34359738368<J->K 0 false w)
    (a0:J<=34359738368-> ∀at_ r w',QB V.laid J AD at_->at_<=34359738880->(r=true↔at_+AD<=34359738368)->Ext AN w w'->K at_ r w'):
    F.Dk E (sM b) J AD K w:=by
  unfold F.Dk T0.Dk;refine AE aZ λhle=>⟨by decide,AZ λbE aP=> ?_⟩;have aR: ∀n:Int,0<=n->n<=34359738368->u64 (u64 (Int.tdiv (u64 (u64 (n+512)-1)) 512)*512)=(n+511)/512*512:=by
    intro n h0 h1;rw[AP (n:=n+512),AP (n:=n+512-1),Int.tdiv_eq_ediv_of_nonneg (by omega),AP (n:=(n+512-1)/512),AP];omega
  rw[aR J h0 (by omega),Ql]at aP;simp only[AK,add_eq,Nat.zero_add];have hr:=(H.setAt (o:=3) rfl rfl).row;have hlen:=hr.len;have hsm:=hr.small;have a7:OT=4398046511104:=rfl;refine AV (λst w'=>Ext AN w w'/\QB V.laid J AD st.1/\st.1<=34359738880) ?_ ?_
  . unfold F.Dq;simp only[AK];refine⟨g.s1,hr.c0,AM (λst w'=> ∃k:Nat,st.2.1=(k:Int)/\k<=V.laid.length/\Ext AN w w'/\st.1 %512=0/\512<=st.1/\J<=st.1/\st.1<=34359738880/\(∀q∈V.laid.take k,q.2<=st.1)/\
      ∀a,a %512=0->512<=a->J<=a->a<st.1-> ∃m,a<=m/\m<a+AD/\mem V.laid m) (λst _=>(V.laid.length-st.2.1).toNat)
      ⟨0,rfl,Nat.zero_le _,Ext.refl _ _,by omega,by omega,by simp only;omega,by omega,by simp,λa h1 h2 h3 h4=>by omega⟩ ?_⟩
    rintro⟨at_,i',v⟩ _ w9 ⟨k,hk,bK,aF,m0,m1,m2,m3,T,u⟩;simp only at hk m0 m1 m2 m3 T u⊢;subst hk;refine AE (λbL=> ?_) λbI=>⟨aF,⟨m0,m1,m2,λm h1 h2 hm=> ?_,u⟩,m3⟩
    . have aL:k<V.laid.length:=by omega
      obtain⟨q,hq⟩: ∃q,V.laid[k]? =some q:=⟨_,List.getElem?_eq_getElem aL⟩;obtain⟨g1,g2⟩:=Mt V.laid k q hq;have bN:=hr.ok.get hq;have bO:=hI.OZ (q.2-1) ⟨q,List.mem_of_getElem? hq,by omega,by omega⟩;have aC:=(hr.own.ext aF λb hb f=>f);obtain⟨bb,hb⟩:=aC.G7 (by omega);rw[hb];simp only[AK,add_eq,Nat.zero_add,Int.toNat_natCast,Nat.add_zero];have c1:=aC.cell hb g1;have c2:=aC.cell hb g2;rw[add_eq,Nat.zero_add]at c1 c2;refine⟨⟨by omega,by omega⟩,q.1,c1,q.2,c2,?_⟩;refine AJ (Sat.start w9) λaO bP aX a8=>Bm aX (by rfl) (by simp[Value.oneCell']) λaN Y=> ?_;have aJ:Ext AN w aN:=aF.trans' (Y.Pq 1 rfl);have ei:i64 ((k:Int)+1)=((k+1:Nat):Int):=by rw[AI];omega
      have aD: ∀x,q.2<=x->(∀p∈V.laid.take k,p.2<=x)-> ∀p∈V.laid.take (k+1),p.2<=x:=by
        intro x h1 h2 p hp;rw[List.take_succ_eq_append_getElem aL,List.mem_append,List.mem_singleton]at hp;rcases hp with hp|rfl
        . exact h2 p hp
        . have:V.laid[k]=q:=by rw[List.getElem?_eq_getElem aL]at hq;exact Option.some.inj hq
          grind
      refine⟨q.2,Y.AW rfl,AE (λhle=>⟨⟨k+1,ei,by omega,aJ,m0,m1,m2,m3,aD _ hle T,u⟩,by omega⟩) λbJ=> ?_⟩;have aB: ∀w',Sat [Cells aO E.AB [.int .u64 q.1,.int .u64 q.2],Old w9] w'-> ¬(at_<=q.1/\AD<=q.1-at_)-> ∀(nx:Int->Prop),
          (∀a,(a %512=0/\512<=a/\J<=a/\a<=34359738880/\(∀p∈V.laid.take (k+1),p.2<=a)/\(∀a',a' %512=0->512<=a'->J<=a'->a'<a-> ∃m,a'<=m/\m<a'+AD/\mem V.laid m))->Ext AN w w'->nx a)->
          ∃aT:Int,w'.cell? ⟨aO,1,none⟩=some (.int .u64 aT)/\512≠(0:Int)/\JB (u64 ((u64 (Int.tdiv (u64 ((u64 (aT+512))-1)) 512))*512):Int) λaK=>nx aK:=by
        intro w' H' bM nx a1;refine⟨q.2,H'.AW rfl,by decide,AZ λa ha=> ?_⟩;rw[aR q.2 (by omega) (by omega)]at ha;refine a1 a ⟨by omega,by omega,by omega,by omega,aD a (by omega) λp hp=>by have:=T p hp;omega,λa' b1 b2 b3 b4=> ?_⟩ (aF.trans' (H'.Pq 1 rfl));by_cases e:a'<at_
        . exact u a' b1 b2 b3 e
        . by_cases e2:q.1<=a'
          . exact⟨a',by omega,by omega,q,List.mem_of_getElem? hq,e2,by omega⟩
          . exact⟨q.1,by omega,by omega,q,List.mem_of_getElem? hq,by omega,by omega⟩
      refine Ad ⟨q.1,Y.AW rfl,AE (λa9=>⟨q.1,Y.AW rfl,?_⟩) λaQ j=>aB aN Y (λh=>aQ h.1) _ λa h1 h2=> ?_⟩
      . rw[AP (n:=q.1-at_)];refine AE (λbA=>⟨aJ,⟨m0,m1,m2,λm h1 h2 hm=> ?_,u⟩,m3⟩) λbC j=>aB aN Y (λh=>by omega) _ λa h1 h2=> ?_
        . obtain⟨p,hp,h3,h4⟩:=hm;obtain⟨i,hi⟩:=List.mem_iff_getElem?.1 hp;rcases Nat.lt_trichotomy i k with h|h|h
          . have:=T p (List.mem_of_getElem? (i:=i) (by grind));omega
          . grind
          . have:=hr.ok.lt h hq hi;omega
        . exact⟨⟨k+1,ei,by omega,h2,h1.1,h1.2.1,h1.2.2.1,h1.2.2.2.1,h1.2.2.2.2.1,h1.2.2.2.2.2⟩,by omega⟩
      . exact⟨⟨k+1,ei,by omega,h2,h1.1,h1.2.1,h1.2.2.1,h1.2.2.2.1,h1.2.2.2.2.1,h1.2.2.2.2.2⟩,by omega⟩
    . obtain⟨p,hp,h3,h4⟩:=hm
      grind
  . rintro⟨at_,v⟩ _ w4 ⟨aS,O,aH⟩;simp only at O aH⊢;refine Wx hE (H.nothing aS) (by have:=O.low;omega) (by omega) (by omega) p1 λr w' a2 a3=>a0 (by omega) at_ r w' O aH ?_ (aS.trans' a3);rw[a2];have:=O.mul;have:=O.low;constructor
    . intro h;exact h.2.2.1
    . intro h;exact⟨O.mul,by omega,h,(Ht hr.ok (by omega)).2 O.free⟩
end
def rG(l:Iv)(hint AD at_:Int):Prop:=hint<=34359738368/\QB l hint AD at_/\at_+AD<=34359738368
def Oa(l:Iv)(hint AD:Int):Prop:=34359738368<hint∨ ∃a,QB l hint AD a/\ ¬a+AD<=34359738368
def X0(V:VS)(AD:Int):Prop:= ∀p r,V.pl=p::r-> ¬Ww V.laid p AD
def Ob(V:VS)(hint AD at_:Int):Prop:=
 (∃p r,V.pl=p::r/\Ww V.laid p AD/\at_=p)∨(X0 V AD/\(rG V.laid hint AD at_∨(Oa V.laid hint AD/\rG V.laid 0 AD at_)))
def Uv(V:VS)(hint AD:Int):Prop:=X0 V AD/\Oa V.laid hint AD/\Oa V.laid 0 AD
def QB.fits{l:Iv}(h:Ok l){hint AD at_:Int}(p0:0<AD)(a:QB l hint AD at_)(e:at_+AD<=34359738368):Ww l at_ AD:=
 ⟨a.mul,by have:=a.low;omega,e,(Ht h (by omega)).2 a.free⟩
def Ob.fits{V:VS}(h:Ok V.laid){hint AD at_:Int}(p0:0<AD)(e:Ob V hint AD at_):Ww V.laid at_ AD:=by
 rcases e with ⟨p,r,_,h1,rfl⟩|⟨_,⟨_,h1,a⟩|⟨_,_,h1,a⟩⟩
 .exact h1
 .exact h1.fits h p0 a
 .exact h1.fits h p0 a
section
variable{E:Env}{b:Nat}{V:VS}{Rs:List Pr}{w:World}(hE:EnvS E)
include hE
theorem X1(H:Sat (B8 E b V::Rs) w){hint AD:Int}(h0:0<=hint)(h1:hint<18446744073709551616)(p0:0<=AD)(p1:AD<18446744073709551616){K:Int->Int->World->Prop}
  (aS:(AD=0∨AD %512≠0∨134217728<AD)->K 0 1 w)
  (bI: ¬(AD=0∨AD %512≠0∨134217728<AD)-> ∀r,V.rf=true::r-> ∀w',Sat (B8 E b {V with rf:=r}::Rs) w'->K 0 13 w')
  (bJ: ¬(AD=0∨AD %512≠0∨134217728<AD)->(∀r,V.rf≠true::r)->Uv V hint AD-> ∀w',Sat (B8 E b {V with rf:=V.rf.tail,pl:=V.pl.tail}::Rs) w'->K 0 13 w')
  (bK: ¬(AD=0∨AD %512≠0∨134217728<AD)->(∀r,V.rf≠true::r)-> ∀at_,Ob V hint AD at_-> ∀w',Sat (B8 E b {V with rf:=V.rf.tail,pl:=V.pl.tail,laid:=DZ V.laid at_ (at_+AD)}::Rs) w'->K at_ 0 w'):
  F.D0 E (sM b) hint AD K w:=by
 unfold F.D0 T0.D0;simp only[Nat.mul_one];rw[Int.tmod_eq_emod_of_nonneg p0];refine Ad (C6 (λe j=>Aa rfl (aS (.inl e))) λn1=>⟨by decide,Gm (λe j=>Aa rfl (aS (.inr (.inl e)))) λn2 j=>AE (λe=>aS (.inr (.inr e))) λn3=> ?_⟩);have aA: ¬(AD=0∨AD %512≠0∨134217728<AD):=by omega
 obtain⟨g,hI,H⟩:=Sat.RC.1 H;obtain⟨aN,bV,bW⟩:=RD H;simp only[AK,add_eq,Nat.zero_add];have aD:(∀r,V.rf≠true::r)-> ∀(sr:AY) (w7:World),Sat (Gc E b {V with rf:=V.rf.tail} {g with sr:=sr}++Rs) w7->
   F.EL E (sM b) (λr9 bQ aI=>
    At (Bool×Unit) (λa2=>
     CND (bQ) (
      F.EF E (sM b) r9 AD (λbR aW=>
      a2 (bR,()) aW
      ) aI
     ) (
      a2 (false,()) aI
     )
    ) λIS _ aE=>
     AL (.cells ⟨[.int .u64 hint,.int .u64 0]⟩ E.AF) aE λY aJ=>
     BK (Int×Bool×Int×Unit) (r9,IS.1,0,()) aJ λJR _ J u=>
      CND (decide ((JR.2.2.1:Int)<2)) (
       ((0:Int)<=JR.2.2.1/\(JR.2.2.1:Int)<(2:Nat))/\
       ∃aG:Int,J.cell? (Addr.mk Y (Int.toNat JR.2.2.1) none)=some (.int .u64 aG)/\
       CND (!JR.2.1) (
        F.Dk E (sM b) aG AD (λaU aV aK=>
        u (aU,aV,i64 (JR.2.2.1+1),()) aK
        ) J
       ) (
        u (JR.1,JR.2.1,i64 (JR.2.2.1+1),()) J
       )
      ) (
       CND (!JR.2.1) (
        K 0 13 J
       ) (
        F.A3 E (some ⟨b,3,none⟩) JR.1 (u64 (JR.1+AD)) (λaF=>
        K JR.1 0 aF
        ) J
       )
      )) w7:=by
  intro a6 sr w7 H7;have aB: ∀(sp:AY) (pl:List Int) (aO:Int) (aH:Bool) (aE:World),pl=V.pl.tail->(aH=true->Ob V hint AD aO)->(aH=false->X0 V AD)->
    Sat (Gc E b {V with rf:=V.rf.tail,pl:=pl} {g with sr:=sr,sp:=sp}++Rs) aE->
    AL (.cells ⟨[.int .u64 hint,.int .u64 0]⟩ E.AF) aE λY aJ=>
     BK (Int×Bool×Int×Unit) (aO,aH,0,()) aJ λJR _ J u=>
      CND (decide ((JR.2.2.1:Int)<2)) (
       ((0:Int)<=JR.2.2.1/\(JR.2.2.1:Int)<(2:Nat))/\
       ∃aG:Int,J.cell? (Addr.mk Y (Int.toNat JR.2.2.1) none)=some (.int .u64 aG)/\
       CND (!JR.2.1) (
        F.Dk E (sM b) aG AD (λaU aV aK=>
        u (aU,aV,i64 (JR.2.2.1+1),()) aK
        ) J
       ) (
        u (JR.1,JR.2.1,i64 (JR.2.2.1+1),()) J
       )
      ) (
       CND (!JR.2.1) (
        K 0 13 J
       ) (
        F.A3 E (some ⟨b,3,none⟩) JR.1 (u64 (JR.1+AD)) (λaF=>
        K JR.1 0 aF
        ) J
       )
      ):=by
   intro sp pl aO aH aE T bG bM bB;subst T;have aP:mM {V with rf:=V.rf.tail,pl:=V.pl.tail} {g with sr:=sr,sp:=sp}:=⟨hI.wd,hI.pg,hI.fi,hI.rl,hI.el,hI.re,hI.OZ,λx hx=>hI.vD x (List.mem_of_mem_tail hx)⟩;refine AJ bB λY aJ bC _=> ?_;refine AM (λst w'=>0<=st.2.2.1/\st.2.2.1<=2/\Sat (Cells Y E.AF [.int .u64 hint,.int .u64 0]::(Gc E b {V with rf:=V.rf.tail,pl:=V.pl.tail} {g with sr:=sr,sp:=sp}++Rs)) w'/\
    (st.2.1=true->Ob V hint AD st.1)/\(st.2.1=false->X0 V AD/\(1<=st.2.2.1->Oa V.laid hint AD)/\(2<=st.2.2.1->Oa V.laid 0 AD))) (λst _=>(2-st.2.2.1).toNat)
    ⟨Int.le_refl _,by grind,bC,bG,λh=>⟨bM h,λh=>by simp only at h;omega,λh=>by simp only at h;omega⟩⟩ ?_
   rintro⟨at_,ok,k,v⟩ _ J ⟨k0,k1,O,hc,hn⟩;simp only at k0 k1 O hc hn⊢;refine AE (λb0=> ?_) λbZ=> ?_
   .rw[AI (n:=k+1)];refine⟨⟨k0,by omega⟩,if k=0 then hint else 0,?_,?_⟩
    .by_cases e:k=0
     .subst e;exact O.AW rfl
     .have:k=1:=by omega
      subst this;exact O.AW rfl
    cases ok with
    | true=>exact AR rfl ⟨⟨by omega,by omega,O,hc,λh=>by cases h⟩,by omega⟩
    | false=>
     obtain⟨n1,n2,n3⟩:=hn rfl;have bN:0<=(if k=0 then hint else 0):=by omega
     have bO:(if k=0 then hint else 0)<18446744073709551616:=by omega
     have a5:Oa V.laid (if k=0 then hint else 0) AD->(1<=k+1->Oa V.laid hint AD)/\(2<=k+1->Oa V.laid 0 AD):=by grind
     refine Aa rfl (eN hE aP O.tail bN bO (by omega) (by omega) (λbH=> ?_) λhle a r aK T bY hr a8=> ?_)
     .exact⟨⟨by omega,by omega,O,λh=>(by cases h),λ_=>⟨n1,a5 (.inl bH)⟩⟩,by omega⟩
     .refine⟨⟨by omega,by omega,O.nothing a8,λh=> ?_,λh=>⟨n1,a5 (.inr ⟨a,T,λh2=> ?_⟩)⟩⟩,by omega⟩
      .have aL:=hr.1 h;refine .inr ⟨n1,?_⟩;by_cases e:k=0
       .rw[if_pos e]at T hle;exact .inl ⟨hle,T,aL⟩
       .rw[if_neg e]at T hle;exact .inr ⟨n2 (by omega),hle,T,aL⟩
      grind
   .have a4:k=2:=by omega
    subst a4;cases ok with
    | false=>
     obtain⟨n1,n2,n3⟩:=hn rfl;exact Aa rfl (bJ aA a6 ⟨n1,n2 (by decide),n3 (by decide)⟩ J (Sat.RC.2 ⟨_,aP,O.tail⟩))
    | true=>
     have aQ:=hc rfl;have aR:=aQ.fits aN (by omega);have hmul:=aR.1;have b1:=aR.2.1;have aM:0<=at_:=by
      rcases aQ with ⟨p,r,h1,_,h2⟩|⟨_,⟨_,h1,_⟩|⟨_,_,h1,_⟩⟩
      .rw[h2];exact(hI.vD p (by rw[h1];simp)).1
      .have:=h1.low;omega
      .have:=h1.low;omega
     have bT:=aR.2.2.1;have bU:OT=4398046511104:=rfl;rw[AP (n:=at_+AD)];refine AR rfl (dJ hE O.tail (o:=3) rfl rfl aM (by omega) (by omega) λaF s' bD=>bK aA a6 at_ aQ aF (Sat.RC.2 ⟨{g with sr:=sr,sp:=sp,s1:=s'},?_,bD⟩));have hm: ∀p,mem (DZ V.laid at_ (at_+AD)) p↔mem V.laid p∨(at_<=p/\p<at_+AD):=λp=>Eb aN (by omega) aM (by omega) p;refine⟨hI.wd,hI.pg,hI.fi,λp hp=>(hm p).2 (.inl (hI.rl p hp)),λp hp=>(hm p).2 (.inl (hI.el p hp)),hI.re,λp hp=> ?_,aP.vD⟩;rcases(hm p).1 hp with h|h
     .exact hI.OZ p h
     .omega
  refine Zp (o:=0) (H7.BQ 3 rfl) rfl (λaC=> ?_) λx r hx aI bA=> ?_
  .refine Ad (AR rfl λj=>aB g.sp V.pl 0 false w7 ?_ (λh=>by cases h) (λ_ p r h=> ?_) H7)
   .grind
   grind
  .have aT:V.pl=x::r:=hx;have a0:Sat (Gc E b {V with rf:=V.rf.tail,pl:=r} {g with sr:=sr,sp:=⟨KE g.sp.base g.sp.cap 1 1,g.sp.len-1,g.sp.cap-1⟩}++Rs) aI:=Sat.OI 3 bA (by simp[Gc]);obtain⟨x0,x1⟩:=hI.vD x (by rw[aT];simp);refine Ad (Aa rfl (Wx hE a0 x0 x1 (by omega) (by omega) λbE aW a3 a7 j=>aB _ r x bE aW (by rw[aT];rfl) (λh=>.inl ⟨x,r,aT,a3.1 h,rfl⟩) (λh p r' hp hf=> ?_) (a0.nothing a7)))
   grind
 refine Wv H (λaC=>AR rfl (aD (λr h=>by grind) g.sr w ?_)) λx r hx w7 H7=> ?_
 .rw[aC];have:{V with rf:=[]}=V:=by rw[<-aC]
  show Sat (Gc E b {V with rf:=[]} {g with sr:=g.sr}++Rs) w;rw[this];exact H
 .refine AX (λe=>bI aA r (by rw[hx,e]) w7 (Sat.RC.2 ⟨{g with sr:=⟨KE g.sr.base g.sr.cap 1 1,g.sr.len-1,g.sr.cap-1⟩},⟨hI.wd,hI.pg,hI.fi,hI.rl,hI.el,hI.re,hI.OZ,hI.vD⟩,H7⟩)) λe=>aD (λr' h=> ?_) ⟨KE g.sr.base g.sr.cap 1 1,g.sr.len-1,g.sr.cap-1⟩ w7 ?_
  .grind
  .rw[hx];exact H7
end
def Zq{p:Int×Int}{a b n:Int}:mem (KN p a b) n↔(p.1<=n/\n<p.2)/\a<=n/\n<b:=by
 unfold KN;split
 .constructor
  .intro h;exact absurd h (Bz n)
  omega
 .rw[mem_cons];constructor
  .rintro(h|h)
   .omega
   .exact absurd h (Bz n)
  omega
def Oc{l:Iv}{a b n:Int}:mem (withinL l a b) n↔mem l n/\a<=n/\n<b:=by
 induction l with
 | nil=>exact⟨λh=>absurd h (Bz n),λh=>absurd h.1 (Bz n)⟩
 | cons p r ih=>
  rw[withinL,mem_append,Zq,ih,mem_cons]
  grind
def Uw{l:Iv}(h:Ok l){a b:Int}(j:a<b):Ok (withinL l a b):=by
 induction l with
 | nil=>exact trivial
 | cons p r ih=>
  rw[withinL,FB];refine⟨?_,ih h.tail,?_⟩
  .unfold KN;split
   .exact trivial
   .have:=h.1;have:=h.2.1;have:=h.2.2.1;exact⟨by omega,by omega,by omega,by simp,trivial⟩
  .intro q J u e;obtain⟨h1,v,K⟩:=P6 h.tail j u e;have hm:mem r u.1:=(Oc.1 ⟨u,e,Int.le_refl _,v⟩).1;obtain⟨z,hz,O,T⟩:=hm;have:=h.2.2.2.1 z hz;unfold KN at J
   grind
def X2(l:Iv)(n:Int):Bool:=l.any λq=>decide (q.1<=n/\n<q.2)
def Jl{l:Iv}{n:Int}:X2 l n=true↔mem l n:=by
 unfold X2 mem
 grind
section
variable{E:Env}{b:Nat}{V:VS}{Rs:List Pr}{w:World}
def Ux{page AD:Int}(h0:0<=page)(p0:0<=AD)(p1:AD<18446744073709551616){K:Bool->World->Prop}(a:K (decide (AD≠0/\page+AD<=34359738368)) w):F.LZ E page AD K w:=by
 unfold F.LZ;refine Gm (λz=>AE (λhle=> ?_) λe=> ?_) λz=> ?_
 .rw[AP (n:=34359738368-page)];rwa[show decide (AD<=34359738368-page)=decide (AD≠0/\page+AD<=34359738368)from decide_eq_decide.2 (by omega)]
 .rwa[show decide (AD≠0/\page+AD<=34359738368)=false from decide_eq_false (by omega)]at a
 .rwa[show decide (AD≠0/\page+AD<=34359738368)=false from decide_eq_false (by omega)]at a
variable(hE:EnvS E)
include hE
theorem Wy{t o:Nat}{vs:List Value}{s:AY}{l:Iv}{rest:List Pr}(H:Sat (Cells b t vs::NP E s l::rest) w)(h0:vs[o]? =some (.slice s.base s.len s.cap))(h1:vs[o+1]? =some (.int .u64 (Hm l)))
  {x y:Int}(u:0<=x)(J:y<18446744073709551616){K:AY->World->Prop}
  (v: ∀s' w',Sat (Row E.AB 2 s' (flat (withinL l x y))::Cells b t vs::NP E s l::rest) w'->Ext AN w w'->K s' w'):F.BX E (some ⟨b,o,none⟩) x y K w:=by
 refine Zj hE (H.setAt h0 h1).row u J λs' w' e j=>v s' w' ?_ j;exact H.new (P:=Row E.AB 2 s' (flat (withinL l x y))) (D:=PS s') j ⟨λ_=>Iff.rfl,e.lower (Nat.zero_le _)⟩ λk O=>by
  obtain⟨a,u,rfl⟩:=O;exact(e.lt u).1
end
section
variable{E:Env}{b:Nat}{V:VS}{Rs:List Pr}{w:World}
def Sx{pb:Nat}{Y:Int->Option Value}{rest:List Pr}(H:Sat (CM pb .u64 Y::rest) w){x y:Int}(hx:0<=x)(aT:x<=y)(hy:y<18446744073709551616){K:World->Prop}
  (hK: ∀w',Sat (CM pb .u64 (λi=>if x<=i/\i<y then none else Y i)::rest) w'->K w'):
  (∃aH:Array MapEntry,Qa w (some pb) aH/\
   CND (decide (((u64 (((aH.size:Nat):Int))):Int)<(u64 (y-x)))) (
    ∃aG,N3 w (some pb) aG/\
    AL (Jz (some pb) aG) w λb3 w4=>
    BK (Unit) (()) w4 λs5 _ w6 u=>
     At (Bool×Unit) (λJ8=>
      TZ b3 w6 (λaV=>
       J8 (false,()) aV
      ) λbD bE aW=>
       J8 (true,()) aW
     ) λs9 _ aJ=>
      At (Bool×Unit) (λaN=>
       CND (s9.1) (
        aN (s9.1,()) aJ
       ) (
        K aJ
       )
      ) λZf _ aD=>
       oA b3 aD λaU bF a4=>
       T7 .u64 aU λaE=>
       At (Bool×Unit) (λaF=>
        CND (decide ((aE:Int)≥x)) (
         aF (decide ((aE:Int)<y),()) aD
        ) (
         aF (false,()) aD
        )
       ) λUm _ aK=>
        CND (Um.1) (
         MDEL .u64 aE (some pb) aK λaX=>
         u (()) aX
        ) (
         u (()) aK
        )
   ) (
    BK (Int×Unit) (x,()) w λNl _ O J=>
     CND (decide ((Nl.1:Int)<y)) (
      MDEL .u64 Nl.1 (some pb) O λaL=>
      J (u64 (Nl.1+1),()) aL
     ) (
      K O
     )
   )):=by
 obtain⟨es,c,m,h1,h2,h3⟩:=H.O9;refine⟨es,⟨c,h1⟩,AX (λ_=> ?_) λ_=> ?_⟩
 .refine⟨c,⟨es,h1⟩,A4 λw4 aO a2 aA=> ?_⟩;have bB:=FM h1;have H4:=H.nothing aA;have aS:w.heap.size≠pb:=by omega
  refine range_del (K:=K) (m0:=m) (m1:=m) (es0:=es) (seen0:= #[]) (mb:=pb) (since:=c) (a:=x) (b:=y) (getm:=λK' w=>K' (some pb) w) (λw' K' he hk=>hk)
   ⟨⟨c,aO,.inl rfl⟩,aA.obj h1 λf=>f,h2,λ_ _=>rfl,λ_ _ h=>h,λe _ h=>by simp at h⟩ aS (by omega) (by omega) λw' a5 m' aP _ aC aI aB=> ?_
  refine hK w' (H.mapStep (aA.trans aP (λ_ _ f=>f.elim) λi hi hs=> ?_) aC aI λi=> ?_)
  .rcases hs with e|e
   .omega
   .exact e
  .rw[aB,h3]
 .refine AM (λst w'=>x<=st.1/\st.1<=y/\Sat (CM pb .u64 (λi=>if x<=i/\i<st.1 then none else Y i)::rest) w') (λst _=>(y-st.1).toNat) ⟨Int.le_refl _,aT,?_⟩ ?_
  .have:(λi=>if x<=i/\i<x then none else Y i)=Y:=by funext i;rw[if_neg (by omega)]
   simp only[this];exact H
  rintro⟨i,v⟩ _ O ⟨aQ,aR,T⟩;simp only at aQ aR T⊢;refine AE (λbA=>Qw T λaL aM=> ?_) λa8=>hK O ?_
  .rw[AP (n:=i+1)];refine⟨⟨by show x<=i+1;omega,by show i+1<=y;omega,?_⟩,by show(y-(i+1)).toNat<(y-i).toNat;omega⟩;have:(λj=>if x<=j/\j<i+1 then none else Y j)=λj=>if j=i then none else if x<=j/\j<i then none else Y j:=by
    funext j;by_cases e:j=i
    .rw[if_pos (by omega),if_pos e]
    .rw[if_neg e];by_cases e2:x<=j/\j<i
     .rw[if_pos (by omega),if_pos e2]
     .rw[if_neg (by omega),if_neg e2]
   simp only[this];exact aM
  .have:i=y:=by omega
   subst this;exact T
end
def Lb(V:VS)(page p:Int):Int:=V.fl.getD (cnt V.rel page p).toNat 0
def RE(V:VS)(page AD:Int):VS:=
 {V with rf:=V.rf.tail,ready:=DZ V.ready page (page+AD),rel:=DO V.rel page (page+AD),fl:=V.fl.drop (cnt V.rel page (page+AD)).toNat,wd:=λp i=>if page<=p/\p<page+AD/\X2 V.rel p=true then Lb V page p else V.wd p i}
def RF(V:VS)(page AD:Int):VS:=
 {V with ready:=DO V.ready page (page+AD),rel:=DZ V.rel page (page+AD),wd:=λp i=>if page<=p/\p<page+AD then 0 else V.wd p i}
def Od(page AD:Int):Prop:=AD≠0/\page+AD<=34359738368
def Zr{l:Iv}(h:Ok l){a x y:Int}(h1:a<=x)(j:x<=y)(e: ∀n,x<=n->n<y-> ¬mem l n):cnt l a y=cnt l a x:=by
 rw[O4 (Ok.o5 h) h1 j,(Ht h j).2 e];omega
def Sat.SJ{P:Pr}{w:World}(Qs:List Pr){T:List Pr}(H:Sat (P::(Qs++T)) w):Sat (Qs++P::T) w:=H.perm List.perm_middle.symm
def Sat.RG{P:Pr}{w:World}(Qs:List Pr){T:List Pr}(H:Sat (Qs++P::T) w):Sat (Qs++T) w:=(H.perm List.perm_middle).tail
def Nw(V:VS)(g:VG)(page x p:Int):Option Int:=
 if page<=p/\p<x/\X2 V.rel p=true then(if Lb V page p=0 then none else some (Lb V page p))else g.f p
def RH{V:VS}{g:VG}{page x y:Int}(j:x<=y)(h: ∀p,x<=p->p<y->mem V.rel p->page<=p->Lb V page p=0/\g.f p=none):Nw V g page y=Nw V g page x:=by
 funext p;unfold Nw;by_cases e:page<=p/\p<x/\X2 V.rel p=true
 .grind
 .rw[if_neg e];by_cases e2:page<=p/\p<y/\X2 V.rel p=true
  .rw[if_pos e2];have a:x<=p:=by
    by_cases e3:x<=p
    .exact e3
    .exact absurd ⟨e2.1,by omega,e2.2.2⟩ e
   obtain⟨h1,u⟩:=h p a e2.2.1 (Jl.1 e2.2.2) e2.1
   grind
  grind
def rH{V:VS}{g:VG}{page p:Int}(a:page<=p)(hm:mem V.rel p)(q:Int):
  Nw V g page (p+1) q=if q=p then(if Lb V page p=0 then none else some (Lb V page p))else Nw V g page p q:=by
 unfold Nw;by_cases e:q=p
 .subst e;rw[if_pos ⟨a,by omega,Jl.2 hm⟩,if_pos rfl]
 grind
section
variable{E:Env}{b:Nat}{V:VS}{Rs:List Pr}{w:World}(hE:EnvS E)
include hE
theorem commit_spec(H:Sat (B8 E b V::Rs) w){page AD:Int}(h0:0<=page)(h1:page<18446744073709551616)(p0:0<=AD)(p1:AD<18446744073709551616){K:Int->World->Prop}
  (cJ: ¬Od page AD->K 1 w)
  (cK:Od page AD->cnt V.laid page (page+AD)≠AD-> ∀w',Ext AN w w'->K 33 w')
  (aO:Od page AD->cnt V.laid page (page+AD)=AD->cnt V.ready page (page+AD)=AD-> ∀w',Ext AN w w'->K 0 w')
  (cL:Od page AD->cnt V.laid page (page+AD)=AD->cnt V.ready page (page+AD)≠AD-> ∀r,V.rf=true::r-> ∀w',Sat (B8 E b {V with rf:=r}::Rs) w'->K 13 w')
  (cM:Od page AD->cnt V.laid page (page+AD)=AD->cnt V.ready page (page+AD)≠AD->(∀r,V.rf≠true::r)-> ∀w',Sat (B8 E b (RE V page AD)::Rs) w'->K 0 w'):
  F.CJ E (sM b) page AD K w:=by
 obtain⟨g,hI,H⟩:=Sat.RC.1 H;obtain⟨oH,eO,Yy⟩:=RD H;unfold F.CJ T0.CJ;refine Ux h0 p0 p1 (Ky (AE (λhr=> ?_) λhr=>cJ hr));have dK:=hr.1;have dL:=hr.2;simp only[AK,add_eq,Nat.zero_add];rw[AP (n:=page+AD)];refine Q9 hE H (o:=3) rfl rfl h0 (by omega) (by omega) λw5 a2=> ?_;refine Gm (λhl=>cK hr hl w5 a2) λhl=> ?_;refine Q9 hE ((H.nothing a2).BQ 1 rfl) (o:=5) rfl rfl h0 (by omega) (by omega) λw8 cW=> ?_;have aV:=a2.trans' cW;refine C6 (λhd=>aO hr hl hd w8 aV) λhd=> ?_;have H8:=H.nothing aV;have aY: ∀p,page<=p->p<page+AD->mem V.laid p:=(Hq oH (a:=page) (b:=page+AD) (by omega)).1 (by omega);have aJ:(∀r,V.rf≠true::r)-> ∀(sr:AY) (a4:World),Sat (Gc E b {V with rf:=V.rf.tail} {g with sr:=sr}++Rs) a4->
   At (Unit) (λbE=>
    F.BX E (some ⟨b,7,none⟩) page (page+AD) (λa3 a5=>
    BK (Int×Unit) (0,()) a5 λJR _ aD aP=>
     CND (decide ((JR.1:Int)<((a3.len:Nat):Int))) (
      NC a3.base λbT=>
      ((0:Int)<=JR.1/\(JR.1:Int)<(a3.len:Nat))/\
      ∃bF:Int,aD.cell? ((bT.add (Int.toNat JR.1*2)).add 0)=some (.int .u64 bF)/\
      ∃bG:Int,aD.cell? ((bT.add (Int.toNat JR.1*2)).add 1)=some (.int .u64 bG)/\
      AL (.cells #[.int .u64 0,.int .u64 0] E.AB) aD λaB bW=>
      stCells (Addr.mk aB 0 none) 0 [.int .u64 bF,.int .u64 bG] bW λa6=>
      ∃bY:Int,a6.cell? (Addr.mk aB 0 none)=some (.int .u64 bY)/\
      BK (Int×Unit) (bY,()) a6 λLp _ O aA=>
       ∃bZ:Int,O.cell? (Addr.mk aB 1 none)=some (.int .u64 bZ)/\
       CND (decide ((Lp.1:Int)<bZ)) (
        ∃aQ:AY,O.cell? (Addr.mk b 2 none)=some (.slice aQ.base aQ.len aQ.cap)/\
        CND ((((aQ.len:Nat):Int):Int)==0) (
         bE (()) O
        ) (
         F.EL E (some (Addr.mk b 2 none)) (λbU dN aM=>
         CND ((bU:Int) !=0) (
          ∃b0:(Option Nat),aM.cell? (Addr.mk b 9 none)=some (.map b0)/\
          KT .u64 Lp.1 (.int .u64 bU) b0 aM λa7=>
          aA (u64 (Lp.1+1),()) a7
         ) (
          aA (u64 (Lp.1+1),()) aM
         )
         ) O
        )
       ) (
        aP (i64 (JR.1+1),()) O
       )
     ) (
      bE (()) aD
     )
    ) a4
   ) λM6 _ bV=>
    F.BW E (some (Addr.mk b 7 none)) page (page+AD) (λbX=>
    F.A3 E (some (Addr.mk b 5 none)) page (page+AD) (λa8=>
    K 0 a8
    ) bX
    ) bV:=by
  intro cT sr a4 b2;have aX: ∀p,mem V.rel p->g.f p=none:=λp hp=>by
   cases hf:g.f p with
   | none=>rfl
   | some v=>exact absurd hp (hI.re p (hI.fi p (by grind)))
  refine AV (λ_ w'=> ∃sf,Sat (Gc E b {V with rf:=V.rf.tail,fl:=V.fl.drop (cnt V.rel page (page+AD)).toNat} {g with sr:=sr,sf:=sf,f:=Nw V g page (page+AD)}++Rs) w') ?_ ?_
  .refine Wy hE (b2.BQ 2 rfl) (o:=7) rfl rfl h0 (by omega) λs' a5 bA _=> ?_;have aE:Sat (Gc E b {V with rf:=V.rf.tail} {g with sr:=sr}++Row E.AB 2 s' (flat (withinL V.rel page (page+AD)))::Rs) a5:=
    Sat.SJ (Gc E b {V with rf:=V.rf.tail} {g with sr:=sr}) (bA.perm (.cons _ (.cons _ (EH (i:=2) rfl).symm)))
   clear bA;have Y:=Uw Yy (a:=page) (b:=page+AD) (by omega);generalize hm:withinL V.rel page (page+AD)=m at aE Y;have aG: ∀n,mem m n↔mem V.rel n/\page<=n/\n<page+AD:=λn=>by rw[<-hm];exact Oc
   have bI: ∀q∈m,page<=q.1/\q.1<q.2/\q.2<=page+AD:=by rw[<-hm];exact P6 Yy (by omega)
   have cC:=Ed V.rel page;have dF: ∀c,V.fl.length<=c->V.fl.getD c 0=0:=λc hc=>by grind
   have aS: ∀x,page<=x->x<=page+AD->(cnt V.rel page x).toNat<=V.fl.length->((∀n,x<=n->n<page+AD-> ¬mem V.rel n)∨V.fl.drop (cnt V.rel page x).toNat=[])-> ∀sf (T:List Pr) w',
     Sat (Gc E b {V with rf:=V.rf.tail,fl:=V.fl.drop (cnt V.rel page x).toNat} {g with sr:=sr,sf:=sf,f:=Nw V g page x}++T) w'->
     Sat (Gc E b {V with rf:=V.rf.tail,fl:=V.fl.drop (cnt V.rel page (page+AD)).toNat} {g with sr:=sr,sf:=sf,f:=Nw V g page (page+AD)}++T) w':=by
    intro x aK aL bH cP sf T w' hS;rcases cP with aH|u
    .have e1:=Zr Yy aK aL aH;have e2:Nw V g page (page+AD)=Nw V g page x:=RH aL λp h1 h2 h3 _=>absurd h3 (aH p h1 h2)
     grind
    .have hlen:V.fl.length<=(cnt V.rel page x).toNat:=List.drop_eq_nil_iff.1 u;have hle: ∀p,x<=p->cnt V.rel page x<=cnt V.rel page p:=λp hp=>by
      rw[O4 (Ok.o5 Yy) aK hp];have:=Ed V.rel x p;omega
     have e1:V.fl.drop (cnt V.rel page (page+AD)).toNat=V.fl.drop (cnt V.rel page x).toNat:=by
      rw[u,List.drop_eq_nil_iff]
      grind
     have e2:Nw V g page (page+AD)=Nw V g page x:=RH aL λp h1 h2 h3 _=>⟨by
      unfold Lb
      grind,aX p h3⟩
     grind
   have aU: ∀{T:List Pr} {sf fl f w'},Sat (Gc E b {V with rf:=V.rf.tail,fl:=fl} {g with sr:=sr,sf:=sf,f:=f}++Row E.AB 2 s' (flat m)::T) w'->I2 w' 0 E.AB 2 s' (flat m):=λh=>(h.front 10 rfl).own;have cU:s'.len=m.length:=by
    have:=(aU (T:=Rs) (sf:=g.sf) (fl:=V.fl) (f:=g.f) aE).len;rw[D7]at this;omega
   have cN:m.length<=34359738368:=by
    have: ∀(l:Iv) (B:Int),Ok l->(∀q∈l,B<=q.1/\q.2<=34359738368)->B<=34359738368->(l.length:Int)<=34359738368-B:=by
     intro l
     induction l with
     | nil=>grind
     | cons q r ih=>
      intro B ho hb _;have h1:=hb q List.mem_cons_self;have h2:=ho.2.1;have:=ih q.2 ho.tail (λq' bN=>⟨by have:=ho.2.2.2.1 q' bN;omega,(hb q' (List.mem_cons_of_mem _ bN)).2⟩) h1.2
      grind
    have:=this m 0 Y (λq hq=>⟨by grind,by grind⟩) (by decide);omega
   refine AM (λst w'=> ∃(k:Nat) (x:Int) (sf:AY),st.1=(k:Int)/\k<=m.length/\page<=x/\x<=page+AD/\(cnt V.rel page x).toNat<=V.fl.length/\(∀q∈m.take k,q.2<=x)/\(∀q∈m.drop k,x<=q.1)/\
     Sat (Gc E b {V with rf:=V.rf.tail,fl:=V.fl.drop (cnt V.rel page x).toNat} {g with sr:=sr,sf:=sf,f:=Nw V g page x}++Row E.AB 2 s' (flat m)::Rs) w') (λst _=>(m.length-st.1).toNat)
    ⟨0,page,g.sf,rfl,Nat.zero_le _,Int.le_refl _,by omega,?_,by simp,λq hq=>(bI q (by simpa using hq)).1,?_⟩ ?_
   .have:cnt V.rel page page=0:=(Ht Yy (Int.le_refl _)).2 λn h1 h2=>by omega
    omega
   .have e1:cnt V.rel page page=0:=(Ht Yy (Int.le_refl _)).2 λn h1 h2=>by omega
    have e2:Nw V g page page=g.f:=by funext p;unfold Nw;grind
    rw[e1,e2];exact aE
   rintro⟨i,v⟩ _ aD ⟨k,x,sf,hk,dH,aK,aL,bH,cV,cE,aW⟩;simp only at hk⊢;subst hk;refine AE (λbK=> ?_) λcG=> ?_
   .have aO:k<m.length:=by omega
    obtain⟨q,hq⟩: ∃q,m[k]? =some q:=⟨_,List.getElem?_eq_getElem aO⟩;have bO:=List.mem_of_getElem? hq;obtain⟨g1,g2⟩:=Mt m k q hq;obtain⟨q1,q2,q3⟩:=bI q bO;have aI:=aU aW;obtain⟨bb,hb⟩:=aI.G7 (by omega);have c1:=aI.cell hb g1;have c2:=aI.cell hb g2;rw[add_eq,Nat.zero_add]at c1 c2;rw[hb];simp only[AK,add_eq,Nat.zero_add,Int.toNat_natCast,Nat.add_zero];refine⟨⟨by omega,by omega⟩,q.1,c1,q.2,c2,?_⟩;refine AJ aW λaB bW b4 _=>Bm b4 (by rfl) (by simp[Value.oneCell']) λa6 bB=> ?_;refine⟨q.1,bB.AW rfl,?_⟩;have bC:=Sat.SJ (Gc E b {V with rf:=V.rf.tail,fl:=V.fl.drop (cnt V.rel page x).toNat} {g with sr:=sr,sf:=sf,f:=Nw V g page x}) bB;have bQ:x<=q.1:=cE q (List.mem_of_getElem? (i:=0) (by grind));have aH: ∀n,x<=n->n<q.1-> ¬mem V.rel n:=by
     intro n h1 h2 hn;obtain⟨z,hz,h3,h4⟩:=(aG n).2 ⟨hn,by omega,by omega⟩;obtain⟨j,hj⟩:=List.mem_iff_getElem?.1 hz;rcases Nat.lt_trichotomy j k with e|e|e
     .have:=cV z (List.mem_of_getElem? (i:=j) (by grind));omega
     .grind
     .have:=Y.lt e hq hj;omega
    have ec:cnt V.rel page q.1=cnt V.rel page x:=Zr Yy aK bQ aH;have ef:Nw V g page q.1=Nw V g page x:=RH bQ λp h1 h2 h3 _=>absurd h3 (aH p h1 h2);refine AM (λst w'=>q.1<=st.1/\st.1<=q.2/\(cnt V.rel page st.1).toNat<=V.fl.length/\ ∃sf,
      Sat (Gc E b {V with rf:=V.rf.tail,fl:=V.fl.drop (cnt V.rel page st.1).toNat} {g with sr:=sr,sf:=sf,f:=Nw V g page st.1}++Cells aB E.AB [.int .u64 q.1,.int .u64 q.2]::Row E.AB 2 s' (flat m)::Rs) w')
     (λst _=>(q.2-st.1).toNat) ⟨Int.le_refl _,by omega,by grind,sf,by rw[ec,ef];exact bC⟩ ?_
    rintro⟨p,v⟩ _ O ⟨bL,cQ,a1,sf,J⟩;simp only at bL cQ a1 J⊢;refine⟨q.2,(J.front 10 rfl).AW rfl,AE (λbK=> ?_) λcG=> ?_⟩
    .have bM:mem V.rel p:=((aG p).1 ⟨q,bO,bL,bK⟩).1;have cD:=(OF Yy (a:=page) (k:=p) (by omega)).1 bM;have c6:=cC p;refine⟨sf,J.AW rfl,C6 (λhz=> ?_) λdI=> ?_⟩
     .have u:V.fl.drop (cnt V.rel page p).toNat=[]:=by
       have:(ints .u64 (V.fl.drop (cnt V.rel page p).toNat)).length=sf.len:=(J.front 6 rfl).Tq.1;have h0:(ints .u64 (V.fl.drop (cnt V.rel page p).toNat)).length=0:=by omega
       rw[List.drop_eq_nil_iff];simp[ints]at h0;omega
      exact⟨sf,Sat.RG _ (Sat.RG _ (aS p (by omega) (by omega) a1 (.inr u) sf _ O J))⟩
     .refine Zp (o:=2) (J.BQ 5 rfl) rfl (λu=> ?_) λy r hy aM b5=> ?_
      .exfalso;have:=(J.front 6 rfl).Tq.1;have aZ:V.fl.drop (cnt V.rel page p).toNat=[]:=u;rw[aZ]at this;simp[ints]at this;omega
      .have bR:V.fl.drop (cnt V.rel page p).toNat=y::r:=hy;have c5:(cnt V.rel page p).toNat<V.fl.length:=by grind
       have cS:r=V.fl.drop (cnt V.rel page (p+1)).toNat:=by
        rw[cD,show(cnt V.rel page p+1).toNat=(cnt V.rel page p).toNat+1 by omega,<-List.drop_drop,bR];rfl
       have cF:Lb V page p=y:=by
        unfold Lb;rw[List.getD_eq_getElem?_getD,<-Nat.add_zero (cnt V.rel page p).toNat,<-List.getElem?_drop,bR];rfl
       have bD:Sat (Gc E b {V with rf:=V.rf.tail,fl:=V.fl.drop (cnt V.rel page (p+1)).toNat} {g with sr:=sr,sf:=⟨KE sf.base sf.cap 1 1,sf.len-1,sf.cap-1⟩,f:=Nw V g page p}++Cells aB E.AB [.int .u64 q.1,.int .u64 q.2]::Row E.AB 2 s' (flat m)::Rs) aM:=by
        rw[<-cS];exact Sat.OI 5 b5 (by simp[Gc])
       rw[AP (n:=p+1)];refine Gm (λbS=> ?_) λbS=> ?_
       .refine⟨some g.fb,bD.AW rfl,FP (bD.front 7 rfl) λa7 b6=> ?_⟩;refine⟨⟨by omega,by omega,by omega,⟨KE sf.base sf.cap 1 1,sf.len-1,sf.cap-1⟩,?_⟩,by omega⟩;have b7:=Sat.back 7 b6 (by simp[Gc]);have:Sw {g with f:=Nw V g page (p+1)}=λi=>if i=p then some (.int .u64 y)else Sw {g with f:=Nw V g page p} i:=by
         funext i;show(Nw V g page (p+1) i).map _=if i=p then _ else(Nw V g page p i).map _
         rw[rH (by omega) bM i,cF,if_neg bS]
         grind
        show Sat (Gc E b _ {g with sr:=sr,sf:=_,f:=Nw V g page (p+1)}++_) a7;unfold Gc;have e:Sw {g with sr:=sr,sf:=⟨KE sf.base sf.cap 1 1,sf.len-1,sf.cap-1⟩,f:=Nw V g page (p+1)}=Sw {g with f:=Nw V g page (p+1)}:=rfl;rw[e,this];exact b7
       .refine⟨⟨by omega,by omega,by omega,⟨KE sf.base sf.cap 1 1,sf.len-1,sf.cap-1⟩,?_⟩,by omega⟩;have:Nw V g page (p+1)=Nw V g page p:=RH (by omega) λp' h1 h2 h3 _=>by grind
        grind
    .have cR:p=q.2:=by omega
     subst cR;have ei:i64 ((k:Int)+1)=((k+1:Nat):Int):=by rw[AI];omega
     refine⟨⟨k+1,q.2,sf,ei,by omega,by omega,by omega,a1,λz hz=> ?_,λz hz=> ?_,Sat.RG _ J⟩,by omega⟩
     .rw[List.take_succ_eq_append_getElem aO,List.mem_append,List.mem_singleton]at hz
      grind
     .obtain⟨j,hj⟩:=List.mem_iff_getElem?.1 hz;rw[List.getElem?_drop]at hj;have:=Y.lt (i:=k) (j:=k+1+j) (by omega) hq hj;omega
   .have dG:k=m.length:=by omega
    refine⟨sf,Sat.RG _ (aS x aK aL bH (.inl λn h1 h2 hn=> ?_) sf _ aD aW)⟩;obtain⟨z,hz,h3,h4⟩:=(aG n).2 ⟨hn,by omega,h2⟩
    grind
  .rintro _ _ bV ⟨sf,b3⟩;have c4:OT=4398046511104:=rfl;refine qA hE (b3.BQ 2 rfl) (o:=7) rfl rfl h0 (by omega) (by omega) λbX cY b8=> ?_;have b9:=Sat.OI 2 b8 (by simp[Gc]);refine dJ hE (b9.BQ 1 rfl) (o:=5) rfl rfl h0 (by omega) (by omega) λa8 cX cA=> ?_;have cB:=Sat.OI 1 cA (by simp[Gc]);refine cM hr hl hd cT a8 (Sat.RC.2 ⟨{g with sr:=sr,sf:=sf,s2:=cX,s3:=cY,f:=Nw V g page (page+AD)},?_,cB⟩);have ma: ∀p,mem (DZ V.ready page (page+AD)) p↔mem V.ready p∨(page<=p/\p<page+AD):=λp=>Eb eO (by omega) h0 (by omega) p;have mc: ∀p,mem (DO V.rel page (page+AD)) p↔mem V.rel p/\ ¬(page<=p/\p<page+AD):=λp=>Fs (by omega);refine⟨λp i cH cI=> ?_,λp hp=>(ma p).2 (.inl (hI.pg p hp)),λp hp=> ?_,λp hp=> ?_,λp hp=>hI.el p ((mc p).1 hp).1,λp hp hq=> ?_,hI.OZ,hI.vD⟩
   .show(if page<=p/\p<page+AD/\X2 V.rel p=true then Lb V page p else V.wd p i)=match g.G p with|some x=>x.2 i|none=>(Nw V g page (page+AD) p).getD 0
    by_cases e:page<=p/\p<page+AD/\X2 V.rel p=true
    .rw[if_pos e];have bP:=Jl.1 e.2.2;have:g.G p=none:=by
      cases hG:g.G p with
      | none=>rfl
      | some x=>exact absurd bP (hI.re p (hI.pg p (by grind)))
     rw[this];unfold Nw
     grind
    .rw[if_neg e,hI.wd p i cH cI];unfold wordOf Nw
     grind
   .have a0:Nw V g page (page+AD) p≠none:=hp;unfold Nw at a0;by_cases e:page<=p/\p<page+AD/\X2 V.rel p=true
    .exact(ma p).2 (.inr ⟨e.1,e.2.1⟩)
    .rw[if_neg e]at a0;exact(ma p).2 (.inl (hI.fi p a0))
   .rcases(ma p).1 hp with h|h
    .exact hI.rl p h
    .exact aY p h.1 h.2
   .rcases(ma p).1 hp with h|h
    .exact hI.re p h ((mc p).1 hq).1
    .exact((mc p).1 hq).2 h
 refine Wv H8 (λu=>AR rfl (aJ (λr h=>by grind) g.sr w8 ?_)) λx r hx w7 H7=> ?_
 .have:{V with rf:=V.rf.tail}=V:=by
   have:V.rf.tail=V.rf:=by grind
   rw[this]
  show Sat (Gc E b {V with rf:=V.rf.tail} {g with sr:=g.sr}++Rs) w8;rw[this];exact H8
 .refine AX (λe=>cL hr hl hd r (by rw[hx,e]) w7 (Sat.RC.2 ⟨{g with sr:=⟨KE g.sr.base g.sr.cap 1 1,g.sr.len-1,g.sr.cap-1⟩},⟨hI.wd,hI.pg,hI.fi,hI.rl,hI.el,hI.re,hI.OZ,hI.vD⟩,H7⟩)) λe=>aJ (λr' h=> ?_) ⟨KE g.sr.base g.sr.cap 1 1,g.sr.len-1,g.sr.cap-1⟩ w7 ?_
  .grind
  .rw[hx];exact H7
end
section
variable{n:Nat}{G:Pgs}{Rs:List Pr}{p:Int}
end
section
variable{E:Env}{b:Nat}{V:VS}{Rs:List Pr}{w:World}
variable(hE:EnvS E)
include hE
end
def Kq(pl:List Int)(rf:List Bool)(fl:List Int):VS:=⟨[],[],[],λ_ _=>0,pl,rf,fl⟩
section
variable{E:Env}{b:Nat}{V:VS}{Rs:List Pr}{w:World}
def Zs{g:VG}(H:Sat (Gc E b V g++Rs) w){x y:Int}(hx:0<=x)(v:x<=y)(hy:y<18446744073709551616){K:World->Prop}
  (hK: ∀w',Sat (Gc E b V {g with f:=λp=>if x<=p/\p<y then none else g.f p,G:=λp=>if x<=p/\p<y then none else g.G p}++Rs) w'->K w'):
  ∃J:(Option Nat),w.cell? (Addr.mk b 9 none)=some (.map J)/\
   F.Gi E J x y (λa=>
   ∃O:(Option Nat),a.cell? (Addr.mk b 10 none)=some (.map O)/\
   F.EJ E O x y (λj=>K j) a) w:=by
 refine⟨some g.fb,H.AW rfl,?_⟩;unfold F.Gi;refine Sx (H.front 7 rfl) hx v hy λa T=> ?_;have u:=Sat.back 7 T (by simp[Gc]);refine⟨some g.pb,u.AW rfl,?_⟩;unfold F.EJ;refine Sx (u.front 8 rfl) hx v hy λj Y=>hK j ?_;have aA:=Sat.back 8 Y (by simp[Gc]);have aB:=Sat.back 9 ((aA.front 9 rfl).pgDrop (G':=λp=>if x<=p/\p<y then none else g.G p) λp z hz=>by
  by_cases e:x<=p/\p<y
  .rw[if_pos e]at hz;cases hz
  .rw[if_neg e]at hz;exact hz) (by simp[Gc])
 have e1:jP {g with f:=λp=>if x<=p/\p<y then none else g.f p,G:=λp=>if x<=p/\p<y then none else g.G p}=λi=>if x<=i/\i<y then none else jP g i:=by
  funext q;unfold jP;by_cases e:x<=q/\q<y<;>simp[e]
 have e2:Sw {g with f:=λp=>if x<=p/\p<y then none else g.f p,G:=λp=>if x<=p/\p<y then none else g.G p}=λi=>if x<=i/\i<y then none else Sw g i:=by
  funext q;unfold Sw;by_cases e:x<=q/\q<y<;>simp[e]
 unfold Gc;rw[e1,e2];exact aB
def eP{g:VG}(hI:mM V g){x y:Int}{a:VS}(v:a.laid=V.laid/\a.pl=V.pl)(J: ∀p i,0<=i->i<1024->a.wd p i=if x<=p/\p<y then 0 else V.wd p i)
  (u: ∀p,¬(x<=p/\p<y)->mem V.ready p->mem a.ready p)(h1: ∀p,mem a.ready p->mem V.laid p)(K: ∀p,mem a.rel p->mem V.laid p)(O: ∀p,mem a.ready p-> ¬mem a.rel p):
  mM a {g with f:=λp=>if x<=p/\p<y then none else g.f p,G:=λp=>if x<=p/\p<y then none else g.G p}:=by
 refine⟨λp i h0 hi=> ?_,λp j=> ?_,λp j=> ?_,λp j=>by rw[v.1];exact h1 p j,λp j=>by rw[v.1];exact K p j,O,by rw[v.1];exact hI.OZ,by rw[v.2];exact hI.vD⟩
 .rw[J p i h0 hi];unfold wordOf;by_cases e:x<=p/\p<y
  .simp only[if_pos e];try rfl
  .simp only[if_neg e];rw[hI.wd p i h0 hi];try rfl
 .by_cases e:x<=p/\p<y
  .simp[e]at j
  .exact u p e (hI.pg p (by simpa[e]using j))
 .by_cases e:x<=p/\p<y
  .simp[e]at j
  .exact u p e (hI.fi p (by simpa[e]using j))
variable(hE:EnvS E)
include hE
theorem X3(H:Sat (B8 E b V::Rs) w){page AD:Int}(h0:0<=page)(h1:page<18446744073709551616)(p0:0<=AD)(p1:AD<18446744073709551616){K:Int->World->Prop}
  (aA: ¬Od page AD->K 1 w)
  (aB:Od page AD->cnt V.ready page (page+AD)≠AD-> ∀w',Ext AN w w'->K 33 w')
  (aC:Od page AD->cnt V.ready page (page+AD)=AD-> ∀w',Sat (B8 E b (RF V page AD)::Rs) w'->K 0 w'):
  F.DW E (sM b) page AD K w:=by
 obtain⟨g,hI,H⟩:=Sat.RC.1 H;obtain⟨oH,eO,Yy⟩:=RD H;unfold F.DW T0.DW;refine Ux h0 p0 p1 (Ky (AE (λj=> ?_) λj=>aA j));have aM:=j.1;have aN:=j.2;have aF:OT=4398046511104:=rfl;simp only[AK,add_eq,Nat.zero_add];rw[AP (n:=page+AD)];refine Q9 hE (H.BQ 1 rfl) (o:=5) rfl rfl h0 (by omega) (by omega) λw5 v=> ?_;refine Gm (λhl=>aB j hl w5 v) λhl=> ?_;have u: ∀p,page<=p->p<page+AD->mem V.ready p:=(Hq eO (a:=page) (b:=page+AD) (by omega)).1 (by omega);refine qA hE ((H.nothing v).BQ 1 rfl) (o:=5) rfl rfl h0 (by omega) (by omega) λw7 J H7=> ?_;have H8:=Sat.OI 1 H7 (by simp[Gc]);refine dJ hE (H8.BQ 2 rfl) (o:=7) rfl rfl h0 (by omega) (by omega) λw9 O H9=> ?_;have T:Sat (Gc E b (RF V page AD) {g with s2:=J,s3:=O}++Rs) w9:=Sat.OI 2 H9 (by simp[Gc]);refine Zs T h0 (by omega) (by omega) λaE Y=>aC j hl aE (Sat.RC.2 ⟨_,?_,Y⟩);have mc: ∀p,mem (DO V.ready page (page+AD)) p↔mem V.ready p/\ ¬(page<=p/\p<page+AD):=λp=>Fs (by omega);have ma: ∀p,mem (DZ V.rel page (page+AD)) p↔mem V.rel p∨(page<=p/\p<page+AD):=λp=>Eb Yy (by omega) h0 (by omega) p;refine eP (g:={g with s2:=J,s3:=O}) (V:=V) ⟨hI.wd,hI.pg,hI.fi,hI.rl,hI.el,hI.re,hI.OZ,hI.vD⟩ ⟨rfl,rfl⟩ (λp i _ _=>rfl) (λp h e=>(mc p).2 ⟨e,h⟩) (λp e=>hI.rl p ((mc p).1 e).1) (λp e=> ?_) λp e hq=> ?_
 .rcases(ma p).1 e with h|h
  .exact hI.el p h
  .exact hI.rl p (u p h.1 h.2)
 .obtain⟨h3,h4⟩:=(mc p).1 e;rcases(ma p).1 hq with h|h
  .exact hI.re p h3 h
  .exact h4 h
end
section
variable{E:Env}{Ps Rs:List Pr}{w:World}
def Sy(i:Nat){K:Nat->World->Prop}(H:Sat Ps w)(hi:Ps[i]? =some dD)(e: ∀b w',Sat (Ps.set i (CM b .u64 λ_=>none)) w'->K b w'):AL (.map #[] 0) w K:=
 OK (H.front i hi).tail .u64 λb w' a _=>e b w' (Sat.back i a (List.getElem?_eq_some_iff.1 hi).1)
def Zt{t:Nat}{zs:Array Value}{bytes:Nat}{a:AY}{vs:List Value}{K:AY->World->Prop}(H:Sat Rs w)(hz:zs.size=1)(j: ∀w',Sat Rs w'->rowAt w' a.base a.len vs)(hl:vs.length=a.len)(hlen:a.len<=1099511627776)(T:bytes<=8)
  (ho: ∀v∈vs,v.oneCell'=true)(J: ∀s' w',Sat (MW s' vs::Rs) w'->K s' w'):
  CND (a.base.isNone) (K ⟨none,0,0⟩ w) (AL (.cells ⟨[]⟩ t) w λb1 u=>APP t 1 bytes zs ⟨(some (Addr.mk b1 0 none)),0,0⟩ a u λs3 w4=>K s3 w4):=by
 refine AX (λe=> ?_) λe=> ?_
 .have hb:a.base=none:=by simpa using e
  have:=j w H;rw[hb]at this;have hv:vs=[]:=this;rw[hv]at J;exact J _ w H.vQ
 .refine A4 λu O aE Y=> ?_;have H2:Sat (Row t 1 ⟨some ⟨w.heap.size,0,none⟩,0,0⟩ []::Rs) u:=H.new (P:=Row t 1 ⟨some ⟨w.heap.size,0,none⟩,0,0⟩ []) (D:=PS ⟨some ⟨w.heap.size,0,none⟩,0,0⟩) Y
   ⟨λ_=>Iff.rfl,Xe O rfl (Nat.zero_le _) (by decide)⟩ λk hk=>by obtain⟨x,hx,rfl⟩:=hk;grind
  have hm:(0+a.len)*bytes<=1099511627776*8:=Nat.mul_le_mul (by omega) T;refine O7 H2 hz (by simpa using j u H2.tail) (by omega) ho (by grind) (by grind) λs' w' H' _=>J s' w' ?_;exact Sat.rowV H'
def Wz(i:Nat){a:AY}{l:List Int}{K:AY->World->Prop}(H:Sat Ps w)(hi:Ps[i]? =some dD)(e: ∀w',Sat (Ps.eraseIdx i) w'->rowAt w' a.base a.len (ints .u64 l))(O:l.length=a.len)(hlen:a.len<=1099511627776)
  (J: ∀s' w',Sat (Ps.set i (MW s' (ints .u64 l))) w'->K s' w'):F.Ap E a K w:=by
 unfold F.Ap;exact Zt (H.front i hi).tail rfl e (by simpa[ints]using O) hlen (Nat.le_refl _) (by intro v j;simp[ints]at j;obtain⟨x,_,rfl⟩:=j;rfl) λs' w' u=>J s' w' (Sat.back i u (List.getElem?_eq_some_iff.1 hi).1)
def eQ(i:Nat){a:AY}{l:List Bool}{K:AY->World->Prop}(H:Sat Ps w)(hi:Ps[i]? =some dD)(e: ∀w',Sat (Ps.eraseIdx i) w'->rowAt w' a.base a.len (Hu l))(O:l.length=a.len)(hlen:a.len<=1099511627776)
  (J: ∀s' w',Sat (Ps.set i (MW s' (Hu l))) w'->K s' w'):F.CX E a K w:=by
 unfold F.CX;exact Zt (H.front i hi).tail rfl e (by simpa[Hu]using O) hlen (by decide) (by intro v j;simp[Hu]at j;rcases j with ⟨_,rfl⟩|⟨_,rfl⟩<;>rfl) λs' w' u=>J s' w' (Sat.back i u (List.getElem?_eq_some_iff.1 hi).1)
def jQ{b t1 b1 t2 m1 a:Nat}{r1 e j:AY}{vs:List Value}{pl:List Int}{rf:List Bool}{fl:List Int}(u: ∀x∈pl,0<=x/\x<18446744073709551616)
  (H:Sat (Cells b t1 [FI r1,FI e,FI j,.slice none 0 0,.int .u64 0,.slice none 0 0,.int .u64 0,.slice none 0 0,.int .u64 0,.map (some m1),.map (some a)]::Cells b1 t2 vs::
   MW r1 (ints .u64 pl)::MW e (Hu rf)::MW j (ints .u64 fl)::CM m1 .u64 (λ_=>none)::CM a .u64 (λ_=>none)::Rs) w):Sat (B8 E b (Kq pl rf fl)::Rs) w:=by
 have H1:=(H.perm (.swap _ _ _)).tail;have v:=(Sat.SJ [Cells b t1 _,MW r1 _,MW e _,MW j _,CM m1 _ _,CM a _ _] (H1.pgNil 1024));have J:=((v.dK (E:=E)).perm (.swap _ _ _));have K:=((J.dK (E:=E)).perm (.swap _ _ _));have O:=((K.dK (E:=E)).perm (.swap _ _ _));exact Sat.RC.2 ⟨⟨r1,e,j,⟨none,0,0⟩,⟨none,0,0⟩,⟨none,0,0⟩,m1,a,λ_=>none,λ_=>none⟩,
  ⟨λ_ _ _ _=>rfl,λ_ h=>absurd rfl h,λ_ h=>absurd rfl h,λ_ h=>h,λ_ h=>h,λp h=>absurd h (Bz p),λp h=>absurd h (Bz p),u⟩,O⟩
def mN(H:Sat Rs w){a0 a1 a2:AY}{pl:List Int}{rf:List Bool}{fl:List Int}(j: ∀x∈pl,0<=x/\x<18446744073709551616)
  (h0: ∀w',Sat Rs w'->rowAt w' a0.base a0.len (ints .u64 pl))(l0:pl.length=a0.len)(k0:a0.len<=1099511627776)
  (h1: ∀w',Sat Rs w'->rowAt w' a1.base a1.len (Hu rf))(l1:rf.length=a1.len)(k1:a1.len<=1099511627776)
  (h2: ∀w',Sat Rs w'->rowAt w' a2.base a2.len (ints .u64 fl))(l2:fl.length=a2.len)(k2:a2.len<=1099511627776)
  {K:Option Addr->World->Prop}(O: ∀b w',Sat (B8 E b (Kq pl rf fl)::Rs) w'->K (sM b) w'):F.KV E a0 a1 a2 K w:=by
 unfold F.KV T0.KV;refine AJ H.emp.emp.emp.emp.emp λb1 w2 J _=> ?_;have u:=J.drew;clear J;have t5: ∀{P0 T Y P3 P4:Pr} {w'},Sat (P0::T::Y::P3::P4::Rs) w'->Sat Rs w':=λh=>h.tail.tail.tail.tail.tail;refine⟨a0,u.AW rfl,a1,u.cell rfl,a2,u.cell rfl,?_⟩
 repeat' first
  | (exact Sat.cell (by assumption) (by rfl))
  | (exact Sat.AW (by assumption) (by rfl))
  | (refine Wz 1 (a:=a0) (l:=pl) (by assumption) (by rfl) (by intro w' h;exact h0 w' (t5 h)) l0 k0 λs' w' e=> ?_)
  | (refine eQ 2 (a:=a1) (l:=rf) (by assumption) (by rfl) (by intro w' h;exact h1 w' (t5 h)) l1 k1 λs' w' e=> ?_)
  | (refine Wz 3 (a:=a2) (l:=fl) (by assumption) (by rfl) (by intro w' h;exact h2 w' (t5 h)) l2 k2 λs' w' e=> ?_)
  | (refine Sy 4 (by assumption) (by rfl) λv w' e=> ?_)
  | (refine Sy 5 (by assumption) (by rfl) λv w' e=> ?_)
  | (refine AJ (by assumption) λv w' e _=> ?_;exact O _ _ (jQ j e))
  | (refine AJ (by assumption) λv w' e _=> ?_;exact O _ _ (jQ j (e.perm (.cons _ (.cons _ (.cons _ (.cons _ (.cons _ (.swap _ _ _)))))))))
  | (refine And.intro ?_ ?_)
def jR: ∀(n:Nat) {l m k:Iv},Ok l->Ok m->Ok k->(∀p,mem m p->mem l p)->(∀p,mem k p->mem l p)->(∀p,mem m p-> ¬mem k p)-> ∀a:Int,cnt m a (a+n)+cnt k a (a+n)<=cnt l a (a+n)
 | 0,l,m,k,hl,hm,hk,_,_,_,a=>by
  have h1:=Gl hm (show a<=a+(0:Nat) by omega);have j:=Gl hk (show a<=a+(0:Nat) by omega);have u:=Ed l a (a+(0:Nat));omega
 | n+1,l,m,k,hl,hm,hk,h1,j,u,a=>by
  have v:=jR n hl hm hk h1 j u a;have e:a+((n+1:Nat):Int)=(a+n)+1:=by omega
  rw[e];have sl:=OF hl (a:=a) (k:=a+n) (by omega);have sm:=OF hm (a:=a) (k:=a+n) (by omega);have sk:=OF hk (a:=a) (k:=a+n) (by omega);by_cases c1:mem m (a+n)
  .grind
  .have:=sm.2 c1;by_cases c2:mem k (a+n)
   .grind
   .have:=sk.2 c2;by_cases c3:mem l (a+n)
    .grind
    grind
structure VOk(V:VS):Prop where
 oH:Ok V.laid
 eO:Ok V.ready
 Yy:Ok V.rel
 rl: ∀p,mem V.ready p->mem V.laid p
 el: ∀p,mem V.rel p->mem V.laid p
 re: ∀p,mem V.ready p-> ¬mem V.rel p
 OZ: ∀p,mem V.laid p->512<=p/\p<34359738368
 clean: ∀p i,0<=i->i<1024-> ¬mem V.ready p->V.wd p i=0
 sums:Hm V.ready+Hm V.rel<=Hm V.laid
def Sat.vok{b:Nat}{V:VS}(H:Sat (B8 E b V::Rs) w):VOk V:=by
 obtain⟨g,hI,H⟩:=Sat.RC.1 H;obtain⟨oH,eO,Yy⟩:=RD H;refine⟨oH,eO,Yy,hI.rl,hI.el,hI.re,hI.OZ,λp i h0 h1 e=> ?_,?_⟩
 .rw[hI.wd p i h0 h1];unfold wordOf;cases hG:g.G p with
  | some x=>exact absurd (hI.pg p (by grind)) e
  | none=>
   cases hf:g.f p with
   | none=>rfl
   | some x=>exact absurd (hI.fi p (by grind)) e
 .have h1:=O5 (Ok.o5 oH) (a:=0) (b:=0+(34359738368:Nat)) λn e=>by have:=hI.OZ n e;omega
  have j:=O5 (Ok.o5 eO) (a:=0) (b:=0+(34359738368:Nat)) λn e=>by have:=hI.OZ n (hI.rl n e);omega
  have u:=O5 (Ok.o5 Yy) (a:=0) (b:=0+(34359738368:Nat)) λn e=>by have:=hI.OZ n (hI.el n e);omega
  have:=jR 34359738368 oH eO Yy hI.rl hI.el hI.re 0;omega
end
section
variable{E:Env}{b:Nat}{V:VS}{Rs:List Pr}{w:World}
variable(hE:EnvS E)
include hE
theorem eT(H:Sat (B8 E b V::Rs) w){page AD:Int}(h0:0<=page)(p0:0<AD)(p1:page+AD<=34359738368)(u: ∀p,page<=p->p<page+AD->mem V.ready p)
  {K:Int->World->Prop}(j: ∀w',Sat (B8 E b (RF V page AD)::Rs) w'->K 0 w'):F.DW E (sM b) page AD K w:=by
 have v:=H.vok;have c2:cnt V.ready page (page+AD)=AD:=by have:=(Hq v.eO (a:=page) (b:=page+AD) (by omega)).2 u;omega
 exact X3 hE H h0 (by omega) (by omega) (by omega) (λh=>absurd ⟨by omega,p1⟩ h) (λ_ h=>absurd c2 h) λ_ _ w' e=>j w' e
end
end Go.Sh

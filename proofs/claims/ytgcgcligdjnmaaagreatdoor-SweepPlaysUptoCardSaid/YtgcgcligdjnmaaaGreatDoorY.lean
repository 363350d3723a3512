/- The address space does what its pages and words say. No further condition. -/
import Derived.Test.YtgcgcligdjnmaaaGreatDoorS
import Derived.Test.YtgcgcligdjnmaaaGreatDoorA
import Derived.Test.YtgcgcligdjnmaaaGreatDoorM
import Derived.Test.YtgcgcligdjnmaaaGreatDoorW
set_option linter.all false
set_option maxRecDepth 50000
set_option maxHeartbeats 4000000
namespace Go.Sh
structure VS where
  laid:Iv
  ready:Iv
  rel:Iv
  wd:Int->Int->Int
  pl:List Int
  rf:List Bool
  fl:List Int
structure VG where
  sp:Aa
  sr:Aa
  sf:Aa
  s1:Aa
  s2:Aa
  s3:Aa
  fb:Nat
  pb:Nat
  G:Pgs
  f:Int->Option Int
def Fo(s:Aa):Value:=.slice s.base s.len s.cap
def oF(V:VS)(g:VG):List Value:=
  [Fo g.sp,Fo g.sr,Fo g.sf,Fo g.s1,.int .u64 (Gn V.laid),Fo g.s2,.int .u64 (Gn V.ready),Fo g.s3,.int .u64 (Gn V.rel),.map (some g.fb),.map (some g.pb)]
def YW(g:VG):Int->Option Value:=λp=>(g.f p).map λn=>.int .u64 n
def pageM(g:VG):Int->Option Value:=λp=>(g.G p).map λx=>.pointer (some ⟨x.1,0,none⟩)
def IX(E:Env)(b:Nat)(V:VS)(g:VG):List Pr:=
  [Cells b 0 (oF V g),Mb E g.s1 V.laid,Mb E g.s2 V.ready,Mb E g.s3 V.rel,KI g.sp (ints .u64 V.pl),KI g.sr (Bn V.rf),KI g.sf (ints .u64 V.fl),
   Dm g.fb .u64 (YW g),Dm g.pb .u64 (pageM g),bC 1024 g.G]
def wordOf(g:VG)(p i:Int):Int:=match g.G p with
  | some x=>x.2 i
  | none=>(g.f p).getD 0
structure tM(V:VS)(g:VG):Prop where
  wd: ∀p i,0<=i->i<1024->V.wd p i=wordOf g p i
  pg: ∀p,g.G p≠none->mem V.ready p
  fi: ∀p,g.f p≠none->mem V.ready p
  rl: ∀p,mem V.ready p->mem V.laid p
  el: ∀p,mem V.rel p->mem V.laid p
  re: ∀p,mem V.ready p-> ¬mem V.rel p
  Ja: ∀p,mem V.laid p->512<=p/\p<34359738368
  fZ: ∀x∈V.pl,0<=x/\x<18446744073709551616
def Cx(E:Env)(b:Nat)(V:VS):Pr:=Ex λg=>Jx (tM V g) (NB (IX E b V g))
section
variable{E:Env}{b:Nat}{V:VS}{Rs:List Pr}{w:World}
def Sat.Se:Sat (Cx E b V::Rs) w↔ ∃g,tM V g/\Sat (IX E b V g++Rs) w:=by
  unfold Cx;rw[Sat.ex];constructor
  . rintro⟨g,h⟩;obtain⟨h1,h2⟩:=Sat.where.1 h;exact⟨g,h1,Sat.star.1 h2⟩
  . rintro⟨g,h1,h2⟩;exact⟨g,Sat.where.2 ⟨h1,Sat.star.2 h2⟩⟩
def T9{g:VG}(H:Sat (IX E b V g++Rs) w):Ok V.laid/\Ok V.ready/\Ok V.rel:=
  ⟨(Mb.ok (H.front 1 rfl)).1,(Mb.ok (H.front 2 rfl)).1,(Mb.ok (H.front 3 rfl)).1⟩
def Vo{g:VG}(H:Sat (IX E b V g++Rs) w){K:Bool->Bool->World->Prop}(h0:V.rf=[]->K false false w)
    (h1: ∀x r,V.rf=x::r-> ∀w',Sat (IX E b {V with rf:=r} {g with sr:=⟨F2 g.sr.base g.sr.cap 1 1,g.sr.len-1,g.sr.cap-1⟩}++Rs) w'->K x true w'):
    F.HY E (some ⟨b,1,none⟩) K w:=by
  unfold F.HY;have y:=(H.front 5 rfl).MW;have c:=H.Ah (o:=1) rfl;simp only[AG];refine⟨g.sr,c,AB (λaA=> ?_) λY=>h0 ?_⟩
  . cases hr:V.rf with
    | nil=>have:=y.1;rw[hr]at this;simp[Bn]at this;omega
    | cons x r=>
      obtain⟨a,O,T⟩:=(H.front 5 rfl).Nf (j:=0) (v:=.bool x) (by rw[hr];rfl);refine⟨g.sr,c,?_⟩;rw[O];refine⟨⟨by decide,by omega⟩,x,T,g.sr,c,⟨by decide,by omega⟩,?_⟩;have d:=Sat.back 5 ((H.front 5 rfl).Ng (n:=1) (by omega)) (by simp[IX]);rw[hr]at d;exact CO d rfl (by simp[oF]) λw' J=>h1 x r hr w' J
  . have:=y.1;have:(Bn V.rf).length=0:=by omega
    simpa[Bn]using this
def YX{o:Nat}{s:Aa}{l:List Int}{rest:List Pr}{vs:List Value}(H:Sat (Cells b 0 vs::KI s (ints .u64 l)::rest) w)(y:vs[o]? =some (Fo s)){K:Int->Bool->World->Prop}
    (h0:l=[]->K 0 false w)
    (h1: ∀x r,l=x::r-> ∀w',Sat (Cells b 0 (vs.set o (Fo ⟨F2 s.base s.cap 1 1,s.len-1,s.cap-1⟩))::KI ⟨F2 s.base s.cap 1 1,s.len-1,s.cap-1⟩ (ints .u64 r)::rest) w'->K x true w'):
    F.EY E (some ⟨b,o,none⟩) K w:=by
  unfold F.EY;have hl:=(H.front 1 rfl).MW;have c:=H.Ah y;simp only[AG];refine⟨s,c,AB (λaB=> ?_) λY=>h0 ?_⟩
  . cases hr:l with
    | nil=>have:=hl.1;rw[hr]at this;simp[ints]at this;omega
    | cons x r=>
      obtain⟨a,O,T⟩:=(H.front 1 rfl).Nf (j:=0) (v:=.int .u64 x) (by rw[hr];rfl);refine⟨s,c,?_⟩;rw[O];refine⟨⟨by decide,by omega⟩,x,T,s,c,⟨by decide,by omega⟩,?_⟩;have d:=Sat.Th 0 (((H.front 1 rfl).Ng (n:=1) (by omega)).perm (.swap _ _ _)) (by simp);rw[hr]at d;exact CO d rfl (List.getElem?_eq_some_iff.1 y).1 λw' J=>h1 x r hr w' J
  . have:(ints .u64 l).length=0:=by omega
    simpa[ints]using this
def Rn(l:Iv)(page AA:Int):Prop:=page %512=0/\page≠0/\page+AA<=34359738368/\cnt l page (page+AA)=0
structure Lq(l:Iv)(frm AA at_:Int):Prop where
  mul:at_ %512=0
  low:512<=at_
  fr:frm<=at_
  free: ∀m,at_<=m->m<at_+AA-> ¬mem l m
  first: ∀a,a %512=0->512<=a->frm<=a->a<at_-> ∃m,a<=m/\m<a+AA/\mem l m
variable(hE:EnvS E)
include hE
theorem Vp{g:VG}(H:Sat (IX E b V g++Rs) w){page AA:Int}(h0:0<=page)(h1:page<18446744073709551616)(O:0<=AA)(T:AA<=134217728){K:Bool->World->Prop}
    (d: ∀r w',(r=true↔Rn V.laid page AA)->Ext AP w w'->K r w'):F.EV E (some ⟨b,0,none⟩) page AA K w:=by
  unfold F.EV T0.EV;have j:=Ext.refl AP w;have hm:Int.tmod page 512=page %512:=Int.tmod_eq_emod_of_nonneg h0;rw[hm];refine⟨by decide,BF (λm0=>DM (λz=>AB (λhle=> ?_) λv=> ?_) λz=> ?_) λm0=> ?_⟩
  . rw[AK (n:=34359738368-page)];refine AB (λJ=> ?_) λv=> ?_
    . rw[AK (n:=page+AA)];simp only[AG,add_eq,Nat.zero_add];refine T3 hE H (o:=3) rfl rfl h0 (by omega) (by omega) λw' y=>d _ w' ?_ y;unfold Rn
      grind
    . refine d false w ⟨λh=>(by cases h),λh=> ?_⟩ j;have:=h.2.2.1;omega
  . refine d false w ⟨λh=>(by cases h),λh=> ?_⟩ j;have:=h.2.2.1;omega
  . exact d false w ⟨λh=>(by cases h),λh=>absurd z h.2.1⟩ j
  . exact d false w ⟨λh=>(by cases h),λh=>absurd h.1 m0⟩ j
theorem bX{g:VG}(hI:tM V g)(H:Sat (IX E b V g++Rs) w){y AA:Int}(h0:0<=y)(h1:y<18446744073709551616)(p0:0<AA)(p1:AA<=134217728){K:Int->Bool->World->Prop}
    (aW:34359738368<y->K 0 false w)
    (aX:y<=34359738368-> ∀at_ r w',Lq V.laid y AA at_->at_<=34359738880->(r=true↔at_+AA<=34359738368)->Ext AP w w'->K at_ r w'):
    F.D7 E (some ⟨b,0,none⟩) y AA K w:=by
  unfold F.D7 T0.D7;refine AB aW λhle=>⟨by decide,AY λbB aM=> ?_⟩;have aO: ∀n:Int,0<=n->n<=34359738368->u64 (u64 (Int.tdiv (u64 (u64 (n+512)-1)) 512)*512)=(n+511)/512*512:=by
    intro n h0 h1;rw[AK (n:=n+512),AK (n:=n+512-1),Int.tdiv_eq_ediv_of_nonneg (by omega),AK (n:=(n+512-1)/512),AK];omega
  rw[aO y h0 (by omega),Sq]at aM;simp only[AG,add_eq,Nat.zero_add];have hr:=(H.setAt (o:=3) rfl rfl).row;have hlen:=hr.len;have hsm:=hr.small;have a5:OX=4398046511104:=rfl;refine AX (λst w'=>Ext AP w w'/\Lq V.laid y AA st.1/\st.1<=34359738880) ?_ ?_
  . unfold F.HX;simp only[AG];refine⟨g.s1,hr.c0,AH (λst w'=> ∃k:Nat,st.2.1=(k:Int)/\k<=V.laid.length/\Ext AP w w'/\st.1 %512=0/\512<=st.1/\y<=st.1/\st.1<=34359738880/\(∀q∈V.laid.take k,q.2<=st.1)/\
      ∀a,a %512=0->512<=a->y<=a->a<st.1-> ∃m,a<=m/\m<a+AA/\mem V.laid m) (λst _=>(V.laid.length-st.2.1).toNat)
      ⟨0,rfl,Nat.zero_le _,Ext.refl _ _,by omega,by omega,by simp only;omega,by omega,by simp,λa h1 h2 h3 h4=>by omega⟩ ?_⟩
    rintro⟨at_,i',v⟩ _ w9 ⟨k,hk,bH,aD,m0,m1,m2,m3,O,d⟩;simp only at hk m0 m1 m2 m3 O d⊢;subst hk;refine AB (λbI=> ?_) λbE=>⟨aD,⟨m0,m1,m2,λm h1 h2 hm=> ?_,d⟩,m3⟩
    . have aI:k<V.laid.length:=by omega
      obtain⟨q,hq⟩: ∃q,V.laid[k]? =some q:=⟨_,List.getElem?_eq_getElem aI⟩;obtain⟨g1,g2⟩:=Nn V.laid k q hq;have bK:=hr.ok.get hq;have bL:=hI.Ja (q.2-1) ⟨q,List.mem_of_getElem? hq,by omega,by omega⟩;have aB:=(hr.own.ext aD λb hb f=>f);obtain⟨bb,hb⟩:=aB.Eo (by omega);rw[hb];simp only[AG,add_eq,Nat.zero_add,Int.toNat_natCast,Nat.add_zero];have c1:=aB.cell hb g1;have c2:=aB.cell hb g2;rw[add_eq,Nat.zero_add]at c1 c2;refine⟨⟨by omega,by omega⟩,q.1,c1,q.2,c2,?_⟩;refine AR (Sat.start w9) λaL bN aU a6=>GM aU (by rfl) (by simp[Value.oneCell']) λaK T=> ?_;have aG:Ext AP w aK:=aD.trans' (T.Pb 1 rfl);have ei:i64 ((k:Int)+1)=((k+1:Nat):Int):=by rw[AE];omega
      have aC: ∀x,q.2<=x->(∀p∈V.laid.take k,p.2<=x)-> ∀p∈V.laid.take (k+1),p.2<=x:=by
        intro x h1 h2 p hp;rw[List.take_succ_eq_append_getElem aI,List.mem_append,List.mem_singleton]at hp;rcases hp with hp|rfl
        . exact h2 p hp
        . have:V.laid[k]=q:=by rw[List.getElem?_eq_getElem aI]at hq;exact Option.some.inj hq
          grind
      refine⟨q.2,T.Ah rfl,AB (λhle=>⟨⟨k+1,ei,by omega,aG,m0,m1,m2,m3,aC _ hle O,d⟩,by omega⟩) λbF=> ?_⟩;have aA: ∀w',Sat [Cells aL E.AD [.int .u64 q.1,.int .u64 q.2],Old w9] w'-> ¬(at_<=q.1/\AA<=q.1-at_)-> ∀(nx:Int->Prop),
          (∀a,(a %512=0/\512<=a/\y<=a/\a<=34359738880/\(∀p∈V.laid.take (k+1),p.2<=a)/\(∀Y,Y %512=0->512<=Y->y<=Y->Y<a-> ∃m,Y<=m/\m<Y+AA/\mem V.laid m))->Ext AP w w'->nx a)->
          ∃aQ:Int,w'.cell? ⟨aL,1,none⟩=some (.int .u64 aQ)/\512≠(0:Int)/\Hk (u64 ((u64 (Int.tdiv (u64 ((u64 (aQ+512))-1)) 512))*512):Int) λaH=>nx aH:=by
        intro w' H' bJ nx aY;refine⟨q.2,H'.Ah rfl,by decide,AY λa ha=> ?_⟩;rw[aO q.2 (by omega) (by omega)]at ha;refine aY a ⟨by omega,by omega,by omega,by omega,aC a (by omega) λp hp=>by have:=O p hp;omega,λY b1 b2 b3 b4=> ?_⟩ (aD.trans' (H'.Pb 1 rfl));by_cases e:Y<at_
        . exact d Y b1 b2 b3 e
        . by_cases e2:q.1<=Y
          . exact⟨Y,by omega,by omega,q,List.mem_of_getElem? hq,e2,by omega⟩
          . exact⟨q.1,by omega,by omega,q,List.mem_of_getElem? hq,by omega,by omega⟩
      refine AV ⟨q.1,T.Ah rfl,AB (λa7=>⟨q.1,T.Ah rfl,?_⟩) λaN j=>aA aK T (λh=>aN h.1) _ λa h1 h2=> ?_⟩
      . rw[AK (n:=q.1-at_)];refine AB (λa8=>⟨aG,⟨m0,m1,m2,λm h1 h2 hm=> ?_,d⟩,m3⟩) λa9 j=>aA aK T (λh=>by omega) _ λa h1 h2=> ?_
        . obtain⟨p,hp,h3,h4⟩:=hm;obtain⟨i,hi⟩:=List.mem_iff_getElem?.1 hp;rcases Nat.lt_trichotomy i k with h|h|h
          . have:=O p (List.mem_of_getElem? (i:=i) (by grind));omega
          . grind
          . have:=hr.ok.lt h hq hi;omega
        . exact⟨⟨k+1,ei,by omega,h2,h1.1,h1.2.1,h1.2.2.1,h1.2.2.2.1,h1.2.2.2.2.1,h1.2.2.2.2.2⟩,by omega⟩
      . exact⟨⟨k+1,ei,by omega,h2,h1.1,h1.2.1,h1.2.2.1,h1.2.2.2.1,h1.2.2.2.2.1,h1.2.2.2.2.2⟩,by omega⟩
    . obtain⟨p,hp,h3,h4⟩:=hm
      grind
  . rintro⟨at_,v⟩ _ w4 ⟨aP,J,aE⟩;simp only at J aE⊢;refine Vp hE (H.nothing aP) (by have:=J.low;omega) (by omega) (by omega) p1 λr w' aZ a0=>aX (by omega) at_ r w' J aE ?_ (aP.trans' a0);rw[aZ];have:=J.mul;have:=J.low;constructor
    . intro h;exact h.2.2.1
    . intro h;exact⟨J.mul,by omega,h,(DW hr.ok (by omega)).2 J.free⟩
end
def Wu(l:Iv)(hint AA at_:Int):Prop:=hint<=34359738368/\Lq l hint AA at_/\at_+AA<=34359738368
def Kl(l:Iv)(hint AA:Int):Prop:=34359738368<hint∨ ∃a,Lq l hint AA a/\ ¬a+AA<=34359738368
def PB(V:VS)(AA:Int):Prop:= ∀p r,V.pl=p::r-> ¬Rn V.laid p AA
def IK(V:VS)(hint AA at_:Int):Prop:=
 (∃p r,V.pl=p::r/\Rn V.laid p AA/\at_=p)∨(PB V AA/\(Wu V.laid hint AA at_∨(Kl V.laid hint AA/\Wu V.laid 0 AA at_)))
def MA(V:VS)(hint AA:Int):Prop:=PB V AA/\Kl V.laid hint AA/\Kl V.laid 0 AA
def Lq.fits{l:Iv}(h:Ok l){hint AA at_:Int}(j:0<AA)(hp:Lq l hint AA at_)(d:at_+AA<=34359738368):Rn l at_ AA:=
 ⟨hp.mul,by have:=hp.low;omega,d,(DW h (by omega)).2 hp.free⟩
def IK.fits{V:VS}(h:Ok V.laid){hint AA at_:Int}(d:0<AA)(j:IK V hint AA at_):Rn V.laid at_ AA:=by
 rcases j with ⟨p,r,_,h1,rfl⟩|⟨_,⟨_,h1,h2⟩|⟨_,_,h1,h2⟩⟩
 .exact h1
 .exact h1.fits h d h2
 .exact h1.fits h d h2
section
variable{E:Env}{b:Nat}{V:VS}{Rs:List Pr}{w:World}(hE:EnvS E)
include hE
theorem Wv(H:Sat (Cx E b V::Rs) w){hint AA:Int}(h0:0<=hint)(h1:hint<18446744073709551616)(p0:0<=AA)(p1:AA<18446744073709551616){K:Int->Int->World->Prop}
  (aQ:(AA=0∨AA %512≠0∨134217728<AA)->K 0 1 w)
  (bG: ¬(AA=0∨AA %512≠0∨134217728<AA)-> ∀r,V.rf=true::r-> ∀w',Sat (Cx E b {V with rf:=r}::Rs) w'->K 0 13 w')
  (bH: ¬(AA=0∨AA %512≠0∨134217728<AA)->(∀r,V.rf≠true::r)->MA V hint AA-> ∀w',Sat (Cx E b {V with rf:=V.rf.tail,pl:=V.pl.tail}::Rs) w'->K 0 13 w')
  (bI: ¬(AA=0∨AA %512≠0∨134217728<AA)->(∀r,V.rf≠true::r)-> ∀at_,IK V hint AA at_-> ∀w',Sat (Cx E b {V with rf:=V.rf.tail,pl:=V.pl.tail,laid:=Dt V.laid at_ (at_+AA)}::Rs) w'->K at_ 0 w'):
  F.EH E (some ⟨b,0,none⟩) hint AA K w:=by
 unfold F.EH T0.EH;simp only[Nat.mul_one];rw[Int.tmod_eq_emod_of_nonneg p0];refine AV (BF (λe j=>AU rfl (aQ (.inl e))) λn1=>⟨by decide,DM (λe j=>AU rfl (aQ (.inr (.inl e)))) λn2 j=>AB (λe=>aQ (.inr (.inr e))) λn3=> ?_⟩);have Y: ¬(AA=0∨AA %512≠0∨134217728<AA):=by omega
 obtain⟨g,hI,H⟩:=Sat.Se.1 H;obtain⟨aL,bS,bT⟩:=T9 H;simp only[AG,add_eq,Nat.zero_add];have aC:(∀r,V.rf≠true::r)-> ∀(sr:Aa) (w7:World),Sat (IX E b {V with rf:=V.rf.tail} {g with sr:=sr}++Rs) w7->
   F.EY E (some ⟨b,0,none⟩) (λr9 bO aG=>
    Af (Bool×Unit) (λa0=>
     CND (bO) (
      F.EV E (some ⟨b,0,none⟩) r9 AA (λbP aU=>
      a0 (bP,()) aU
      ) aG
     ) (
      a0 (false,()) aG
     )
    ) λKk _ aD=>
     AL (.cells ⟨[.int .u64 hint,.int .u64 0]⟩ E.AJ) aD λT aH=>
     At (Int×Bool×Int×Unit) (r9,Kk.1,0,()) aH λFA _ y d=>
      CND (decide ((FA.2.2.1:Int)<2)) (
       ((0:Int)<=FA.2.2.1/\(FA.2.2.1:Int)<(2:Nat))/\
       ∃aF:Int,y.cell? (Addr.mk T (Int.toNat FA.2.2.1) none)=some (.int .u64 aF)/\
       CND (!FA.2.1) (
        F.D7 E (some ⟨b,0,none⟩) aF AA (λaS aT aI=>
        d (aS,aT,i64 (FA.2.2.1+1),()) aI
        ) y
       ) (
        d (FA.1,FA.2.1,i64 (FA.2.2.1+1),()) y
       )
      ) (
       CND (!FA.2.1) (
        K 0 13 y
       ) (
        F.BT E (some ⟨b,3,none⟩) FA.1 (u64 (FA.1+AA)) (λaE=>
        K FA.1 0 aE
        ) y
       )
      )) w7:=by
  intro a4 sr w7 H7;have aA: ∀(sp:Aa) (pl:List Int) (aM:Int) (gA:Bool) (aD:World),pl=V.pl.tail->(gA=true->IK V hint AA aM)->(gA=false->PB V AA)->
    Sat (IX E b {V with rf:=V.rf.tail,pl:=pl} {g with sr:=sr,sp:=sp}++Rs) aD->
    AL (.cells ⟨[.int .u64 hint,.int .u64 0]⟩ E.AJ) aD λT aH=>
     At (Int×Bool×Int×Unit) (aM,gA,0,()) aH λFA _ y d=>
      CND (decide ((FA.2.2.1:Int)<2)) (
       ((0:Int)<=FA.2.2.1/\(FA.2.2.1:Int)<(2:Nat))/\
       ∃aF:Int,y.cell? (Addr.mk T (Int.toNat FA.2.2.1) none)=some (.int .u64 aF)/\
       CND (!FA.2.1) (
        F.D7 E (some ⟨b,0,none⟩) aF AA (λaS aT aI=>
        d (aS,aT,i64 (FA.2.2.1+1),()) aI
        ) y
       ) (
        d (FA.1,FA.2.1,i64 (FA.2.2.1+1),()) y
       )
      ) (
       CND (!FA.2.1) (
        K 0 13 y
       ) (
        F.BT E (some ⟨b,3,none⟩) FA.1 (u64 (FA.1+AA)) (λaE=>
        K FA.1 0 aE
        ) y
       )
      ):=by
   intro sp pl aM gA aD O bE bK a9;subst O;have aN:tM {V with rf:=V.rf.tail,pl:=V.pl.tail} {g with sr:=sr,sp:=sp}:=⟨hI.wd,hI.pg,hI.fi,hI.rl,hI.el,hI.re,hI.Ja,λx hx=>hI.fZ x (List.mem_of_mem_tail hx)⟩;refine AR a9 λT aH bA _=> ?_;refine AH (λst w'=>0<=st.2.2.1/\st.2.2.1<=2/\Sat (Cells T E.AJ [.int .u64 hint,.int .u64 0]::(IX E b {V with rf:=V.rf.tail,pl:=V.pl.tail} {g with sr:=sr,sp:=sp}++Rs)) w'/\
    (st.2.1=true->IK V hint AA st.1)/\(st.2.1=false->PB V AA/\(1<=st.2.2.1->Kl V.laid hint AA)/\(2<=st.2.2.1->Kl V.laid 0 AA))) (λst _=>(2-st.2.2.1).toNat)
    ⟨Int.le_refl _,by grind,bA,bE,λh=>⟨bK h,λh=>by simp only at h;omega,λh=>by simp only at h;omega⟩⟩ ?_
   rintro⟨at_,ok,k,v⟩ _ y ⟨k0,k1,J,hc,hn⟩;simp only at k0 k1 J hc hn⊢;refine AB (λbZ=> ?_) λbY=> ?_
   .rw[AE (n:=k+1)];refine⟨⟨k0,by omega⟩,if k=0 then hint else 0,?_,?_⟩
    .by_cases e:k=0
     .subst e;exact J.Ah rfl
     .have:k=1:=by omega
      subst this;exact J.Ah rfl
    cases ok with
    | true=>exact AO rfl ⟨⟨by omega,by omega,J,hc,λh=>by cases h⟩,by omega⟩
    | false=>
     obtain⟨n1,n2,n3⟩:=hn rfl;have bL:0<=(if k=0 then hint else 0):=by omega
     have bM:(if k=0 then hint else 0)<18446744073709551616:=by omega
     have a3:Kl V.laid (if k=0 then hint else 0) AA->(1<=k+1->Kl V.laid hint AA)/\(2<=k+1->Kl V.laid 0 AA):=by grind
     refine AU rfl (bX hE aN J.tail bL bM (by omega) (by omega) (λbF=> ?_) λhle a r aI O bW hr a6=> ?_)
     .exact⟨⟨by omega,by omega,J,λh=>(by cases h),λ_=>⟨n1,a3 (.inl bF)⟩⟩,by omega⟩
     .refine⟨⟨by omega,by omega,J.nothing a6,λh=> ?_,λh=>⟨n1,a3 (.inr ⟨a,O,λh2=> ?_⟩)⟩⟩,by omega⟩
      .have aJ:=hr.1 h;refine .inr ⟨n1,?_⟩;by_cases e:k=0
       .rw[if_pos e]at O hle;exact .inl ⟨hle,O,aJ⟩
       .rw[if_neg e]at O hle;exact .inr ⟨n2 (by omega),hle,O,aJ⟩
      grind
   .have a2:k=2:=by omega
    subst a2;cases ok with
    | false=>
     obtain⟨n1,n2,n3⟩:=hn rfl;exact AU rfl (bH Y a4 ⟨n1,n2 (by decide),n3 (by decide)⟩ y (Sat.Se.2 ⟨_,aN,J.tail⟩))
    | true=>
     have aO:=hc rfl;have aP:=aO.fits aL (by omega);have hmul:=aP.1;have b0:=aP.2.1;have aK:0<=at_:=by
      rcases aO with ⟨p,r,h1,_,h2⟩|⟨_,⟨_,h1,_⟩|⟨_,_,h1,_⟩⟩
      .rw[h2];exact(hI.fZ p (by rw[h1];simp)).1
      .have:=h1.low;omega
      .have:=h1.low;omega
     have bQ:=aP.2.2.1;have bR:OX=4398046511104:=rfl;rw[AK (n:=at_+AA)];refine AO rfl (nN hE J.tail (o:=3) rfl rfl aK (by omega) (by omega) λaE s' bB=>bI Y a4 at_ aO aE (Sat.Se.2 ⟨{g with sr:=sr,sp:=sp,s1:=s'},?_,bB⟩));have hm: ∀p,mem (Dt V.laid at_ (at_+AA)) p↔mem V.laid p∨(at_<=p/\p<at_+AA):=λp=>EW aL (by omega) aK (by omega) p;refine⟨hI.wd,hI.pg,hI.fi,λp hp=>(hm p).2 (.inl (hI.rl p hp)),λp hp=>(hm p).2 (.inl (hI.el p hp)),hI.re,λp hp=> ?_,aN.fZ⟩;rcases(hm p).1 hp with h|h
     .exact hI.Ja p h
     .omega
  refine YX (o:=0) (H7.DR 3 rfl) rfl (λaB=> ?_) λx r hx aG a8=> ?_
  .refine AV (AO rfl λj=>aA g.sp V.pl 0 false w7 ?_ (λh=>by cases h) (λ_ p r h=> ?_) H7)
   .grind
   grind
  .have aR:V.pl=x::r:=hx;have aY:Sat (IX E b {V with rf:=V.rf.tail,pl:=r} {g with sr:=sr,sp:=⟨F2 g.sp.base g.sp.cap 1 1,g.sp.len-1,g.sp.cap-1⟩}++Rs) aG:=Sat.Th 3 a8 (by simp[IX]);obtain⟨x0,x1⟩:=hI.fZ x (by rw[aR];simp);refine AV (AU rfl (Vp hE aY x0 x1 (by omega) (by omega) λbC aU a1 a5 j=>aA _ r x bC aU (by rw[aR];rfl) (λh=>.inl ⟨x,r,aR,a1.1 h,rfl⟩) (λh p r' hp hf=> ?_) (aY.nothing a5)))
   grind
 refine Vo H (λaB=>AO rfl (aC (λr h=>by grind) g.sr w ?_)) λx r hx w7 H7=> ?_
 .rw[aB];have:{V with rf:=[]}=V:=by rw[<-aB]
  show Sat (IX E b {V with rf:=[]} {g with sr:=g.sr}++Rs) w;rw[this];exact H
 .refine AQ (λe=>bG Y r (by rw[hx,e]) w7 (Sat.Se.2 ⟨{g with sr:=⟨F2 g.sr.base g.sr.cap 1 1,g.sr.len-1,g.sr.cap-1⟩},⟨hI.wd,hI.pg,hI.fi,hI.rl,hI.el,hI.re,hI.Ja,hI.fZ⟩,H7⟩)) λe=>aC (λr' h=> ?_) ⟨F2 g.sr.base g.sr.cap 1 1,g.sr.len-1,g.sr.cap-1⟩ w7 ?_
  .grind
  .rw[hx];exact H7
end
def YY{p:Int×Int}{a b n:Int}:mem (KP p a b) n↔(p.1<=n/\n<p.2)/\a<=n/\n<b:=by
 unfold KP;split
 .constructor
  .intro h;exact absurd h (Bt n)
  omega
 .rw[mem_cons];constructor
  .rintro(h|h)
   .omega
   .exact absurd h (Bt n)
  omega
def Ns{l:Iv}{a b n:Int}:mem (withinL l a b) n↔mem l n/\a<=n/\n<b:=by
 induction l with
 | nil=>exact⟨λh=>absurd h (Bt n),λh=>absurd h.1 (Bt n)⟩
 | cons p r ih=>
  rw[withinL,mem_append,YY,ih,mem_cons]
  grind
def UA{l:Iv}(h:Ok l){a b:Int}(j:a<b):Ok (withinL l a b):=by
 induction l with
 | nil=>exact trivial
 | cons p r ih=>
  rw[withinL,Fx];refine⟨?_,ih h.tail,?_⟩
  .unfold KP;split
   .exact trivial
   .have:=h.1;have:=h.2.1;have:=h.2.2.1;exact⟨by omega,by omega,by omega,by simp,trivial⟩
  .intro q y v d;obtain⟨h1,h2,J⟩:=O8 h.tail j v d;have hm:mem r v.1:=(Ns.1 ⟨v,d,Int.le_refl _,h2⟩).1;obtain⟨z,hz,K,O⟩:=hm;have:=h.2.2.2.1 z hz;unfold KP at y
   grind
def M5(l:Iv)(n:Int):Bool:=l.any λq=>decide (q.1<=n/\n<q.2)
def Bl{l:Iv}{n:Int}:M5 l n=true↔mem l n:=by
 unfold M5 mem
 grind
section
variable{E:Env}{b:Nat}{V:VS}{Rs:List Pr}{w:World}
def bY{page AA:Int}(h0:0<=page)(v:0<=AA)(y:AA<18446744073709551616){K:Bool->World->Prop}(d:K (decide (AA≠0/\page+AA<=34359738368)) w):F.MZ E page AA K w:=by
 unfold F.MZ;refine DM (λz=>AB (λhle=> ?_) λj=> ?_) λz=> ?_
 .rw[AK (n:=34359738368-page)];rwa[show decide (AA<=34359738368-page)=decide (AA≠0/\page+AA<=34359738368)from decide_eq_decide.2 (by omega)]
 .rwa[show decide (AA≠0/\page+AA<=34359738368)=false from decide_eq_false (by omega)]at d
 .rwa[show decide (AA≠0/\page+AA<=34359738368)=false from decide_eq_false (by omega)]at d
variable(hE:EnvS E)
include hE
theorem Vq{t o:Nat}{vs:List Value}{s:Aa}{l:Iv}{rest:List Pr}(H:Sat (Cells b t vs::Mb E s l::rest) w)(h0:vs[o]? =some (.slice s.base s.len s.cap))(h1:vs[o+1]? =some (.int .u64 (Gn l)))
  {x y:Int}(v:0<=x)(O:y<18446744073709551616){K:Aa->World->Prop}
  (J: ∀s' w',Sat (Row E.AD 2 s' (flat (withinL l x y))::Cells b t vs::Mb E s l::rest) w'->Ext AP w w'->K s' w'):F.B6 E (some ⟨b,o,none⟩) x y K w:=by
 refine YP hE (H.setAt h0 h1).row v O λs' w' d j=>J s' w' ?_ j;exact H.new (P:=Row E.AD 2 s' (flat (withinL l x y))) (D:=Po s') j ⟨λ_=>Iff.rfl,d.lower (Nat.zero_le _)⟩ λk hk=>by
  obtain⟨a,v,rfl⟩:=hk;exact(d.lt v).1
end
section
variable{E:Env}{b:Nat}{V:VS}{Rs:List Pr}{w:World}
end
def Hn(V:VS)(page p:Int):Int:=V.fl.getD (cnt V.rel page p).toNat 0
def IY(V:VS)(page AA:Int):VS:=
 {V with rf:=V.rf.tail,ready:=Dt V.ready page (page+AA),rel:=Dz V.rel page (page+AA),fl:=V.fl.drop (cnt V.rel page (page+AA)).toNat,wd:=λp i=>if page<=p/\p<page+AA/\M5 V.rel p=true then Hn V page p else V.wd p i}
def JI(page AA:Int):Prop:=AA≠0/\page+AA<=34359738368
def YZ{l:Iv}(h:Ok l){a x y:Int}(h1:a<=x)(h2:x<=y)(d: ∀n,x<=n->n<y-> ¬mem l n):cnt l a y=cnt l a x:=by
 rw[LW (Ok.aZ h) h1 h2,(DW h h2).2 d];omega
def Sat.PC{P:Pr}{w:World}(d:List Pr){T:List Pr}(H:Sat (P::(d++T)) w):Sat (d++P::T) w:=H.perm List.perm_middle.symm
def Sat.QB{P:Pr}{w:World}(d:List Pr){T:List Pr}(H:Sat (d++P::T) w):Sat (d++T) w:=(H.perm List.perm_middle).tail
def NL(V:VS)(g:VG)(page x p:Int):Option Int:=
 if page<=p/\p<x/\M5 V.rel p=true then(if Hn V page p=0 then none else some (Hn V page p))else g.f p
def QC{V:VS}{g:VG}{page x y:Int}(j:x<=y)(h: ∀p,x<=p->p<y->mem V.rel p->page<=p->Hn V page p=0/\g.f p=none):NL V g page y=NL V g page x:=by
 funext p;unfold NL;by_cases e:page<=p/\p<x/\M5 V.rel p=true
 .grind
 .rw[if_neg e];by_cases e2:page<=p/\p<y/\M5 V.rel p=true
  .rw[if_pos e2];have d:x<=p:=by
    by_cases e3:x<=p
    .exact e3
    .exact absurd ⟨e2.1,by omega,e2.2.2⟩ e
   obtain⟨h1,h2⟩:=h p d e2.2.1 (Bl.1 e2.2.2) e2.1
   grind
  grind
def oG{V:VS}{g:VG}{page p:Int}(hp:page<=p)(hm:mem V.rel p)(q:Int):
  NL V g page (p+1) q=if q=p then(if Hn V page p=0 then none else some (Hn V page p))else NL V g page p q:=by
 unfold NL;by_cases e:q=p
 .subst e;rw[if_pos ⟨hp,by omega,Bl.2 hm⟩,if_pos rfl]
 grind
section
variable{E:Env}{b:Nat}{V:VS}{Rs:List Pr}{w:World}(hE:EnvS E)
include hE
theorem commit_spec(H:Sat (Cx E b V::Rs) w){page AA:Int}(h0:0<=page)(h1:page<18446744073709551616)(p0:0<=AA)(p1:AA<18446744073709551616){K:Int->World->Prop}
  (cN: ¬JI page AA->K 1 w)
  (cO:JI page AA->cnt V.laid page (page+AA)≠AA-> ∀w',Ext AP w w'->K 33 w')
  (aM:JI page AA->cnt V.laid page (page+AA)=AA->cnt V.ready page (page+AA)=AA-> ∀w',Ext AP w w'->K 0 w')
  (cP:JI page AA->cnt V.laid page (page+AA)=AA->cnt V.ready page (page+AA)≠AA-> ∀r,V.rf=true::r-> ∀w',Sat (Cx E b {V with rf:=r}::Rs) w'->K 13 w')
  (cQ:JI page AA->cnt V.laid page (page+AA)=AA->cnt V.ready page (page+AA)≠AA->(∀r,V.rf≠true::r)-> ∀w',Sat (Cx E b (IY V page AA)::Rs) w'->K 0 w'):
  F.Cp E (some ⟨b,0,none⟩) page AA K w:=by
 obtain⟨g,hI,H⟩:=Sat.Se.1 H;obtain⟨Le,Ol,Vr⟩:=T9 H;unfold F.Cp T0.Cp;refine bY h0 p0 p1 (I1 (AB (λhr=> ?_) λhr=>cN hr));have dO:=hr.1;have dP:=hr.2;simp only[AG,add_eq,Nat.zero_add];rw[AK (n:=page+AA)];refine T3 hE H (o:=3) rfl rfl h0 (by omega) (by omega) λw5 a1=> ?_;refine DM (λhl=>cO hr hl w5 a1) λhl=> ?_;refine T3 hE ((H.nothing a1).DR 1 rfl) (o:=5) rfl rfl h0 (by omega) (by omega) λw8 c3=> ?_;have aT:=a1.trans' c3;refine BF (λhd=>aM hr hl hd w8 aT) λhd=> ?_;have H8:=H.nothing aT;have aW: ∀p,page<=p->p<page+AA->mem V.laid p:=(Eu Le (a:=page) (b:=page+AA) (by omega)).1 (by omega);have aH:(∀r,V.rf≠true::r)-> ∀(sr:Aa) (a3:World),Sat (IX E b {V with rf:=V.rf.tail} {g with sr:=sr}++Rs) a3->
   Af (Unit) (λbD=>
    F.B6 E (some ⟨b,7,none⟩) page (page+AA) (λa2 a4=>
    At (Int×Unit) (0,()) a4 λFA _ aC aN=>
     CND (decide ((FA.1:Int)<((a2.len:Nat):Int))) (
      NC a2.base λbT=>
      ((0:Int)<=FA.1/\(FA.1:Int)<(a2.len:Nat))/\
      ∃bE:Int,aC.cell? ((bT.add (Int.toNat FA.1*2)).add 0)=some (.int .u64 bE)/\
      ∃bF:Int,aC.cell? ((bT.add (Int.toNat FA.1*2)).add 1)=some (.int .u64 bF)/\
      AL (.cells #[.int .u64 0,.int .u64 0] E.AD) aC λaB bW=>
      stCells (Addr.mk aB 0 none) 0 [.int .u64 bE,.int .u64 bF] bW λa5=>
      ∃bZ:Int,a5.cell? (Addr.mk aB 0 none)=some (.int .u64 bZ)/\
      At (Int×Unit) (bZ,()) a5 λJR _ O aA=>
       ∃b0:Int,O.cell? (Addr.mk aB 1 none)=some (.int .u64 b0)/\
       CND (decide ((JR.1:Int)<b0)) (
        ∃aO:Aa,O.cell? (Addr.mk b 2 none)=some (.slice aO.base aO.len aO.cap)/\
        CND ((((aO.len:Nat):Int):Int)==0) (
         bD (()) O
        ) (
         F.EY E (some (Addr.mk b 2 none)) (λbU dT aK=>
         CND ((bU:Int) !=0) (
          ∃b1:(Option Nat),aK.cell? (Addr.mk b 9 none)=some (.map b1)/\
          WQ .u64 JR.1 (.int .u64 bU) b1 aK λa6=>
          aA (u64 (JR.1+1),()) a6
         ) (
          aA (u64 (JR.1+1),()) aK
         )
         ) O
        )
       ) (
        aN (i64 (FA.1+1),()) O
       )
     ) (
      bD (()) aC
     )
    ) a3
   ) λKr _ bV=>
    F.Co E (some (Addr.mk b 7 none)) page (page+AA) (λbX=>
    F.BT E (some (Addr.mk b 5 none)) page (page+AA) (λa7=>
    K 0 a7
    ) bX
    ) bV:=by
  intro cY sr a3 b4;have aV: ∀p,mem V.rel p->g.f p=none:=λp hp=>by
   cases hf:g.f p with
   | none=>rfl
   | some v=>exact absurd hp (hI.re p (hI.fi p (by grind)))
  refine AX (λ_ w'=> ∃sf,Sat (IX E b {V with rf:=V.rf.tail,fl:=V.fl.drop (cnt V.rel page (page+AA)).toNat} {g with sr:=sr,sf:=sf,f:=NL V g page (page+AA)}++Rs) w') ?_ ?_
  .refine Vq hE (b4.DR 2 rfl) (o:=7) rfl rfl h0 (by omega) λs' a4 a9 _=> ?_;have aD:Sat (IX E b {V with rf:=V.rf.tail} {g with sr:=sr}++Row E.AD 2 s' (flat (withinL V.rel page (page+AA)))::Rs) a4:=
    Sat.PC (IX E b {V with rf:=V.rf.tail} {g with sr:=sr}) (a9.perm (.cons _ (.cons _ (DX (i:=2) rfl).symm)))
   clear a9;have Y:=UA Vr (a:=page) (b:=page+AA) (by omega);generalize hm:withinL V.rel page (page+AA)=m at aD Y;have aE: ∀n,mem m n↔mem V.rel n/\page<=n/\n<page+AA:=λn=>by rw[<-hm];exact Ns
   have bH: ∀q∈m,page<=q.1/\q.1<q.2/\q.2<=page+AA:=by rw[<-hm];exact O8 Vr (by omega)
   have cG:=DL V.rel page;have dK: ∀c,V.fl.length<=c->V.fl.getD c 0=0:=λc hc=>by grind
   have aQ: ∀x,page<=x->x<=page+AA->(cnt V.rel page x).toNat<=V.fl.length->((∀n,x<=n->n<page+AA-> ¬mem V.rel n)∨V.fl.drop (cnt V.rel page x).toNat=[])-> ∀sf (T:List Pr) w',
     Sat (IX E b {V with rf:=V.rf.tail,fl:=V.fl.drop (cnt V.rel page x).toNat} {g with sr:=sr,sf:=sf,f:=NL V g page x}++T) w'->
     Sat (IX E b {V with rf:=V.rf.tail,fl:=V.fl.drop (cnt V.rel page (page+AA)).toNat} {g with sr:=sr,sf:=sf,f:=NL V g page (page+AA)}++T) w':=by
    intro x aI aJ bG cU sf T w' hS;rcases cU with aF|d
    .have e1:=YZ Vr aI aJ aF;have e2:NL V g page (page+AA)=NL V g page x:=QC aJ λp h1 h2 h3 _=>absurd h3 (aF p h1 h2)
     grind
    .have hlen:V.fl.length<=(cnt V.rel page x).toNat:=List.drop_eq_nil_iff.1 d;have hle: ∀p,x<=p->cnt V.rel page x<=cnt V.rel page p:=λp hp=>by
      rw[LW (Ok.aZ Vr) aI hp];have:=DL V.rel x p;omega
     have e1:V.fl.drop (cnt V.rel page (page+AA)).toNat=V.fl.drop (cnt V.rel page x).toNat:=by
      rw[d,List.drop_eq_nil_iff]
      grind
     have e2:NL V g page (page+AA)=NL V g page x:=QC aJ λp h1 h2 h3 _=>⟨by
      unfold Hn
      grind,aV p h3⟩
     grind
   have aS: ∀{T:List Pr} {sf fl f w'},Sat (IX E b {V with rf:=V.rf.tail,fl:=fl} {g with sr:=sr,sf:=sf,f:=f}++Row E.AD 2 s' (flat m)::T) w'->I0 w' 0 E.AD 2 s' (flat m):=λh=>(h.front 10 rfl).own;have cZ:s'.len=m.length:=by
    have:=(aS (T:=Rs) (sf:=g.sf) (fl:=V.fl) (f:=g.f) aD).len;rw[FM]at this;omega
   have cR:m.length<=34359738368:=by
    have: ∀(l:Iv) (B:Int),Ok l->(∀q∈l,B<=q.1/\q.2<=34359738368)->B<=34359738368->(l.length:Int)<=34359738368-B:=by
     intro l
     induction l with
     | nil=>grind
     | cons q r ih=>
      intro B ho hb _;have h1:=hb q List.mem_cons_self;have h2:=ho.2.1;have:=ih q.2 ho.tail (λq' bM=>⟨by have:=ho.2.2.2.1 q' bM;omega,(hb q' (List.mem_cons_of_mem _ bM)).2⟩) h1.2
      grind
    have:=this m 0 Y (λq hq=>⟨by grind,by grind⟩) (by decide);omega
   refine AH (λst w'=> ∃(k:Nat) (x:Int) (sf:Aa),st.1=(k:Int)/\k<=m.length/\page<=x/\x<=page+AA/\(cnt V.rel page x).toNat<=V.fl.length/\(∀q∈m.take k,q.2<=x)/\(∀q∈m.drop k,x<=q.1)/\
     Sat (IX E b {V with rf:=V.rf.tail,fl:=V.fl.drop (cnt V.rel page x).toNat} {g with sr:=sr,sf:=sf,f:=NL V g page x}++Row E.AD 2 s' (flat m)::Rs) w') (λst _=>(m.length-st.1).toNat)
    ⟨0,page,g.sf,rfl,Nat.zero_le _,Int.le_refl _,by omega,?_,by simp,λq hq=>(bH q (by simpa using hq)).1,?_⟩ ?_
   .have:cnt V.rel page page=0:=(DW Vr (Int.le_refl _)).2 λn h1 h2=>by omega
    omega
   .have e1:cnt V.rel page page=0:=(DW Vr (Int.le_refl _)).2 λn h1 h2=>by omega
    have e2:NL V g page page=g.f:=by funext p;unfold NL;grind
    rw[e1,e2];exact aD
   rintro⟨i,v⟩ _ aC ⟨k,x,sf,hk,dM,aI,aJ,bG,c0,cI,aU⟩;simp only at hk⊢;subst hk;refine AB (λbJ=> ?_) λcK=> ?_
   .have aM:k<m.length:=by omega
    obtain⟨q,hq⟩: ∃q,m[k]? =some q:=⟨_,List.getElem?_eq_getElem aM⟩;have bN:=List.mem_of_getElem? hq;obtain⟨g1,g2⟩:=Nn m k q hq;obtain⟨q1,q2,q3⟩:=bH q bN;have aG:=aS aU;obtain⟨bb,hb⟩:=aG.Eo (by omega);have c1:=aG.cell hb g1;have c2:=aG.cell hb g2;rw[add_eq,Nat.zero_add]at c1 c2;rw[hb];simp only[AG,add_eq,Nat.zero_add,Int.toNat_natCast,Nat.add_zero];refine⟨⟨by omega,by omega⟩,q.1,c1,q.2,c2,?_⟩;refine AR aU λaB bW b6 _=>GM b6 (by rfl) (by simp[Value.oneCell']) λa5 bA=> ?_;refine⟨q.1,bA.Ah rfl,?_⟩;have bB:=Sat.PC (IX E b {V with rf:=V.rf.tail,fl:=V.fl.drop (cnt V.rel page x).toNat} {g with sr:=sr,sf:=sf,f:=NL V g page x}) bA;have bP:x<=q.1:=cI q (List.mem_of_getElem? (i:=0) (by grind));have aF: ∀n,x<=n->n<q.1-> ¬mem V.rel n:=by
     intro n h1 h2 hn;obtain⟨z,hz,h3,h4⟩:=(aE n).2 ⟨hn,by omega,by omega⟩;obtain⟨j,hj⟩:=List.mem_iff_getElem?.1 hz;rcases Nat.lt_trichotomy j k with e|e|e
     .have:=c0 z (List.mem_of_getElem? (i:=j) (by grind));omega
     .grind
     .have:=Y.lt e hq hj;omega
    have ec:cnt V.rel page q.1=cnt V.rel page x:=YZ Vr aI bP aF;have ef:NL V g page q.1=NL V g page x:=QC bP λp h1 h2 h3 _=>absurd h3 (aF p h1 h2);refine AH (λst w'=>q.1<=st.1/\st.1<=q.2/\(cnt V.rel page st.1).toNat<=V.fl.length/\ ∃sf,
      Sat (IX E b {V with rf:=V.rf.tail,fl:=V.fl.drop (cnt V.rel page st.1).toNat} {g with sr:=sr,sf:=sf,f:=NL V g page st.1}++Cells aB E.AD [.int .u64 q.1,.int .u64 q.2]::Row E.AD 2 s' (flat m)::Rs) w')
     (λst _=>(q.2-st.1).toNat) ⟨Int.le_refl _,by omega,by grind,sf,by rw[ec,ef];exact bB⟩ ?_
    rintro⟨p,v⟩ _ O ⟨bK,cV,a0,sf,J⟩;simp only at bK cV a0 J⊢;refine⟨q.2,(J.front 10 rfl).Ah rfl,AB (λbJ=> ?_) λcK=> ?_⟩
    .have bL:mem V.rel p:=((aE p).1 ⟨q,bN,bK,bJ⟩).1;have cH:=(Jd Vr (a:=page) (k:=p) (by omega)).1 bL;have dC:=cG p;refine⟨sf,J.Ah rfl,BF (λhz=> ?_) λdN=> ?_⟩
     .have d:V.fl.drop (cnt V.rel page p).toNat=[]:=by
       have:(ints .u64 (V.fl.drop (cnt V.rel page p).toNat)).length=sf.len:=(J.front 6 rfl).MW.1;have h0:(ints .u64 (V.fl.drop (cnt V.rel page p).toNat)).length=0:=by omega
       rw[List.drop_eq_nil_iff];simp[ints]at h0;omega
      exact⟨sf,Sat.QB _ (Sat.QB _ (aQ p (by omega) (by omega) a0 (.inr d) sf _ O J))⟩
     .refine YX (o:=2) (J.DR 5 rfl) rfl (λd=> ?_) λy r hy aK b7=> ?_
      .exfalso;have:=(J.front 6 rfl).MW.1;have aX:V.fl.drop (cnt V.rel page p).toNat=[]:=d;rw[aX]at this;simp[ints]at this;omega
      .have bQ:V.fl.drop (cnt V.rel page p).toNat=y::r:=hy;have dB:(cnt V.rel page p).toNat<V.fl.length:=by grind
       have cX:r=V.fl.drop (cnt V.rel page (p+1)).toNat:=by
        rw[cH,show(cnt V.rel page p+1).toNat=(cnt V.rel page p).toNat+1 by omega,<-List.drop_drop,bQ];rfl
       have cJ:Hn V page p=y:=by
        unfold Hn;rw[List.getD_eq_getElem?_getD,<-Nat.add_zero (cnt V.rel page p).toNat,<-List.getElem?_drop,bQ];rfl
       have bC:Sat (IX E b {V with rf:=V.rf.tail,fl:=V.fl.drop (cnt V.rel page (p+1)).toNat} {g with sr:=sr,sf:=⟨F2 sf.base sf.cap 1 1,sf.len-1,sf.cap-1⟩,f:=NL V g page p}++Cells aB E.AD [.int .u64 q.1,.int .u64 q.2]::Row E.AD 2 s' (flat m)::Rs) aK:=by
        rw[<-cX];exact Sat.Th 5 b7 (by simp[IX])
       rw[AK (n:=p+1)];refine DM (λbR=> ?_) λbR=> ?_
       .refine⟨some g.fb,bC.Ah rfl,fD (bC.front 7 rfl) λa6 b8=> ?_⟩;refine⟨⟨by omega,by omega,by omega,⟨F2 sf.base sf.cap 1 1,sf.len-1,sf.cap-1⟩,?_⟩,by omega⟩;have b9:=Sat.back 7 b8 (by simp[IX]);have:YW {g with f:=NL V g page (p+1)}=λi=>if i=p then some (.int .u64 y)else YW {g with f:=NL V g page p} i:=by
         funext i;show(NL V g page (p+1) i).map _=if i=p then _ else(NL V g page p i).map _
         rw[oG (by omega) bL i,cJ,if_neg bR]
         grind
        show Sat (IX E b _ {g with sr:=sr,sf:=_,f:=NL V g page (p+1)}++_) a6;unfold IX;have e:YW {g with sr:=sr,sf:=⟨F2 sf.base sf.cap 1 1,sf.len-1,sf.cap-1⟩,f:=NL V g page (p+1)}=YW {g with f:=NL V g page (p+1)}:=rfl;rw[e,this];exact b9
       .refine⟨⟨by omega,by omega,by omega,⟨F2 sf.base sf.cap 1 1,sf.len-1,sf.cap-1⟩,?_⟩,by omega⟩;have:NL V g page (p+1)=NL V g page p:=QC (by omega) λp' h1 h2 h3 _=>by grind
        grind
    .have cW:p=q.2:=by omega
     subst cW;have ei:i64 ((k:Int)+1)=((k+1:Nat):Int):=by rw[AE];omega
     refine⟨⟨k+1,q.2,sf,ei,by omega,by omega,by omega,a0,λz hz=> ?_,λz hz=> ?_,Sat.QB _ J⟩,by omega⟩
     .rw[List.take_succ_eq_append_getElem aM,List.mem_append,List.mem_singleton]at hz
      grind
     .obtain⟨j,hj⟩:=List.mem_iff_getElem?.1 hz;rw[List.getElem?_drop]at hj;have:=Y.lt (i:=k) (j:=k+1+j) (by omega) hq hj;omega
   .have dL:k=m.length:=by omega
    refine⟨sf,Sat.QB _ (aQ x aI aJ bG (.inl λn h1 h2 hn=> ?_) sf _ aC aU)⟩;obtain⟨z,hz,h3,h4⟩:=(aE n).2 ⟨hn,by omega,h2⟩
    grind
  .rintro _ _ bV ⟨sf,b5⟩;have dA:OX=4398046511104:=rfl;refine xF hE (b5.DR 2 rfl) (o:=7) rfl rfl h0 (by omega) (by omega) λbX c6 cA=> ?_;have cB:=Sat.Th 2 cA (by simp[IX]);refine nN hE (cB.DR 1 rfl) (o:=5) rfl rfl h0 (by omega) (by omega) λa7 c5 cC=> ?_;have cD:=Sat.Th 1 cC (by simp[IX]);refine cQ hr hl hd cY a7 (Sat.Se.2 ⟨{g with sr:=sr,sf:=sf,s2:=c5,s3:=c6,f:=NL V g page (page+AA)},?_,cD⟩);have ma: ∀p,mem (Dt V.ready page (page+AA)) p↔mem V.ready p∨(page<=p/\p<page+AA):=λp=>EW Ol (by omega) h0 (by omega) p;have mc: ∀p,mem (Dz V.rel page (page+AA)) p↔mem V.rel p/\ ¬(page<=p/\p<page+AA):=λp=>Et (by omega);refine⟨λp i cL cM=> ?_,λp hp=>(ma p).2 (.inl (hI.pg p hp)),λp hp=> ?_,λp hp=> ?_,λp hp=>hI.el p ((mc p).1 hp).1,λp hp hq=> ?_,hI.Ja,hI.fZ⟩
   .show(if page<=p/\p<page+AA/\M5 V.rel p=true then Hn V page p else V.wd p i)=match g.G p with|some x=>x.2 i|none=>(NL V g page (page+AA) p).getD 0
    by_cases e:page<=p/\p<page+AA/\M5 V.rel p=true
    .rw[if_pos e];have bO:=Bl.1 e.2.2;have:g.G p=none:=by
      cases hG:g.G p with
      | none=>rfl
      | some x=>exact absurd bO (hI.re p (hI.pg p (by grind)))
     rw[this];unfold NL
     grind
    .rw[if_neg e,hI.wd p i cL cM];unfold wordOf NL
     grind
   .have aY:NL V g page (page+AA) p≠none:=hp;unfold NL at aY;by_cases e:page<=p/\p<page+AA/\M5 V.rel p=true
    .exact(ma p).2 (.inr ⟨e.1,e.2.1⟩)
    .rw[if_neg e]at aY;exact(ma p).2 (.inl (hI.fi p aY))
   .rcases(ma p).1 hp with h|h
    .exact hI.rl p h
    .exact aW p h.1 h.2
   .rcases(ma p).1 hp with h|h
    .exact hI.re p h ((mc p).1 hq).1
    .exact((mc p).1 hq).2 h
 refine Vo H8 (λd=>AO rfl (aH (λr h=>by grind) g.sr w8 ?_)) λx r hx w7 H7=> ?_
 .have:{V with rf:=V.rf.tail}=V:=by
   have:V.rf.tail=V.rf:=by grind
   rw[this]
  show Sat (IX E b {V with rf:=V.rf.tail} {g with sr:=g.sr}++Rs) w8;rw[this];exact H8
 .refine AQ (λe=>cP hr hl hd r (by rw[hx,e]) w7 (Sat.Se.2 ⟨{g with sr:=⟨F2 g.sr.base g.sr.cap 1 1,g.sr.len-1,g.sr.cap-1⟩},⟨hI.wd,hI.pg,hI.fi,hI.rl,hI.el,hI.re,hI.Ja,hI.fZ⟩,H7⟩)) λe=>aH (λr' h=> ?_) ⟨F2 g.sr.base g.sr.cap 1 1,g.sr.len-1,g.sr.cap-1⟩ w7 ?_
  .grind
  .rw[hx];exact H7
end
section
variable{n:Nat}{G:Pgs}{Rs:List Pr}{p:Int}
end
section
variable{E:Env}{b:Nat}{V:VS}{Rs:List Pr}{w:World}
variable(hE:EnvS E)
include hE
end
def Md(pl:List Int)(rf:List Bool)(fl:List Int):VS:=⟨[],[],[],λ_ _=>0,pl,rf,fl⟩
section
variable{E:Env}{b:Nat}{V:VS}{Rs:List Pr}{w:World}
variable(hE:EnvS E)
include hE
end
section
variable{E:Env}{Ps Rs:List Pr}{w:World}
def Ro(i:Nat){K:Nat->World->Prop}(H:Sat Ps w)(d:Ps[i]? =some qY)(v: ∀b w',Sat (Ps.set i (Dm b .u64 λ_=>none)) w'->K b w'):AL (.map #[] 0) w K:=
 Wf (H.front i d).tail .u64 λb w' j _=>v b w' (Sat.back i j (List.getElem?_eq_some_iff.1 d).1)
def Ya{t:Nat}{zs:Array Value}{bytes:Nat}{a:Aa}{vs:List Value}{K:Aa->World->Prop}(H:Sat Rs w)(hz:zs.size=1)(d: ∀w',Sat Rs w'->rowAt w' a.base a.len vs)(hl:vs.length=a.len)(hlen:a.len<=1099511627776)(O:bytes<=8)
  (ho: ∀v∈vs,v.oneCell'=true)(y: ∀s' w',Sat (KI s' vs::Rs) w'->K s' w'):
  CND (a.base.isNone) (K ⟨none,0,0⟩ w) (AL (.cells ⟨[]⟩ t) w λb1 j=>APP t 1 bytes zs ⟨(some (Addr.mk b1 0 none)),0,0⟩ a j λs3 w4=>K s3 w4):=by
 refine AQ (λe=> ?_) λe=> ?_
 .have hb:a.base=none:=by simpa using e
  have:=d w H;rw[hb]at this;have hv:vs=[]:=this;rw[hv]at y;exact y _ w H.rQ
 .refine BS λj J aD T=> ?_;have Y:Sat (Row t 1 ⟨some ⟨w.heap.size,0,none⟩,0,0⟩ []::Rs) j:=H.new (P:=Row t 1 ⟨some ⟨w.heap.size,0,none⟩,0,0⟩ []) (D:=Po ⟨some ⟨w.heap.size,0,none⟩,0,0⟩) T
   ⟨λ_=>Iff.rfl,WX J rfl (Nat.zero_le _) (by decide)⟩ λk hk=>by obtain⟨x,hx,rfl⟩:=hk;grind
  have hm:(0+a.len)*bytes<=1099511627776*8:=Nat.mul_le_mul (by omega) O;refine Ep Y hz (by simpa using d j Y.tail) (by omega) ho (by grind) (by grind) λs' w' H' _=>y s' w' ?_;exact Sat.rO H'
def Vs(i:Nat){a:Aa}{l:List Int}{K:Aa->World->Prop}(H:Sat Ps w)(j:Ps[i]? =some qY)(d: ∀w',Sat (Ps.eraseIdx i) w'->rowAt w' a.base a.len (ints .u64 l))(T:l.length=a.len)(hlen:a.len<=1099511627776)
  (O: ∀s' w',Sat (Ps.set i (KI s' (ints .u64 l))) w'->K s' w'):F.Dv E a K w:=by
 unfold F.Dv;exact Ya (H.front i j).tail rfl d (by simpa[ints]using T) hlen (Nat.le_refl _) (by intro v y;simp[ints]at y;obtain⟨x,_,rfl⟩:=y;rfl) λs' w' J=>O s' w' (Sat.back i J (List.getElem?_eq_some_iff.1 j).1)
def bZ(i:Nat){a:Aa}{l:List Bool}{K:Aa->World->Prop}(H:Sat Ps w)(j:Ps[i]? =some qY)(d: ∀w',Sat (Ps.eraseIdx i) w'->rowAt w' a.base a.len (Bn l))(T:l.length=a.len)(hlen:a.len<=1099511627776)
  (O: ∀s' w',Sat (Ps.set i (KI s' (Bn l))) w'->K s' w'):F.Er E a K w:=by
 unfold F.Er;exact Ya (H.front i j).tail rfl d (by simpa[Bn]using T) hlen (by decide) (by intro v y;simp[Bn]at y;rcases y with ⟨_,rfl⟩|⟨_,rfl⟩<;>rfl) λs' w' J=>O s' w' (Sat.back i J (List.getElem?_eq_some_iff.1 j).1)
def gB{b t1 b1 t2 m1 d:Nat}{r1 r2 j:Aa}{vs:List Value}{pl:List Int}{rf:List Bool}{fl:List Int}(v: ∀x∈pl,0<=x/\x<18446744073709551616)
  (H:Sat (Cells b t1 [Fo r1,Fo r2,Fo j,.slice none 0 0,.int .u64 0,.slice none 0 0,.int .u64 0,.slice none 0 0,.int .u64 0,.map (some m1),.map (some d)]::Cells b1 t2 vs::
   KI r1 (ints .u64 pl)::KI r2 (Bn rf)::KI j (ints .u64 fl)::Dm m1 .u64 (λ_=>none)::Dm d .u64 (λ_=>none)::Rs) w):Sat (Cx E b (Md pl rf fl)::Rs) w:=by
 have H1:=(H.perm (.swap _ _ _)).tail;have y:=(Sat.PC [Cells b t1 _,KI r1 _,KI r2 _,KI j _,Dm m1 _ _,Dm d _ _] (H1.zO 1024));have J:=((y.bM (E:=E)).perm (.swap _ _ _));have K:=((J.bM (E:=E)).perm (.swap _ _ _));have O:=((K.bM (E:=E)).perm (.swap _ _ _));exact Sat.Se.2 ⟨⟨r1,r2,j,⟨none,0,0⟩,⟨none,0,0⟩,⟨none,0,0⟩,m1,d,λ_=>none,λ_=>none⟩,
  ⟨λ_ _ _ _=>rfl,λ_ h=>absurd rfl h,λ_ h=>absurd rfl h,λ_ h=>h,λ_ h=>h,λp h=>absurd h (Bt p),λp h=>absurd h (Bt p),v⟩,O⟩
def jO(H:Sat Rs w){a0 a1 a2:Aa}{pl:List Int}{rf:List Bool}{fl:List Int}(j: ∀x∈pl,0<=x/\x<18446744073709551616)
  (h0: ∀w',Sat Rs w'->rowAt w' a0.base a0.len (ints .u64 pl))(l0:pl.length=a0.len)(k0:a0.len<=1099511627776)
  (h1: ∀w',Sat Rs w'->rowAt w' a1.base a1.len (Bn rf))(l1:rf.length=a1.len)(k1:a1.len<=1099511627776)
  (h2: ∀w',Sat Rs w'->rowAt w' a2.base a2.len (ints .u64 fl))(l2:fl.length=a2.len)(k2:a2.len<=1099511627776)
  {K:Option Addr->World->Prop}(O: ∀b w',Sat (Cx E b (Md pl rf fl)::Rs) w'->K (some ⟨b,0,none⟩) w'):F.Ji E a0 a1 a2 K w:=by
 unfold F.Ji T0.Ji;refine AR H.emp.emp.emp.emp.emp λb1 w2 J _=> ?_;have v:=J.drew;clear J;have t5: ∀{P0 T Y P3 P4:Pr} {w'},Sat (P0::T::Y::P3::P4::Rs) w'->Sat Rs w':=λh=>h.tail.tail.tail.tail.tail;refine⟨a0,v.Ah rfl,a1,v.cell rfl,a2,v.cell rfl,?_⟩
 repeat' first
  | (exact Sat.cell (by assumption) (by rfl))
  | (exact Sat.Ah (by assumption) (by rfl))
  | (refine Vs 1 (a:=a0) (l:=pl) (by assumption) (by rfl) (by intro w' h;exact h0 w' (t5 h)) l0 k0 λs' w' d=> ?_)
  | (refine bZ 2 (a:=a1) (l:=rf) (by assumption) (by rfl) (by intro w' h;exact h1 w' (t5 h)) l1 k1 λs' w' d=> ?_)
  | (refine Vs 3 (a:=a2) (l:=fl) (by assumption) (by rfl) (by intro w' h;exact h2 w' (t5 h)) l2 k2 λs' w' d=> ?_)
  | (refine Ro 4 (by assumption) (by rfl) λy w' d=> ?_)
  | (refine Ro 5 (by assumption) (by rfl) λy w' d=> ?_)
  | (refine AR (by assumption) λy w' d _=> ?_;exact O _ _ (gB j d))
  | (refine AR (by assumption) λy w' d _=> ?_;exact O _ _ (gB j (d.perm (.cons _ (.cons _ (.cons _ (.cons _ (.cons _ (.swap _ _ _)))))))))
  | (refine And.intro ?_ ?_)
def gC: ∀(n:Nat) {l m k:Iv},Ok l->Ok m->Ok k->(∀p,mem m p->mem l p)->(∀p,mem k p->mem l p)->(∀p,mem m p-> ¬mem k p)-> ∀a:Int,cnt m a (a+n)+cnt k a (a+n)<=cnt l a (a+n)
 | 0,l,m,k,hl,hm,hk,_,_,_,a=>by
  have h1:=E0 hm (show a<=a+(0:Nat) by omega);have h2:=E0 hk (show a<=a+(0:Nat) by omega);have d:=DL l a (a+(0:Nat));omega
 | n+1,l,m,k,hl,hm,hk,h1,h2,d,a=>by
  have v:=gC n hl hm hk h1 h2 d a;have e:a+((n+1:Nat):Int)=(a+n)+1:=by omega
  rw[e];have sl:=Jd hl (a:=a) (k:=a+n) (by omega);have sm:=Jd hm (a:=a) (k:=a+n) (by omega);have j:=Jd hk (a:=a) (k:=a+n) (by omega);by_cases c1:mem m (a+n)
  .grind
  .have:=sm.2 c1;by_cases c2:mem k (a+n)
   .grind
   .have:=j.2 c2;by_cases c3:mem l (a+n)
    .grind
    grind
structure VH(V:VS):Prop where
 Le:Ok V.laid
 Ol:Ok V.ready
 Vr:Ok V.rel
 rl: ∀p,mem V.ready p->mem V.laid p
 el: ∀p,mem V.rel p->mem V.laid p
 re: ∀p,mem V.ready p-> ¬mem V.rel p
 Ja: ∀p,mem V.laid p->512<=p/\p<34359738368
 clean: ∀p i,0<=i->i<1024-> ¬mem V.ready p->V.wd p i=0
 xW:Gn V.ready+Gn V.rel<=Gn V.laid
def Sat.vok{b:Nat}{V:VS}(H:Sat (Cx E b V::Rs) w):VH V:=by
 obtain⟨g,hI,H⟩:=Sat.Se.1 H;obtain⟨Le,Ol,Vr⟩:=T9 H;refine⟨Le,Ol,Vr,hI.rl,hI.el,hI.re,hI.Ja,λp i h0 h1 d=> ?_,?_⟩
 .rw[hI.wd p i h0 h1];unfold wordOf;cases hG:g.G p with
  | some x=>exact absurd (hI.pg p (by grind)) d
  | none=>
   cases hf:g.f p with
   | none=>rfl
   | some x=>exact absurd (hI.fi p (by grind)) d
 .have h1:=LX (Ok.aZ Le) (a:=0) (b:=0+(34359738368:Nat)) λn d=>by have:=hI.Ja n d;omega
  have h2:=LX (Ok.aZ Ol) (a:=0) (b:=0+(34359738368:Nat)) λn d=>by have:=hI.Ja n (hI.rl n d);omega
  have j:=LX (Ok.aZ Vr) (a:=0) (b:=0+(34359738368:Nat)) λn d=>by have:=hI.Ja n (hI.el n d);omega
  have:=gC 34359738368 Le Ol Vr hI.rl hI.el hI.re 0;omega
end
section
variable{E:Env}{b:Nat}{V:VS}{Rs:List Pr}{w:World}
variable(hE:EnvS E)
include hE
theorem oH(H:Sat Rs w){K:Option Addr->World->Prop}(d: ∀b w',Sat (Cx E b (Md [] [] [])::Rs) w'->K (some ⟨b,0,none⟩) w'):F.Ji E ⟨none,0,0⟩ ⟨none,0,0⟩ ⟨none,0,0⟩ K w:=
 jO (a0:=⟨none,0,0⟩) (a1:=⟨none,0,0⟩) (a2:=⟨none,0,0⟩) H (pl:=[]) (rf:=[]) (fl:=[]) (by simp) (λ_ _=>show([]:List Value)=[]from rfl) rfl (by decide) (λ_ _=>show([]:List Value)=[]from rfl) rfl (by decide) (λ_ _=>show([]:List Value)=[]from rfl) rfl (by decide) d
end
end Go.Sh

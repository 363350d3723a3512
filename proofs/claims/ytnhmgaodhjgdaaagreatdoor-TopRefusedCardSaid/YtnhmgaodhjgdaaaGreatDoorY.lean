/- The address space does what its pages and words say. No further condition. -/
import Derived.Test.YtnhmgaodhjgdaaaGreatDoorS
import Derived.Test.YtnhmgaodhjgdaaaGreatDoorA
import Derived.Test.YtnhmgaodhjgdaaaGreatDoorM
import Derived.Test.YtnhmgaodhjgdaaaGreatDoorW
set_option linter.all false
set_option maxRecDepth 50000
set_option maxHeartbeats 4000000
namespace Go.Sh
structure VS where
  laid:Iv
  ready:Iv
  rel:Iv
  wd:Int->Int->Int
  pl:List Int
  rf:List Bool
  fl:List Int
structure VG where
  sp:AW
  sr:AW
  sf:AW
  s1:AW
  s2:AW
  s3:AW
  fb:Nat
  pb:Nat
  G:Pgs
  f:Int->Option Int
def FJ(s:AW):Value:=.slice s.base s.len s.cap
def oZ(V:VS)(g:VG):List Value:=
  [FJ g.sp,FJ g.sr,FJ g.sf,FJ g.s1,.int .u64 (JZ V.laid),FJ g.s2,.int .u64 (JZ V.ready),FJ g.s3,.int .u64 (JZ V.rel),.map (some g.fb),.map (some g.pb)]
def PR(g:VG):Int->Option Value:=λp=>(g.f p).map λn=>.int .u64 n
def OE(g:VG):Int->Option Value:=λp=>(g.G p).map λx=>.pointer (some ⟨x.1,0,none⟩)
def Fi(E:Env)(b:Nat)(V:VS)(g:VG):List Pr:=
  [Cells b 0 (oZ V g),Mb E g.s1 V.laid,Mb E g.s2 V.ready,Mb E g.s3 V.rel,MH g.sp (ints .u64 V.pl),MH g.sr (F8 V.rf),MH g.sf (ints .u64 V.fl),
   CH g.fb .u64 (PR g),CH g.pb .u64 (OE g),Nw 1024 g.G]
def wordOf(g:VG)(p i:Int):Int:=match g.G p with
  | some x=>x.2 i
  | none=>(g.f p).getD 0
structure XH(V:VS)(g:VG):Prop where
  wd: ∀p i,0<=i->i<1024->V.wd p i=wordOf g p i
  pg: ∀p,g.G p≠none->mem V.ready p
  fi: ∀p,g.f p≠none->mem V.ready p
  rl: ∀p,mem V.ready p->mem V.laid p
  el: ∀p,mem V.rel p->mem V.laid p
  re: ∀p,mem V.ready p-> ¬mem V.rel p
  OC: ∀p,mem V.laid p->512<=p/\p<34359738368
  sU: ∀x∈V.pl,0<=x/\x<18446744073709551616
def Bj(E:Env)(b:Nat)(V:VS):Pr:=Ex λg=>KR (XH V g) (S5 (Fi E b V g))
section
variable{E:Env}{b:Nat}{V:VS}{Rs:List Pr}{w:World}
def Sat.OF:Sat (Bj E b V::Rs) w↔ ∃g,XH V g/\Sat (Fi E b V g++Rs) w:=by
  unfold Bj;rw[Sat.ex];constructor
  . rintro⟨g,h⟩;obtain⟨h1,a⟩:=Sat.where.1 h;exact⟨g,h1,Sat.star.1 a⟩
  . rintro⟨g,h1,a⟩;exact⟨g,Sat.where.2 ⟨h1,Sat.star.2 a⟩⟩
def UT{g:VG}(H:Sat (Fi E b V g++Rs) w):Ok V.laid/\Ok V.ready/\Ok V.rel:=
  ⟨(Mb.ok (H.front 1 rfl)).1,(Mb.ok (H.front 2 rfl)).1,(Mb.ok (H.front 3 rfl)).1⟩
def Vz{g:VG}(H:Sat (Fi E b V g++Rs) w){K:Bool->Bool->World->Prop}(h0:V.rf=[]->K false false w)
    (h1: ∀x r,V.rf=x::r-> ∀w',Sat (Fi E b {V with rf:=r} {g with sr:=⟨KH g.sr.base g.sr.cap 1 1,g.sr.len-1,g.sr.cap-1⟩}++Rs) w'->K x true w'):
    F.Hj E (some ⟨b,1,none⟩) K w:=by
  unfold F.Hj;have e:=(H.front 5 rfl).TO;have c:=H.AU (o:=1) rfl;simp only[AK];refine⟨g.sr,c,AG (λT=> ?_) λO=>h0 ?_⟩
  . cases hr:V.rf with
    | nil=>have:=e.1;rw[hr]at this;simp[F8]at this;omega
    | cons x r=>
      obtain⟨a,u,J⟩:=(H.front 5 rfl).Ya (j:=0) (v:=.bool x) (by rw[hr];rfl);refine⟨g.sr,c,?_⟩;rw[u];refine⟨⟨by decide,by omega⟩,x,J,g.sr,c,⟨by decide,by omega⟩,?_⟩;have d:=Sat.back 5 ((H.front 5 rfl).Yb (n:=1) (by omega)) (by simp[Fi]);rw[hr]at d;exact BT d rfl (by simp[oZ]) λw' m=>h1 x r hr w' m
  . have:=e.1;have:(F8 V.rf).length=0:=by omega
    simpa[F8]using this
def Yr{o:Nat}{s:AW}{l:List Int}{rest:List Pr}{vs:List Value}(H:Sat (Cells b 0 vs::MH s (ints .u64 l)::rest) w)(ho:vs[o]? =some (FJ s)){K:Int->Bool->World->Prop}
    (h0:l=[]->K 0 false w)
    (h1: ∀x r,l=x::r-> ∀w',Sat (Cells b 0 (vs.set o (FJ ⟨KH s.base s.cap 1 1,s.len-1,s.cap-1⟩))::MH ⟨KH s.base s.cap 1 1,s.len-1,s.cap-1⟩ (ints .u64 r)::rest) w'->K x true w'):
    F.EB E (some ⟨b,o,none⟩) K w:=by
  unfold F.EB;have O:=(H.front 1 rfl).TO;have c:=H.AU ho;simp only[AK];refine⟨s,c,AG (λT=> ?_) λJ=>h0 ?_⟩
  . cases hr:l with
    | nil=>have:=O.1;rw[hr]at this;simp[ints]at this;omega
    | cons x r=>
      obtain⟨a,m,u⟩:=(H.front 1 rfl).Ya (j:=0) (v:=.int .u64 x) (by rw[hr];rfl);refine⟨s,c,?_⟩;rw[m];refine⟨⟨by decide,by omega⟩,x,u,s,c,⟨by decide,by omega⟩,?_⟩;have d:=Sat.Qc 0 (((H.front 1 rfl).Yb (n:=1) (by omega)).perm (.swap _ _ _)) (by simp);rw[hr]at d;exact BT d rfl (List.getElem?_eq_some_iff.1 ho).1 λw' e=>h1 x r hr w' e
  . have:(ints .u64 l).length=0:=by omega
    simpa[ints]using this
def V0(l:Iv)(page AF:Int):Prop:=page %512=0/\page≠0/\page+AF<=34359738368/\cnt l page (page+AF)=0
structure Pt(l:Iv)(frm AF at_:Int):Prop where
  mul:at_ %512=0
  low:512<=at_
  fr:frm<=at_
  free: ∀m,at_<=m->m<at_+AF-> ¬mem l m
  first: ∀a,a %512=0->512<=a->frm<=a->a<at_-> ∃m,a<=m/\m<a+AF/\mem l m
variable(hE:EnvS E)
include hE
theorem V1{g:VG}(H:Sat (Fi E b V g++Rs) w){page AF:Int}(h0:0<=page)(h1:page<18446744073709551616)(p0:0<=AF)(p1:AF<=134217728){K:Bool->World->Prop}
    (a: ∀r w',(r=true↔V0 V.laid page AF)->Ext AN w w'->K r w'):F.D6 E (some ⟨b,0,none⟩) page AF K w:=by
  unfold F.D6 T0.D6;have d:=Ext.refl AN w;have hm:Int.tmod page 512=page %512:=Int.tmod_eq_emod_of_nonneg h0;rw[hm];refine⟨by decide,Cj (λm0=>EO (λz=>AG (λhle=> ?_) λe=> ?_) λz=> ?_) λm0=> ?_⟩
  . rw[AR (n:=34359738368-page)];refine AG (λu=> ?_) λe=> ?_
    . rw[AR (n:=page+AF)];simp only[AK,add_eq,Nat.zero_add];refine UO hE H (o:=3) rfl rfl h0 (by omega) (by omega) λw' m=>a _ w' ?_ m;unfold V0
      grind
    . refine a false w ⟨λh=>(by cases h),λh=> ?_⟩ d;have:=h.2.2.1;omega
  . refine a false w ⟨λh=>(by cases h),λh=> ?_⟩ d;have:=h.2.2.1;omega
  . exact a false w ⟨λh=>(by cases h),λh=>absurd z h.2.1⟩ d
  . exact a false w ⟨λh=>(by cases h),λh=>absurd h.1 m0⟩ d
theorem bY{g:VG}(hI:XH V g)(H:Sat (Fi E b V g++Rs) w){u AF:Int}(h0:0<=u)(h1:u<18446744073709551616)(p0:0<AF)(p1:AF<=134217728){K:Int->Bool->World->Prop}
    (aX:34359738368<u->K 0 false w)
    (aY:u<=34359738368-> ∀at_ r w',Pt V.laid u AF at_->at_<=34359738880->(r=true↔at_+AF<=34359738368)->Ext AN w w'->K at_ r w'):
    F.Db E (some ⟨b,0,none⟩) u AF K w:=by
  unfold F.Db T0.Db;refine AG aX λhle=>⟨by decide,Ac λbC aN=> ?_⟩;have aP: ∀n:Int,0<=n->n<=34359738368->u64 (u64 (Int.tdiv (u64 (u64 (n+512)-1)) 512)*512)=(n+511)/512*512:=by
    intro n h0 h1;rw[AR (n:=n+512),AR (n:=n+512-1),Int.tdiv_eq_ediv_of_nonneg (by omega),AR (n:=(n+512-1)/512),AR];omega
  rw[aP u h0 (by omega),TJ]at aN;simp only[AK,add_eq,Nat.zero_add];have hr:=(H.setAt (o:=3) rfl rfl).row;have hlen:=hr.len;have hsm:=hr.small;have a5:O9=4398046511104:=rfl;refine AV (λst w'=>Ext AN w w'/\Pt V.laid u AF st.1/\st.1<=34359738880) ?_ ?_
  . unfold F.Hi;simp only[AK];refine⟨g.s1,hr.c0,AM (λst w'=> ∃k:Nat,st.2.1=(k:Int)/\k<=V.laid.length/\Ext AN w w'/\st.1 %512=0/\512<=st.1/\u<=st.1/\st.1<=34359738880/\(∀q∈V.laid.take k,q.2<=st.1)/\
      ∀a,a %512=0->512<=a->u<=a->a<st.1-> ∃m,a<=m/\m<a+AF/\mem V.laid m) (λst _=>(V.laid.length-st.2.1).toNat)
      ⟨0,rfl,Nat.zero_le _,Ext.refl _ _,by omega,by omega,by simp only;omega,by omega,by simp,λa h1 h2 h3 h4=>by omega⟩ ?_⟩
    rintro⟨at_,i',v⟩ _ w9 ⟨k,hk,bG,aD,m0,m1,m2,m3,O,d⟩;simp only at hk m0 m1 m2 m3 O d⊢;subst hk;refine AG (λbH=> ?_) λbE=>⟨aD,⟨m0,m1,m2,λm h1 h2 hm=> ?_,d⟩,m3⟩
    . have aJ:k<V.laid.length:=by omega
      obtain⟨q,hq⟩: ∃q,V.laid[k]? =some q:=⟨_,List.getElem?_eq_getElem aJ⟩;obtain⟨g1,g2⟩:=N6 V.laid k q hq;have bJ:=hr.ok.get hq;have bK:=hI.OC (q.2-1) ⟨q,List.mem_of_getElem? hq,by omega,by omega⟩;have aB:=(hr.own.ext aD λb hb f=>f);obtain⟨bb,hb⟩:=aB.Gj (by omega);rw[hb];simp only[AK,add_eq,Nat.zero_add,Int.toNat_natCast,Nat.add_zero];have c1:=aB.cell hb g1;have c2:=aB.cell hb g2;rw[add_eq,Nat.zero_add]at c1 c2;refine⟨⟨by omega,by omega⟩,q.1,c1,q.2,c2,?_⟩;refine AJ (Sat.start w9) λaM bL aV a6=>CN aV (by rfl) (by simp[Value.oneCell']) λaL T=> ?_;have aH:Ext AN w aL:=aD.trans' (T.O4 1 rfl);have ei:i64 ((k:Int)+1)=((k+1:Nat):Int):=by rw[AI];omega
      have aC: ∀x,q.2<=x->(∀p∈V.laid.take k,p.2<=x)-> ∀p∈V.laid.take (k+1),p.2<=x:=by
        intro x h1 h2 p hp;rw[List.take_succ_eq_append_getElem aJ,List.mem_append,List.mem_singleton]at hp;rcases hp with hp|rfl
        . exact h2 p hp
        . have:V.laid[k]=q:=by rw[List.getElem?_eq_getElem aJ]at hq;exact Option.some.inj hq
          grind
      refine⟨q.2,T.AU rfl,AG (λhle=>⟨⟨k+1,ei,by omega,aH,m0,m1,m2,m3,aC _ hle O,d⟩,by omega⟩) λbF=> ?_⟩;have aA: ∀w',Sat [Cells aM E.AD [.int .u64 q.1,.int .u64 q.2],Old w9] w'-> ¬(at_<=q.1/\AF<=q.1-at_)-> ∀(nx:Int->Prop),
          (∀a,(a %512=0/\512<=a/\u<=a/\a<=34359738880/\(∀p∈V.laid.take (k+1),p.2<=a)/\(∀Y,Y %512=0->512<=Y->u<=Y->Y<a-> ∃m,Y<=m/\m<Y+AF/\mem V.laid m))->Ext AN w w'->nx a)->
          ∃aR:Int,w'.cell? ⟨aM,1,none⟩=some (.int .u64 aR)/\512≠(0:Int)/\Is (u64 ((u64 (Int.tdiv (u64 ((u64 (aR+512))-1)) 512))*512):Int) λaI=>nx aI:=by
        intro w' H' bI nx aZ;refine⟨q.2,H'.AU rfl,by decide,Ac λa ha=> ?_⟩;rw[aP q.2 (by omega) (by omega)]at ha;refine aZ a ⟨by omega,by omega,by omega,by omega,aC a (by omega) λp hp=>by have:=O p hp;omega,λY b1 b2 b3 b4=> ?_⟩ (aD.trans' (H'.O4 1 rfl));by_cases e:Y<at_
        . exact d Y b1 b2 b3 e
        . by_cases e2:q.1<=Y
          . exact⟨Y,by omega,by omega,q,List.mem_of_getElem? hq,e2,by omega⟩
          . exact⟨q.1,by omega,by omega,q,List.mem_of_getElem? hq,by omega,by omega⟩
      refine AZ ⟨q.1,T.AU rfl,AG (λa7=>⟨q.1,T.AU rfl,?_⟩) λaO j=>aA aL T (λh=>aO h.1) _ λa h1 h2=> ?_⟩
      . rw[AR (n:=q.1-at_)];refine AG (λa8=>⟨aH,⟨m0,m1,m2,λm h1 h2 hm=> ?_,d⟩,m3⟩) λbA j=>aA aL T (λh=>by omega) _ λa h1 h2=> ?_
        . obtain⟨p,hp,h3,h4⟩:=hm;obtain⟨i,hi⟩:=List.mem_iff_getElem?.1 hp;rcases Nat.lt_trichotomy i k with h|h|h
          . have:=O p (List.mem_of_getElem? (i:=i) (by grind));omega
          . grind
          . have:=hr.ok.lt h hq hi;omega
        . exact⟨⟨k+1,ei,by omega,h2,h1.1,h1.2.1,h1.2.2.1,h1.2.2.2.1,h1.2.2.2.2.1,h1.2.2.2.2.2⟩,by omega⟩
      . exact⟨⟨k+1,ei,by omega,h2,h1.1,h1.2.1,h1.2.2.1,h1.2.2.2.1,h1.2.2.2.2.1,h1.2.2.2.2.2⟩,by omega⟩
    . obtain⟨p,hp,h3,h4⟩:=hm
      grind
  . rintro⟨at_,v⟩ _ w4 ⟨aQ,J,aF⟩;simp only at J aF⊢;refine V1 hE (H.nothing aQ) (by have:=J.low;omega) (by omega) (by omega) p1 λr w' a0 a1=>aY (by omega) at_ r w' J aF ?_ (aQ.trans' a1);rw[a0];have:=J.mul;have:=J.low;constructor
    . intro h;exact h.2.2.1
    . intro h;exact⟨J.mul,by omega,h,(IG hr.ok (by omega)).2 J.free⟩
end
def o5(l:Iv)(hint AF at_:Int):Prop:=hint<=34359738368/\Pt l hint AF at_/\at_+AF<=34359738368
def OG(l:Iv)(hint AF:Int):Prop:=34359738368<hint∨ ∃a,Pt l hint AF a/\ ¬a+AF<=34359738368
def XI(V:VS)(AF:Int):Prop:= ∀p r,V.pl=p::r-> ¬V0 V.laid p AF
def Pu(V:VS)(hint AF at_:Int):Prop:=
 (∃p r,V.pl=p::r/\V0 V.laid p AF/\at_=p)∨(XI V AF/\(o5 V.laid hint AF at_∨(OG V.laid hint AF/\o5 V.laid 0 AF at_)))
def UU(V:VS)(hint AF:Int):Prop:=XI V AF/\OG V.laid hint AF/\OG V.laid 0 AF
def Pt.fits{l:Iv}(h:Ok l){hint AF at_:Int}(p0:0<AF)(hp:Pt l hint AF at_)(a:at_+AF<=34359738368):V0 l at_ AF:=
 ⟨hp.mul,by have:=hp.low;omega,a,(IG h (by omega)).2 hp.free⟩
def Pu.fits{V:VS}(h:Ok V.laid){hint AF at_:Int}(p0:0<AF)(d:Pu V hint AF at_):V0 V.laid at_ AF:=by
 rcases d with ⟨p,r,_,h1,rfl⟩|⟨_,⟨_,h1,a⟩|⟨_,_,h1,a⟩⟩
 .exact h1
 .exact h1.fits h p0 a
 .exact h1.fits h p0 a
section
variable{E:Env}{b:Nat}{V:VS}{Rs:List Pr}{w:World}(hE:EnvS E)
include hE
theorem XJ(H:Sat (Bj E b V::Rs) w){hint AF:Int}(h0:0<=hint)(h1:hint<18446744073709551616)(p0:0<=AF)(p1:AF<18446744073709551616){K:Int->Int->World->Prop}
  (aQ:(AF=0∨AF %512≠0∨134217728<AF)->K 0 1 w)
  (bF: ¬(AF=0∨AF %512≠0∨134217728<AF)-> ∀r,V.rf=true::r-> ∀w',Sat (Bj E b {V with rf:=r}::Rs) w'->K 0 13 w')
  (bG: ¬(AF=0∨AF %512≠0∨134217728<AF)->(∀r,V.rf≠true::r)->UU V hint AF-> ∀w',Sat (Bj E b {V with rf:=V.rf.tail,pl:=V.pl.tail}::Rs) w'->K 0 13 w')
  (bH: ¬(AF=0∨AF %512≠0∨134217728<AF)->(∀r,V.rf≠true::r)-> ∀at_,Pu V hint AF at_-> ∀w',Sat (Bj E b {V with rf:=V.rf.tail,pl:=V.pl.tail,laid:=ES V.laid at_ (at_+AF)}::Rs) w'->K at_ 0 w'):
  F.Dt E (some ⟨b,0,none⟩) hint AF K w:=by
 unfold F.Dt T0.Dt;simp only[Nat.mul_one];rw[Int.tmod_eq_emod_of_nonneg p0];refine AZ (Cj (λe j=>Aa rfl (aQ (.inl e))) λn1=>⟨by decide,EO (λe j=>Aa rfl (aQ (.inr (.inl e)))) λn2 j=>AG (λe=>aQ (.inr (.inr e))) λn3=> ?_⟩);have T: ¬(AF=0∨AF %512≠0∨134217728<AF):=by omega
 obtain⟨g,hI,H⟩:=Sat.OF.1 H;obtain⟨aL,bS,bT⟩:=UT H;simp only[AK,add_eq,Nat.zero_add];have aB:(∀r,V.rf≠true::r)-> ∀(sr:AW) (w7:World),Sat (Fi E b {V with rf:=V.rf.tail} {g with sr:=sr}++Rs) w7->
   F.EB E (some ⟨b,0,none⟩) (λr9 bN aG=>
    Ao (Bool×Unit) (λaZ=>
     CND (bN) (
      F.D6 E (some ⟨b,0,none⟩) r9 AF (λbO aU=>
      aZ (bO,()) aU
      ) aG
     ) (
      aZ (false,()) aG
     )
    ) λIZ _ aC=>
     AL (.cells ⟨[.int .u64 hint,.int .u64 0]⟩ E.AE) aC λO aH=>
     BI (Int×Bool×Int×Unit) (r9,IZ.1,0,()) aH λJF _ m d=>
      CND (decide ((JF.2.2.1:Int)<2)) (
       ((0:Int)<=JF.2.2.1/\(JF.2.2.1:Int)<(2:Nat))/\
       ∃aE:Int,m.cell? (Addr.mk O (Int.toNat JF.2.2.1) none)=some (.int .u64 aE)/\
       CND (!JF.2.1) (
        F.Db E (some ⟨b,0,none⟩) aE AF (λaS aT aI=>
        d (aS,aT,i64 (JF.2.2.1+1),()) aI
        ) m
       ) (
        d (JF.1,JF.2.1,i64 (JF.2.2.1+1),()) m
       )
      ) (
       CND (!JF.2.1) (
        K 0 13 m
       ) (
        F.BJ E (some ⟨b,3,none⟩) JF.1 (u64 (JF.1+AF)) (λaD=>
        K JF.1 0 aD
        ) m
       )
      )) w7:=by
  intro a3 sr w7 H7;have Y: ∀(sp:AW) (pl:List Int) (aM:Int) (aF:Bool) (aC:World),pl=V.pl.tail->(aF=true->Pu V hint AF aM)->(aF=false->XI V AF)->
    Sat (Fi E b {V with rf:=V.rf.tail,pl:=pl} {g with sr:=sr,sp:=sp}++Rs) aC->
    AL (.cells ⟨[.int .u64 hint,.int .u64 0]⟩ E.AE) aC λO aH=>
     BI (Int×Bool×Int×Unit) (aM,aF,0,()) aH λJF _ m d=>
      CND (decide ((JF.2.2.1:Int)<2)) (
       ((0:Int)<=JF.2.2.1/\(JF.2.2.1:Int)<(2:Nat))/\
       ∃aE:Int,m.cell? (Addr.mk O (Int.toNat JF.2.2.1) none)=some (.int .u64 aE)/\
       CND (!JF.2.1) (
        F.Db E (some ⟨b,0,none⟩) aE AF (λaS aT aI=>
        d (aS,aT,i64 (JF.2.2.1+1),()) aI
        ) m
       ) (
        d (JF.1,JF.2.1,i64 (JF.2.2.1+1),()) m
       )
      ) (
       CND (!JF.2.1) (
        K 0 13 m
       ) (
        F.BJ E (some ⟨b,3,none⟩) JF.1 (u64 (JF.1+AF)) (λaD=>
        K JF.1 0 aD
        ) m
       )
      ):=by
   intro sp pl aM aF aC J bD bJ a8;subst J;have aN:XH {V with rf:=V.rf.tail,pl:=V.pl.tail} {g with sr:=sr,sp:=sp}:=⟨hI.wd,hI.pg,hI.fi,hI.rl,hI.el,hI.re,hI.OC,λx hx=>hI.sU x (List.mem_of_mem_tail hx)⟩;refine AJ a8 λO aH a9 _=> ?_;refine AM (λst w'=>0<=st.2.2.1/\st.2.2.1<=2/\Sat (Cells O E.AE [.int .u64 hint,.int .u64 0]::(Fi E b {V with rf:=V.rf.tail,pl:=V.pl.tail} {g with sr:=sr,sp:=sp}++Rs)) w'/\
    (st.2.1=true->Pu V hint AF st.1)/\(st.2.1=false->XI V AF/\(1<=st.2.2.1->OG V.laid hint AF)/\(2<=st.2.2.1->OG V.laid 0 AF))) (λst _=>(2-st.2.2.1).toNat)
    ⟨Int.le_refl _,by grind,a9,bD,λh=>⟨bJ h,λh=>by simp only at h;omega,λh=>by simp only at h;omega⟩⟩ ?_
   rintro⟨at_,ok,k,v⟩ _ m ⟨k0,k1,u,hc,hn⟩;simp only at k0 k1 u hc hn⊢;refine AG (λbX=> ?_) λbW=> ?_
   .rw[AI (n:=k+1)];refine⟨⟨k0,by omega⟩,if k=0 then hint else 0,?_,?_⟩
    .by_cases e:k=0
     .subst e;exact u.AU rfl
     .have:k=1:=by omega
      subst this;exact u.AU rfl
    cases ok with
    | true=>exact AO rfl ⟨⟨by omega,by omega,u,hc,λh=>by cases h⟩,by omega⟩
    | false=>
     obtain⟨n1,n2,n3⟩:=hn rfl;have bK:0<=(if k=0 then hint else 0):=by omega
     have bL:(if k=0 then hint else 0)<18446744073709551616:=by omega
     have a2:OG V.laid (if k=0 then hint else 0) AF->(1<=k+1->OG V.laid hint AF)/\(2<=k+1->OG V.laid 0 AF):=by grind
     refine Aa rfl (bY hE aN u.tail bK bL (by omega) (by omega) (λbE=> ?_) λhle a r aI J bV hr a5=> ?_)
     .exact⟨⟨by omega,by omega,u,λh=>(by cases h),λ_=>⟨n1,a2 (.inl bE)⟩⟩,by omega⟩
     .refine⟨⟨by omega,by omega,u.nothing a5,λh=> ?_,λh=>⟨n1,a2 (.inr ⟨a,J,λh2=> ?_⟩)⟩⟩,by omega⟩
      .have aJ:=hr.1 h;refine .inr ⟨n1,?_⟩;by_cases e:k=0
       .rw[if_pos e]at J hle;exact .inl ⟨hle,J,aJ⟩
       .rw[if_neg e]at J hle;exact .inr ⟨n2 (by omega),hle,J,aJ⟩
      grind
   .have a1:k=2:=by omega
    subst a1;cases ok with
    | false=>
     obtain⟨n1,n2,n3⟩:=hn rfl;exact Aa rfl (bG T a3 ⟨n1,n2 (by decide),n3 (by decide)⟩ m (Sat.OF.2 ⟨_,aN,u.tail⟩))
    | true=>
     have aO:=hc rfl;have aP:=aO.fits aL (by omega);have hmul:=aP.1;have bZ:=aP.2.1;have aK:0<=at_:=by
      rcases aO with ⟨p,r,h1,_,h2⟩|⟨_,⟨_,h1,_⟩|⟨_,_,h1,_⟩⟩
      .rw[h2];exact(hI.sU p (by rw[h1];simp)).1
      .have:=h1.low;omega
      .have:=h1.low;omega
     have bQ:=aP.2.2.1;have bR:O9=4398046511104:=rfl;rw[AR (n:=at_+AF)];refine AO rfl (nV hE u.tail (o:=3) rfl rfl aK (by omega) (by omega) λaD s' bA=>bH T a3 at_ aO aD (Sat.OF.2 ⟨{g with sr:=sr,sp:=sp,s1:=s'},?_,bA⟩));have hm: ∀p,mem (ES V.laid at_ (at_+AF)) p↔mem V.laid p∨(at_<=p/\p<at_+AF):=λp=>GI aL (by omega) aK (by omega) p;refine⟨hI.wd,hI.pg,hI.fi,λp hp=>(hm p).2 (.inl (hI.rl p hp)),λp hp=>(hm p).2 (.inl (hI.el p hp)),hI.re,λp hp=> ?_,aN.sU⟩;rcases(hm p).1 hp with h|h
     .exact hI.OC p h
     .omega
  refine Yr (o:=0) (H7.Bh 3 rfl) rfl (λaA=> ?_) λx r hx aG a7=> ?_
  .refine AZ (AO rfl λj=>Y g.sp V.pl 0 false w7 ?_ (λh=>by cases h) (λ_ p r h=> ?_) H7)
   .grind
   grind
  .have aR:V.pl=x::r:=hx;have aX:Sat (Fi E b {V with rf:=V.rf.tail,pl:=r} {g with sr:=sr,sp:=⟨KH g.sp.base g.sp.cap 1 1,g.sp.len-1,g.sp.cap-1⟩}++Rs) aG:=Sat.Qc 3 a7 (by simp[Fi]);obtain⟨x0,x1⟩:=hI.sU x (by rw[aR];simp);refine AZ (Aa rfl (V1 hE aX x0 x1 (by omega) (by omega) λbB aU a0 a4 j=>Y _ r x bB aU (by rw[aR];rfl) (λh=>.inl ⟨x,r,aR,a0.1 h,rfl⟩) (λh p r' hp hf=> ?_) (aX.nothing a4)))
   grind
 refine Vz H (λaA=>AO rfl (aB (λr h=>by grind) g.sr w ?_)) λx r hx w7 H7=> ?_
 .rw[aA];have:{V with rf:=[]}=V:=by rw[<-aA]
  show Sat (Fi E b {V with rf:=[]} {g with sr:=g.sr}++Rs) w;rw[this];exact H
 .refine AY (λe=>bF T r (by rw[hx,e]) w7 (Sat.OF.2 ⟨{g with sr:=⟨KH g.sr.base g.sr.cap 1 1,g.sr.len-1,g.sr.cap-1⟩},⟨hI.wd,hI.pg,hI.fi,hI.rl,hI.el,hI.re,hI.OC,hI.sU⟩,H7⟩)) λe=>aB (λr' h=> ?_) ⟨KH g.sr.base g.sr.cap 1 1,g.sr.len-1,g.sr.cap-1⟩ w7 ?_
  .grind
  .rw[hx];exact H7
end
def Ys{p:Int×Int}{a b n:Int}:mem (KN p a b) n↔(p.1<=n/\n<p.2)/\a<=n/\n<b:=by
 unfold KN;split
 .constructor
  .intro h;exact absurd h (DL n)
  omega
 .rw[mem_cons];constructor
  .rintro(h|h)
   .omega
   .exact absurd h (DL n)
  omega
def OH{l:Iv}{a b n:Int}:mem (withinL l a b) n↔mem l n/\a<=n/\n<b:=by
 induction l with
 | nil=>exact⟨λh=>absurd h (DL n),λh=>absurd h.1 (DL n)⟩
 | cons p r ih=>
  rw[withinL,mem_append,Ys,ih,mem_cons]
  grind
def UW{l:Iv}(h:Ok l){a b:Int}(e:a<b):Ok (withinL l a b):=by
 induction l with
 | nil=>exact trivial
 | cons p r ih=>
  rw[withinL,Fh];refine⟨?_,ih h.tail,?_⟩
  .unfold KN;split
   .exact trivial
   .have:=h.1;have:=h.2.1;have:=h.2.2.1;exact⟨by omega,by omega,by omega,by simp,trivial⟩
  .intro q v m d;obtain⟨h1,u,J⟩:=Pn h.tail e m d;have hm:mem r m.1:=(OH.1 ⟨m,d,Int.le_refl _,u⟩).1;obtain⟨z,hz,K,O⟩:=hm;have:=h.2.2.2.1 z hz;unfold KN at v
   grind
def V2(l:Iv)(n:Int):Bool:=l.any λq=>decide (q.1<=n/\n<q.2)
def Ig{l:Iv}{n:Int}:V2 l n=true↔mem l n:=by
 unfold V2 mem
 grind
section
variable{E:Env}{b:Nat}{V:VS}{Rs:List Pr}{w:World}
def bZ{page AF:Int}(h0:0<=page)(p0:0<=AF)(p1:AF<18446744073709551616){K:Bool->World->Prop}(a:K (decide (AF≠0/\page+AF<=34359738368)) w):F.My E page AF K w:=by
 unfold F.My;refine EO (λz=>AG (λhle=> ?_) λd=> ?_) λz=> ?_
 .rw[AR (n:=34359738368-page)];rwa[show decide (AF<=34359738368-page)=decide (AF≠0/\page+AF<=34359738368)from decide_eq_decide.2 (by omega)]
 .rwa[show decide (AF≠0/\page+AF<=34359738368)=false from decide_eq_false (by omega)]at a
 .rwa[show decide (AF≠0/\page+AF<=34359738368)=false from decide_eq_false (by omega)]at a
variable(hE:EnvS E)
include hE
theorem V3{t o:Nat}{vs:List Value}{s:AW}{l:Iv}{rest:List Pr}(H:Sat (Cells b t vs::Mb E s l::rest) w)(h0:vs[o]? =some (.slice s.base s.len s.cap))(h1:vs[o+1]? =some (.int .u64 (JZ l)))
  {x y:Int}(m:0<=x)(v:y<18446744073709551616){K:AW->World->Prop}
  (u: ∀s' w',Sat (Row E.AD 2 s' (flat (withinL l x y))::Cells b t vs::Mb E s l::rest) w'->Ext AN w w'->K s' w'):F.Bd E (some ⟨b,o,none⟩) x y K w:=by
 refine Yj hE (H.setAt h0 h1).row m v λs' w' d e=>u s' w' ?_ e;exact H.new (P:=Row E.AD 2 s' (flat (withinL l x y))) (D:=O5 s') e ⟨λ_=>Iff.rfl,d.lower (Nat.zero_le _)⟩ λk J=>by
  obtain⟨a,m,rfl⟩:=J;exact(d.lt m).1
end
section
variable{E:Env}{b:Nat}{V:VS}{Rs:List Pr}{w:World}
end
def LZ(V:VS)(page p:Int):Int:=V.fl.getD (cnt V.rel page p).toNat 0
def Qu(V:VS)(page AF:Int):VS:=
 {V with rf:=V.rf.tail,ready:=ES V.ready page (page+AF),rel:=Dy V.rel page (page+AF),fl:=V.fl.drop (cnt V.rel page (page+AF)).toNat,wd:=λp i=>if page<=p/\p<page+AF/\V2 V.rel p=true then LZ V page p else V.wd p i}
def UX(page AF:Int):Prop:=AF≠0/\page+AF<=34359738368
def Yt{l:Iv}(h:Ok l){a x y:Int}(h1:a<=x)(e:x<=y)(d: ∀n,x<=n->n<y-> ¬mem l n):cnt l a y=cnt l a x:=by
 rw[Oi (Ok.mO h) h1 e,(IG h e).2 d];omega
def Sat.Pv{P:Pr}{w:World}(a:List Pr){T:List Pr}(H:Sat (P::(a++T)) w):Sat (a++P::T) w:=H.perm List.perm_middle.symm
def Sat.Qv{P:Pr}{w:World}(a:List Pr){T:List Pr}(H:Sat (a++P::T) w):Sat (a++T) w:=(H.perm List.perm_middle).tail
def Na(V:VS)(g:VG)(page x p:Int):Option Int:=
 if page<=p/\p<x/\V2 V.rel p=true then(if LZ V page p=0 then none else some (LZ V page p))else g.f p
def Qw{V:VS}{g:VG}{page x y:Int}(d:x<=y)(h: ∀p,x<=p->p<y->mem V.rel p->page<=p->LZ V page p=0/\g.f p=none):Na V g page y=Na V g page x:=by
 funext p;unfold Na;by_cases e:page<=p/\p<x/\V2 V.rel p=true
 .grind
 .rw[if_neg e];by_cases e2:page<=p/\p<y/\V2 V.rel p=true
  .rw[if_pos e2];have a:x<=p:=by
    by_cases e3:x<=p
    .exact e3
    .exact absurd ⟨e2.1,by omega,e2.2.2⟩ e
   obtain⟨h1,m⟩:=h p a e2.2.1 (Ig.1 e2.2.2) e2.1
   grind
  grind
def o6{V:VS}{g:VG}{page p:Int}(hp:page<=p)(hm:mem V.rel p)(q:Int):
  Na V g page (p+1) q=if q=p then(if LZ V page p=0 then none else some (LZ V page p))else Na V g page p q:=by
 unfold Na;by_cases e:q=p
 .subst e;rw[if_pos ⟨hp,by omega,Ig.2 hm⟩,if_pos rfl]
 grind
section
variable{E:Env}{b:Nat}{V:VS}{Rs:List Pr}{w:World}(hE:EnvS E)
include hE
theorem commit_spec(H:Sat (Bj E b V::Rs) w){page AF:Int}(h0:0<=page)(h1:page<18446744073709551616)(p0:0<=AF)(p1:AF<18446744073709551616){K:Int->World->Prop}
  (cM: ¬UX page AF->K 1 w)
  (cN:UX page AF->cnt V.laid page (page+AF)≠AF-> ∀w',Ext AN w w'->K 33 w')
  (aM:UX page AF->cnt V.laid page (page+AF)=AF->cnt V.ready page (page+AF)=AF-> ∀w',Ext AN w w'->K 0 w')
  (cO:UX page AF->cnt V.laid page (page+AF)=AF->cnt V.ready page (page+AF)≠AF-> ∀r,V.rf=true::r-> ∀w',Sat (Bj E b {V with rf:=r}::Rs) w'->K 13 w')
  (cP:UX page AF->cnt V.laid page (page+AF)=AF->cnt V.ready page (page+AF)≠AF->(∀r,V.rf≠true::r)-> ∀w',Sat (Bj E b (Qu V page AF)::Rs) w'->K 0 w'):
  F.CD E (some ⟨b,0,none⟩) page AF K w:=by
 obtain⟨g,hI,H⟩:=Sat.OF.1 H;obtain⟨o7,o8,kF⟩:=UT H;unfold F.CD T0.CD;refine bZ h0 p0 p1 (Lv (AG (λhr=> ?_) λhr=>cM hr));have dO:=hr.1;have dP:=hr.2;simp only[AK,add_eq,Nat.zero_add];rw[AR (n:=page+AF)];refine UO hE H (o:=3) rfl rfl h0 (by omega) (by omega) λw5 a0=> ?_;refine EO (λhl=>cN hr hl w5 a0) λhl=> ?_;refine UO hE ((H.nothing a0).Bh 1 rfl) (o:=5) rfl rfl h0 (by omega) (by omega) λw8 cZ=> ?_;have aT:=a0.trans' cZ;refine Cj (λhd=>aM hr hl hd w8 aT) λhd=> ?_;have H8:=H.nothing aT;have aW: ∀p,page<=p->p<page+AF->mem V.laid p:=(Ja o7 (a:=page) (b:=page+AF) (by omega)).1 (by omega);have aH:(∀r,V.rf≠true::r)-> ∀(sr:AW) (a2:World),Sat (Fi E b {V with rf:=V.rf.tail} {g with sr:=sr}++Rs) a2->
   Ao (Unit) (λbC=>
    F.Bd E (some ⟨b,7,none⟩) page (page+AF) (λa1 a3=>
    BI (Int×Unit) (0,()) a3 λJF _ aB aN=>
     CND (decide ((JF.1:Int)<((a1.len:Nat):Int))) (
      NC a1.base λbR=>
      ((0:Int)<=JF.1/\(JF.1:Int)<(a1.len:Nat))/\
      ∃bD:Int,aB.cell? ((bR.add (Int.toNat JF.1*2)).add 0)=some (.int .u64 bD)/\
      ∃bE:Int,aB.cell? ((bR.add (Int.toNat JF.1*2)).add 1)=some (.int .u64 bE)/\
      AL (.cells #[.int .u64 0,.int .u64 0] E.AD) aB λaA bU=>
      stCells (Addr.mk aA 0 none) 0 [.int .u64 bD,.int .u64 bE] bU λa4=>
      ∃bW:Int,a4.cell? (Addr.mk aA 0 none)=some (.int .u64 bW)/\
      BI (Int×Unit) (bW,()) a4 λKr _ J Y=>
       ∃bX:Int,J.cell? (Addr.mk aA 1 none)=some (.int .u64 bX)/\
       CND (decide ((Kr.1:Int)<bX)) (
        ∃aO:AW,J.cell? (Addr.mk b 2 none)=some (.slice aO.base aO.len aO.cap)/\
        CND ((((aO.len:Nat):Int):Int)==0) (
         bC (()) J
        ) (
         F.EB E (some (Addr.mk b 2 none)) (λbS dR aK=>
         CND ((bS:Int) !=0) (
          ∃bY:(Option Nat),aK.cell? (Addr.mk b 9 none)=some (.map bY)/\
          KB .u64 Kr.1 (.int .u64 bS) bY aK λa5=>
          Y (u64 (Kr.1+1),()) a5
         ) (
          Y (u64 (Kr.1+1),()) aK
         )
         ) J
        )
       ) (
        aN (i64 (JF.1+1),()) J
       )
     ) (
      bC (()) aB
     )
    ) a2
   ) λMt _ bT=>
    F.CB E (some (Addr.mk b 7 none)) page (page+AF) (λbV=>
    F.BJ E (some (Addr.mk b 5 none)) page (page+AF) (λa6=>
    K 0 a6
    ) bV
    ) bT:=by
  intro cW sr a2 b3;have aV: ∀p,mem V.rel p->g.f p=none:=λp hp=>by
   cases hf:g.f p with
   | none=>rfl
   | some v=>exact absurd hp (hI.re p (hI.fi p (by grind)))
  refine AV (λ_ w'=> ∃sf,Sat (Fi E b {V with rf:=V.rf.tail,fl:=V.fl.drop (cnt V.rel page (page+AF)).toNat} {g with sr:=sr,sf:=sf,f:=Na V g page (page+AF)}++Rs) w') ?_ ?_
  .refine V3 hE (b3.Bh 2 rfl) (o:=7) rfl rfl h0 (by omega) λs' a3 a8 _=> ?_;have aC:Sat (Fi E b {V with rf:=V.rf.tail} {g with sr:=sr}++Row E.AD 2 s' (flat (withinL V.rel page (page+AF)))::Rs) a3:=
    Sat.Pv (Fi E b {V with rf:=V.rf.tail} {g with sr:=sr}) (a8.perm (.cons _ (.cons _ (D8 (i:=2) rfl).symm)))
   clear a8;have O:=UW kF (a:=page) (b:=page+AF) (by omega);generalize hm:withinL V.rel page (page+AF)=m at aC O;have aE: ∀n,mem m n↔mem V.rel n/\page<=n/\n<page+AF:=λn=>by rw[<-hm];exact OH
   have bG: ∀q∈m,page<=q.1/\q.1<q.2/\q.2<=page+AF:=by rw[<-hm];exact Pn kF (by omega)
   have cF:=EX V.rel page;have dK: ∀c,V.fl.length<=c->V.fl.getD c 0=0:=λc hc=>by grind
   have aQ: ∀x,page<=x->x<=page+AF->(cnt V.rel page x).toNat<=V.fl.length->((∀n,x<=n->n<page+AF-> ¬mem V.rel n)∨V.fl.drop (cnt V.rel page x).toNat=[])-> ∀sf (T:List Pr) w',
     Sat (Fi E b {V with rf:=V.rf.tail,fl:=V.fl.drop (cnt V.rel page x).toNat} {g with sr:=sr,sf:=sf,f:=Na V g page x}++T) w'->
     Sat (Fi E b {V with rf:=V.rf.tail,fl:=V.fl.drop (cnt V.rel page (page+AF)).toNat} {g with sr:=sr,sf:=sf,f:=Na V g page (page+AF)}++T) w':=by
    intro x aI aJ bF cS sf T w' hS;rcases cS with aF|d
    .have e1:=Yt kF aI aJ aF;have e2:Na V g page (page+AF)=Na V g page x:=Qw aJ λp h1 h2 h3 _=>absurd h3 (aF p h1 h2)
     grind
    .have hlen:V.fl.length<=(cnt V.rel page x).toNat:=List.drop_eq_nil_iff.1 d;have hle: ∀p,x<=p->cnt V.rel page x<=cnt V.rel page p:=λp hp=>by
      rw[Oi (Ok.mO kF) aI hp];have:=EX V.rel x p;omega
     have e1:V.fl.drop (cnt V.rel page (page+AF)).toNat=V.fl.drop (cnt V.rel page x).toNat:=by
      rw[d,List.drop_eq_nil_iff]
      grind
     have e2:Na V g page (page+AF)=Na V g page x:=Qw aJ λp h1 h2 h3 _=>⟨by
      unfold LZ
      grind,aV p h3⟩
     grind
   have aS: ∀{T:List Pr} {sf fl f w'},Sat (Fi E b {V with rf:=V.rf.tail,fl:=fl} {g with sr:=sr,sf:=sf,f:=f}++Row E.AD 2 s' (flat m)::T) w'->I8 w' 0 E.AD 2 s' (flat m):=λh=>(h.front 10 rfl).own;have cX:s'.len=m.length:=by
    have:=(aS (T:=Rs) (sf:=g.sf) (fl:=V.fl) (f:=g.f) aC).len;rw[Ez]at this;omega
   have cQ:m.length<=34359738368:=by
    have: ∀(l:Iv) (B:Int),Ok l->(∀q∈l,B<=q.1/\q.2<=34359738368)->B<=34359738368->(l.length:Int)<=34359738368-B:=by
     intro l
     induction l with
     | nil=>grind
     | cons q r ih=>
      intro B ho hb _;have h1:=hb q List.mem_cons_self;have h2:=ho.2.1;have:=ih q.2 ho.tail (λq' bL=>⟨by have:=ho.2.2.2.1 q' bL;omega,(hb q' (List.mem_cons_of_mem _ bL)).2⟩) h1.2
      grind
    have:=this m 0 O (λq hq=>⟨by grind,by grind⟩) (by decide);omega
   refine AM (λst w'=> ∃(k:Nat) (x:Int) (sf:AW),st.1=(k:Int)/\k<=m.length/\page<=x/\x<=page+AF/\(cnt V.rel page x).toNat<=V.fl.length/\(∀q∈m.take k,q.2<=x)/\(∀q∈m.drop k,x<=q.1)/\
     Sat (Fi E b {V with rf:=V.rf.tail,fl:=V.fl.drop (cnt V.rel page x).toNat} {g with sr:=sr,sf:=sf,f:=Na V g page x}++Row E.AD 2 s' (flat m)::Rs) w') (λst _=>(m.length-st.1).toNat)
    ⟨0,page,g.sf,rfl,Nat.zero_le _,Int.le_refl _,by omega,?_,by simp,λq hq=>(bG q (by simpa using hq)).1,?_⟩ ?_
   .have:cnt V.rel page page=0:=(IG kF (Int.le_refl _)).2 λn h1 h2=>by omega
    omega
   .have e1:cnt V.rel page page=0:=(IG kF (Int.le_refl _)).2 λn h1 h2=>by omega
    have e2:Na V g page page=g.f:=by funext p;unfold Na;grind
    rw[e1,e2];exact aC
   rintro⟨i,v⟩ _ aB ⟨k,x,sf,hk,dM,aI,aJ,bF,cY,cH,aU⟩;simp only at hk⊢;subst hk;refine AG (λbI=> ?_) λcJ=> ?_
   .have aM:k<m.length:=by omega
    obtain⟨q,hq⟩: ∃q,m[k]? =some q:=⟨_,List.getElem?_eq_getElem aM⟩;have bM:=List.mem_of_getElem? hq;obtain⟨g1,g2⟩:=N6 m k q hq;obtain⟨q1,q2,q3⟩:=bG q bM;have aG:=aS aU;obtain⟨bb,hb⟩:=aG.Gj (by omega);have c1:=aG.cell hb g1;have c2:=aG.cell hb g2;rw[add_eq,Nat.zero_add]at c1 c2;rw[hb];simp only[AK,add_eq,Nat.zero_add,Int.toNat_natCast,Nat.add_zero];refine⟨⟨by omega,by omega⟩,q.1,c1,q.2,c2,?_⟩;refine AJ aU λaA bU b5 _=>CN b5 (by rfl) (by simp[Value.oneCell']) λa4 a9=> ?_;refine⟨q.1,a9.AU rfl,?_⟩;have bA:=Sat.Pv (Fi E b {V with rf:=V.rf.tail,fl:=V.fl.drop (cnt V.rel page x).toNat} {g with sr:=sr,sf:=sf,f:=Na V g page x}) a9;have bO:x<=q.1:=cH q (List.mem_of_getElem? (i:=0) (by grind));have aF: ∀n,x<=n->n<q.1-> ¬mem V.rel n:=by
     intro n h1 h2 hn;obtain⟨z,hz,h3,h4⟩:=(aE n).2 ⟨hn,by omega,by omega⟩;obtain⟨j,hj⟩:=List.mem_iff_getElem?.1 hz;rcases Nat.lt_trichotomy j k with e|e|e
     .have:=cY z (List.mem_of_getElem? (i:=j) (by grind));omega
     .grind
     .have:=O.lt e hq hj;omega
    have ec:cnt V.rel page q.1=cnt V.rel page x:=Yt kF aI bO aF;have ef:Na V g page q.1=Na V g page x:=Qw bO λp h1 h2 h3 _=>absurd h3 (aF p h1 h2);refine AM (λst w'=>q.1<=st.1/\st.1<=q.2/\(cnt V.rel page st.1).toNat<=V.fl.length/\ ∃sf,
      Sat (Fi E b {V with rf:=V.rf.tail,fl:=V.fl.drop (cnt V.rel page st.1).toNat} {g with sr:=sr,sf:=sf,f:=Na V g page st.1}++Cells aA E.AD [.int .u64 q.1,.int .u64 q.2]::Row E.AD 2 s' (flat m)::Rs) w')
     (λst _=>(q.2-st.1).toNat) ⟨Int.le_refl _,by omega,by grind,sf,by rw[ec,ef];exact bA⟩ ?_
    rintro⟨p,v⟩ _ J ⟨bJ,cT,aZ,sf,u⟩;simp only at bJ cT aZ u⊢;refine⟨q.2,(u.front 10 rfl).AU rfl,AG (λbI=> ?_) λcJ=> ?_⟩
    .have bK:mem V.rel p:=((aE p).1 ⟨q,bM,bJ,bI⟩).1;have cG:=(Nr kF (a:=page) (k:=p) (by omega)).1 bK;have dB:=cF p;refine⟨sf,u.AU rfl,Cj (λhz=> ?_) λdN=> ?_⟩
     .have d:V.fl.drop (cnt V.rel page p).toNat=[]:=by
       have:(ints .u64 (V.fl.drop (cnt V.rel page p).toNat)).length=sf.len:=(u.front 6 rfl).TO.1;have h0:(ints .u64 (V.fl.drop (cnt V.rel page p).toNat)).length=0:=by omega
       rw[List.drop_eq_nil_iff];simp[ints]at h0;omega
      exact⟨sf,Sat.Qv _ (Sat.Qv _ (aQ p (by omega) (by omega) aZ (.inr d) sf _ J u))⟩
     .refine Yr (o:=2) (u.Bh 5 rfl) rfl (λd=> ?_) λy r hy aK b6=> ?_
      .exfalso;have:=(u.front 6 rfl).TO.1;have aX:V.fl.drop (cnt V.rel page p).toNat=[]:=d;rw[aX]at this;simp[ints]at this;omega
      .have bP:V.fl.drop (cnt V.rel page p).toNat=y::r:=hy;have dA:(cnt V.rel page p).toNat<V.fl.length:=by grind
       have cV:r=V.fl.drop (cnt V.rel page (p+1)).toNat:=by
        rw[cG,show(cnt V.rel page p+1).toNat=(cnt V.rel page p).toNat+1 by omega,<-List.drop_drop,bP];rfl
       have cI:LZ V page p=y:=by
        unfold LZ;rw[List.getD_eq_getElem?_getD,<-Nat.add_zero (cnt V.rel page p).toNat,<-List.getElem?_drop,bP];rfl
       have bB:Sat (Fi E b {V with rf:=V.rf.tail,fl:=V.fl.drop (cnt V.rel page (p+1)).toNat} {g with sr:=sr,sf:=⟨KH sf.base sf.cap 1 1,sf.len-1,sf.cap-1⟩,f:=Na V g page p}++Cells aA E.AD [.int .u64 q.1,.int .u64 q.2]::Row E.AD 2 s' (flat m)::Rs) aK:=by
        rw[<-cV];exact Sat.Qc 5 b6 (by simp[Fi])
       rw[AR (n:=p+1)];refine EO (λbQ=> ?_) λbQ=> ?_
       .refine⟨some g.fb,bB.AU rfl,E8 (bB.front 7 rfl) λa5 b7=> ?_⟩;refine⟨⟨by omega,by omega,by omega,⟨KH sf.base sf.cap 1 1,sf.len-1,sf.cap-1⟩,?_⟩,by omega⟩;have b8:=Sat.back 7 b7 (by simp[Fi]);have:PR {g with f:=Na V g page (p+1)}=λi=>if i=p then some (.int .u64 y)else PR {g with f:=Na V g page p} i:=by
         funext i;show(Na V g page (p+1) i).map _=if i=p then _ else(Na V g page p i).map _
         rw[o6 (by omega) bK i,cI,if_neg bQ]
         grind
        show Sat (Fi E b _ {g with sr:=sr,sf:=_,f:=Na V g page (p+1)}++_) a5;unfold Fi;have e:PR {g with sr:=sr,sf:=⟨KH sf.base sf.cap 1 1,sf.len-1,sf.cap-1⟩,f:=Na V g page (p+1)}=PR {g with f:=Na V g page (p+1)}:=rfl;rw[e,this];exact b8
       .refine⟨⟨by omega,by omega,by omega,⟨KH sf.base sf.cap 1 1,sf.len-1,sf.cap-1⟩,?_⟩,by omega⟩;have:Na V g page (p+1)=Na V g page p:=Qw (by omega) λp' h1 h2 h3 _=>by grind
        grind
    .have cU:p=q.2:=by omega
     subst cU;have ei:i64 ((k:Int)+1)=((k+1:Nat):Int):=by rw[AI];omega
     refine⟨⟨k+1,q.2,sf,ei,by omega,by omega,by omega,aZ,λz hz=> ?_,λz hz=> ?_,Sat.Qv _ u⟩,by omega⟩
     .rw[List.take_succ_eq_append_getElem aM,List.mem_append,List.mem_singleton]at hz
      grind
     .obtain⟨j,hj⟩:=List.mem_iff_getElem?.1 hz;rw[List.getElem?_drop]at hj;have:=O.lt (i:=k) (j:=k+1+j) (by omega) hq hj;omega
   .have dL:k=m.length:=by omega
    refine⟨sf,Sat.Qv _ (aQ x aI aJ bF (.inl λn h1 h2 hn=> ?_) sf _ aB aU)⟩;obtain⟨z,hz,h3,h4⟩:=(aE n).2 ⟨hn,by omega,h2⟩
    grind
  .rintro _ _ bT ⟨sf,b4⟩;have c9:O9=4398046511104:=rfl;refine zR hE (b4.Bh 2 rfl) (o:=7) rfl rfl h0 (by omega) (by omega) λbV c5 b9=> ?_;have cA:=Sat.Qc 2 b9 (by simp[Fi]);refine nV hE (cA.Bh 1 rfl) (o:=5) rfl rfl h0 (by omega) (by omega) λa6 c4 cB=> ?_;have cC:=Sat.Qc 1 cB (by simp[Fi]);refine cP hr hl hd cW a6 (Sat.OF.2 ⟨{g with sr:=sr,sf:=sf,s2:=c4,s3:=c5,f:=Na V g page (page+AF)},?_,cC⟩);have ma: ∀p,mem (ES V.ready page (page+AF)) p↔mem V.ready p∨(page<=p/\p<page+AF):=λp=>GI o8 (by omega) h0 (by omega) p;have mc: ∀p,mem (Dy V.rel page (page+AF)) p↔mem V.rel p/\ ¬(page<=p/\p<page+AF):=λp=>Ha (by omega);refine⟨λp i cK cL=> ?_,λp hp=>(ma p).2 (.inl (hI.pg p hp)),λp hp=> ?_,λp hp=> ?_,λp hp=>hI.el p ((mc p).1 hp).1,λp hp hq=> ?_,hI.OC,hI.sU⟩
   .show(if page<=p/\p<page+AF/\V2 V.rel p=true then LZ V page p else V.wd p i)=match g.G p with|some x=>x.2 i|none=>(Na V g page (page+AF) p).getD 0
    by_cases e:page<=p/\p<page+AF/\V2 V.rel p=true
    .rw[if_pos e];have bN:=Ig.1 e.2.2;have:g.G p=none:=by
      cases hG:g.G p with
      | none=>rfl
      | some x=>exact absurd bN (hI.re p (hI.pg p (by grind)))
     rw[this];unfold Na
     grind
    .rw[if_neg e,hI.wd p i cK cL];unfold wordOf Na
     grind
   .have aY:Na V g page (page+AF) p≠none:=hp;unfold Na at aY;by_cases e:page<=p/\p<page+AF/\V2 V.rel p=true
    .exact(ma p).2 (.inr ⟨e.1,e.2.1⟩)
    .rw[if_neg e]at aY;exact(ma p).2 (.inl (hI.fi p aY))
   .rcases(ma p).1 hp with h|h
    .exact hI.rl p h
    .exact aW p h.1 h.2
   .rcases(ma p).1 hp with h|h
    .exact hI.re p h ((mc p).1 hq).1
    .exact((mc p).1 hq).2 h
 refine Vz H8 (λd=>AO rfl (aH (λr h=>by grind) g.sr w8 ?_)) λx r hx w7 H7=> ?_
 .have:{V with rf:=V.rf.tail}=V:=by
   have:V.rf.tail=V.rf:=by grind
   rw[this]
  show Sat (Fi E b {V with rf:=V.rf.tail} {g with sr:=g.sr}++Rs) w8;rw[this];exact H8
 .refine AY (λe=>cO hr hl hd r (by rw[hx,e]) w7 (Sat.OF.2 ⟨{g with sr:=⟨KH g.sr.base g.sr.cap 1 1,g.sr.len-1,g.sr.cap-1⟩},⟨hI.wd,hI.pg,hI.fi,hI.rl,hI.el,hI.re,hI.OC,hI.sU⟩,H7⟩)) λe=>aH (λr' h=> ?_) ⟨KH g.sr.base g.sr.cap 1 1,g.sr.len-1,g.sr.cap-1⟩ w7 ?_
  .grind
  .rw[hx];exact H7
end
def vC(n:Nat)(v:Value):Array.replicate n v=⟨List.replicate n v⟩:=by apply Array.ext';simp
section
variable{n:Nat}{G:Pgs}{Rs:List Pr}{p:Int}
end
def UY(V:VS)(addr:Int):Int×Int:=if addr %8≠0 then(0,11)else if V2 V.ready (addr/8192)=true then(V.wd (addr/8192) (addr %8192/8),0)else(0,12)
def La(V:VS)(addr:Int):Int:=if addr %8≠0 then 11 else if V2 V.ready (addr/8192)=true then 0 else 12
def EC(V:VS)(addr x:Int):VS:=if La V addr=0 then{V with wd:=λp i=>if p=addr/8192/\i=addr %8192/8 then x else V.wd p i}else V
section
variable{E:Env}{b:Nat}{V:VS}{Rs:List Pr}{w:World}
def Kz{b1 t:Nat}{c z:Int}{K:World->Prop}(H:Sat (Cells b1 t [.int .i64 z]::Rs) w)(T: ∀w',Sat (Cells b1 t [.int .i64 c]::Rs) w'->K w'):
  F.Dp E (some ⟨b1,0,none⟩) (.iface E.Eh (.agg ⟨[.int .i64 c]⟩)) K w:=by
 unfold F.Dp;refine⟨rfl,AO rfl ?_⟩;unfold TAS;simp only[Nat.beq_refl];show CND true (AL (Obj.cells #[Value.int .i64 0] E.Eh) w λa u=>stCells (Addr.mk a 0 none) 0 [.int .i64 c] u λd=> ∃v:Int,d.cell? (Addr.mk a 0 none)=some (.int .i64 v)/\NC (some (Addr.mk b1 0 none)) λY=>stCells Y 0 [.int .i64 v] d λe=>K e) (PAN (.iface E.Eh (.agg ⟨[.int .i64 c]⟩)) False);refine Aa rfl (AJ H λa u J _=>CN J (by rfl) (by simp[Value.oneCell']) λd m=>⟨c,m.AU rfl,?_⟩);exact BT m.tail rfl (by simp) λe O=>T e O
def UZ{a:Option Addr}{K:World->Prop}(d:K w):F.Dp E a .nilIface K w:=by
 unfold F.Dp;exact⟨rfl,Aa rfl d⟩
variable(hE:EnvS E)
include hE
theorem Yu{g:VG}(H:Sat (Fi E b V g++Rs) w){addr:Int}(h0:0<=addr)(h1:addr<18446744073709551616){K:Int->Int->World->Prop}{Kp:Value->World->Prop}
  (e:addr %8≠0->Kp (.iface E.Eh (.agg ⟨[.int .i64 11]⟩)) w)
  (m:addr %8=0-> ¬mem V.ready (addr/8192)-> ∀w',Ext AN w w'->Kp (.iface E.Eh (.agg ⟨[.int .i64 12]⟩)) w')
  (u:addr %8=0->mem V.ready (addr/8192)-> ∀w',Ext AN w w'->K (addr/8192) (addr %8192/8) w'):
  F.Dn E (some ⟨b,0,none⟩) addr K Kp w:=by
 unfold F.Dn T0.Dn;simp only[AK,add_eq,Nat.zero_add];rw[Int.tmod_eq_emod_of_nonneg h0,Int.tmod_eq_emod_of_nonneg h0,Int.tdiv_eq_ediv_of_nonneg h0,Int.tdiv_eq_ediv_of_nonneg (by omega),AR (n:=addr/8192)];refine⟨by decide,by decide,EO (λh=>e h) λh=> ?_⟩;refine zQ hE (H.Bh 1 rfl) (o:=5) rfl rfl (by omega) λO r v a=>Lv (AY (λd=>⟨by decide,by decide,Ac λt J=> ?_⟩) λd=>m h (λhm=> ?_) O a)
 .rw[AR]at J;rw[J];exact u h (v.1 d) O a
 .rw[v.2 hm]at d;cases d
theorem kG(H:Sat (Bj E b V::Rs) w){addr:Int}(h0:0<=addr)(h1:addr<18446744073709551616){K:Int->Int->World->Prop}
  (hK: ∀w',Sat (Bj E b V::Rs) w'->K (UY V addr).1 (UY V addr).2 w'):F.DX E (some ⟨b,0,none⟩) addr K w:=by
 obtain⟨g,hI,H⟩:=Sat.OF.1 H;unfold F.DX T0.DX;refine AJ H λb1 w2 H2 _=> ?_;have a: ∀(c:Int) (w':World),Sat (Cells b1 E.BB [.int .i64 c]::(Fi E b V g++Rs)) w'->Sat (Bj E b V::Rs) w':=λc w' h=>Sat.OF.2 ⟨g,hI,h.tail⟩;refine Yu hE H2.tail h0 h1 (λh=> ?_) (λh hm w5 u=> ?_) λh hm w5 u=> ?_
 .refine Kz H2 λw' O=>⟨11,O.AU rfl,?_⟩;have:=hK w' (a 11 w' O);unfold UY at this;rwa[if_pos h]at this
 .refine Kz (H2.nothing u) λw' O=>⟨12,O.AU rfl,?_⟩;have:=hK w' (a 12 w' O);unfold UY at this;rwa[if_neg (by omega),if_neg (λe=>hm (Ig.1 e))]at this
 .have J:=H2.nothing u;have Y:0<=addr %8192/8:=by omega
  have aE:addr %8192/8<1024:=by omega
  have hl:UY V addr=(wordOf g (addr/8192) (addr %8192/8),0):=by unfold UY;rw[if_neg (by omega),if_pos (Ig.2 hm),hI.wd _ _ Y aE]
  have m: ∀v,v=wordOf g (addr/8192) (addr %8192/8)->stCells (Addr.mk b1 0 none) 0 [.int .i64 0] w5 (λd=>F.Dp E (some (Addr.mk b1 0 none)) .nilIface (λaA=> ∃aB:Int,aA.cell? (Addr.mk b1 0 none)=some (.int .i64 aB)/\K v aB aA) d):=by
   intro v hv;refine BT J rfl (by simp) λd T=>UZ ⟨0,T.AU rfl,?_⟩;have:=hK d (a 0 d T);rw[hl]at this;rw[hv];exact this
  simp only[AK,add_eq,Nat.zero_add,Nat.mul_one];refine⟨some g.pb,J.tail.AU rfl,MG (J.front 9 rfl) λ_ _=> ?_⟩;cases hG:g.G (addr/8192)with
  | some x=>
   refine⟨some ⟨x.1,0,none⟩,by simp[OE,hG],Aa rfl ?_⟩;simp only[AK,add_eq,Nat.zero_add];refine⟨⟨Y,by omega⟩,x.2 ((addr %8192/8).toNat:Nat),(J.front 10 rfl).yT hG (by omega),?_⟩;refine m _ ?_;unfold wordOf;rw[hG,show(((addr %8192/8).toNat:Nat):Int)=addr %8192/8 by omega]
  | none=>
   refine⟨none,by simp[OE,hG],AO rfl ⟨some g.fb,J.tail.AU rfl,MG (J.front 8 rfl) λ_ _=>⟨(g.f (addr/8192)).getD 0,?_,m _ ?_⟩⟩⟩
   .unfold PR;cases g.f (addr/8192)<;>rfl
   .unfold wordOf;rw[hG]
theorem Yv{g:VG}(hI:XH V g)(H:Sat (Fi E b V g++Rs) w){p:Int}(hp:mem V.ready p){K:Option Addr->World->Prop}
  (hK: ∀(g':VG) x w',XH V g'->Sat (Fi E b V g'++Rs) w'->g'.G p=some x->K (some ⟨x.1,0,none⟩) w'):F.Dg E (some ⟨b,0,none⟩) p K w:=by
 unfold F.Dg;simp only[AK,add_eq,Nat.zero_add,Nat.mul_one];refine⟨some g.pb,H.AU rfl,MG (H.front 8 rfl) λ_ _=> ?_⟩;cases hG:g.G p with
 | some x=>exact⟨some ⟨x.1,0,none⟩,by simp[OE,hG],AO rfl (hK g x w hI H hG)⟩
 | none=>
  refine⟨none,by simp[OE,hG],Aa rfl ?_⟩
  let v:Int:=(g.f p).getD 0
  rw[vC];refine AJ H λd w8 H8 _=> ?_;have O: ∀(i j:Nat),j<1024->(List.replicate i (Value.int .u64 v)++List.replicate (1024-i) (Value.int .u64 0))[j]? =some (.int .u64 (if j<i then v else 0)):=by
   intro i j hj;rw[List.getElem?_append];simp only[List.length_replicate];split
   .rw[List.getElem?_replicate,if_pos (by assumption)]
   .rw[List.getElem?_replicate,if_pos (by omega)]
  refine AM (λst w'=> ∃i:Nat,st.1=(i:Int)/\i<=1024/\Sat (Cells d E.LP (List.replicate i (.int .u64 v)++List.replicate (1024-i) (.int .u64 0))::(Fi E b V g++Rs)) w') (λst _=>(1024-st.1).toNat)
   ⟨0,rfl,Nat.zero_le _,by simpa using H8⟩ ?_
  rintro⟨i',u⟩ _ aS ⟨i,hi,aQ,a⟩;simp only at hi⊢;subst hi;refine AG (λaR=> ?_) λaP=> ?_
  .have Hd:=a.drew;refine⟨some g.fb,Hd.tail.AU rfl,MG (Hd.front 8 rfl) λ_ _=>⟨v,?_,⟨⟨by omega,by omega⟩,?_⟩⟩⟩
   .unfold PR;show((g.f p).map _).getD _=Value.int .u64 ((g.f p).getD 0);cases g.f p<;>rfl
   .simp only[Int.toNat_natCast];refine BT Hd rfl (by simp;omega) λaT m=> ?_;have ei:i64 ((i:Int)+1)=((i+1:Nat):Int):=by rw[AI];omega
    refine⟨⟨i+1,ei,by omega,?_⟩,by simp only[ei];omega⟩;have:(List.replicate i (Value.int .u64 v)++List.replicate (1024-i) (Value.int .u64 0)).set i (.int .u64 v)=List.replicate (i+1) (.int .u64 v)++List.replicate (1024-(i+1)) (.int .u64 0):=by
     rw[List.set_append_right _ _ (by simp)];simp only[List.length_replicate,Nat.sub_self];rw[show 1024-i=(1024-(i+1))+1 by omega,List.replicate_succ,List.set_cons_zero,List.replicate_succ' (n:=i),List.append_assoc];rfl
    rw[this]at m;exact m
  .have aG:i=1024:=by omega
   subst aG;refine⟨some g.pb,a.tail.AU rfl,E8 (a.front 9 rfl) λaU T=> ?_⟩;have J:=Sat.back 9 T (by simp[Fi]);refine⟨some g.fb,J.tail.AU rfl,Qe (J.front 8 rfl) λaJ Y=> ?_⟩;have aA:=Sat.back 8 Y (by simp[Fi]);have aB:=aA.Bh 9 rfl;have aC:=aB.pgNew (p:=p) (ws:=λ_=>v) hG λj hj=>by rw[O 1024 j hj,if_pos hj]
   have aF:XH V {g with G:=λq=>if q=p then some (d,λ_=>v)else g.G q,f:=λq=>if q=p then none else g.f q}:=by
    refine⟨λq i h0 h1=> ?_,λq hq=> ?_,λq hq=> ?_,hI.rl,hI.el,hI.re,hI.OC,hI.sU⟩
    .rw[hI.wd q i h0 h1];unfold wordOf;by_cases e:q=p
     .subst e;simp only[if_true];rw[hG]
     .simp only[if_neg e]
    .by_cases e:q=p
     .rw[e];exact hp
     .exact hI.pg q (by simpa[e]using hq)
    .by_cases e:q=p
     .rw[e];exact hp
     .exact hI.fi q (by simpa[e]using hq)
   refine hK _ (d,λ_=>v) aJ aF ?_ (by simp);have e1:OE {g with G:=λq=>if q=p then some (d,λ_=>v)else g.G q,f:=λq=>if q=p then none else g.f q}=λi=>if i=p then some (.pointer (some ⟨d,0,none⟩))else OE g i:=by
    funext q;unfold OE;by_cases e:q=p<;>simp[e]
   have e2:PR {g with G:=λq=>if q=p then some (d,λ_=>v)else g.G q,f:=λq=>if q=p then none else g.f q}=λi=>if i=p then none else PR g i:=by
    funext q;unfold PR;by_cases e:q=p<;>simp[e]
   unfold Fi;rw[e1,e2];exact Sat.back 9 aC (by simp[Fi])
end
def Lo(pl:List Int)(rf:List Bool)(fl:List Int):VS:=⟨[],[],[],λ_ _=>0,pl,rf,fl⟩
section
variable{E:Env}{b:Nat}{V:VS}{Rs:List Pr}{w:World}
variable(hE:EnvS E)
include hE
theorem kH{g:VG}(hI:XH V g){p:Int}{x:Nat×(Int->Int)}(hp:g.G p=some x){f:Int->Int}{V':VS}(d:V'={V with wd:=V'.wd})
  (a: ∀q i,0<=i->i<1024->V'.wd q i=if q=p then f i else V.wd q i):XH V' {g with G:=λq=>if q=p then some (x.1,f)else g.G q}:=by
 rw[d];refine⟨λq i h0 h1=> ?_,λq m=> ?_,hI.fi,hI.rl,hI.el,hI.re,hI.OC,hI.sU⟩
 .show V'.wd q i=_;rw[a q i h0 h1];unfold wordOf;by_cases e:q=p
  .simp only[if_pos e]
  .simp only[if_neg e];rw[hI.wd q i h0 h1];try rfl
 .by_cases e:q=p
  .exact hI.pg q (by rw[e,hp];exact λh=>by cases h)
  .exact hI.pg q (by simpa[e]using m)
theorem o9{g:VG}{p:Int}{x:Nat×(Int->Int)}(hp:g.G p=some x)(f:Int->Int):OE {g with G:=λq=>if q=p then some (x.1,f)else g.G q}=OE g:=by
 funext q;unfold OE;by_cases e:q=p
 .simp[e,hp]
 .simp[e]
theorem cA(H:Sat (Bj E b V::Rs) w){addr x:Int}(h0:0<=addr)(h1:addr<18446744073709551616){K:Int->World->Prop}
  (hK: ∀w',Sat (Bj E b (EC V addr x)::Rs) w'->K (La V addr) w'):F.Cy E (some ⟨b,0,none⟩) addr x K w:=by
 obtain⟨g,hI,H⟩:=Sat.OF.1 H;unfold F.Cy T0.Cy;refine AJ H λb1 w2 T _=> ?_;have d: ∀(c:Int) (w':World),La V addr=c->c≠0->Sat (Cells b1 E.BB [.int .i64 c]::(Fi E b V g++Rs)) w'->K c w':=λc w' hc aB h=>by
  have:=hK w' (by unfold EC;rw[if_neg (by rw[hc];exact aB)];exact Sat.OF.2 ⟨g,hI,h.tail⟩);rwa[hc]at this
 refine Yu hE T.tail h0 h1 (λh=> ?_) (λh hm w5 m=> ?_) λh hm w5 m=> ?_
 .exact Kz T λw' u=>⟨11,u.AU rfl,d 11 w' (by unfold La;rw[if_pos h]) (by decide) u⟩
 .exact Kz (T.nothing m) λw' u=>⟨12,u.AU rfl,d 12 w' (by unfold La;rw[if_neg (by omega),if_neg (λe=>hm (Ig.1 e))]) (by decide) u⟩
 .have aA:0<=addr %8192/8:=by omega
  have aJ:addr %8192/8<1024:=by omega
  have a:La V addr=0:=by unfold La;rw[if_neg (by omega),if_pos (Ig.2 hm)]
  have H5:=Sat.Pv (Fi E b V g) (T.nothing m);refine Yv hE hI H5 hm λg' z w7 O H7 hz=> ?_;simp only[AK,add_eq,Nat.zero_add,Nat.mul_one];refine⟨⟨aA,by omega⟩,tE (H7.front 9 rfl) hz (by omega) λw9 H9=> ?_⟩;have v:=Sat.back 9 H9 (by simp[Fi]);rw[show(((addr %8192/8).toNat:Nat):Int)=addr %8192/8 by omega]at v;have Y:Sat (Fi E b (EC V addr x) {g' with G:=λq=>if q=addr/8192 then some (z.1,λi=>if i=addr %8192/8 then x else z.2 i)else g'.G q}++Cells b1 E.BB [.int .i64 0]::Rs) w9:=by
   unfold EC;rw[if_pos a];unfold Fi;rw[o9 hE hz];exact v
  refine BT (Y.front 10 rfl) rfl (by simp) λaC J=>UZ ⟨0,J.AU rfl,?_⟩;have:=hK aC (Sat.OF.2 ⟨_,?_,J.tail⟩)
  .rwa[a]at this
  .refine kH hE O hz (by unfold EC;rw[if_pos a]) λq i g0 g1=> ?_;unfold EC;rw[if_pos a];show(if q=addr/8192/\i=addr %8192/8 then x else V.wd q i)=_;by_cases e:q=addr/8192
   .subst e;rw[if_pos rfl];by_cases e2:i=addr %8192/8
    .rw[if_pos ⟨rfl,e2⟩,if_pos e2]
    .rw[if_neg (λh=>e2 h.2),if_neg e2,O.wd _ i g0 g1];unfold wordOf;rw[hz]
   .rw[if_neg (λh=>e h.1),if_neg e]
end
section
variable{E:Env}{Ps Rs:List Pr}{w:World}
def SV(i:Nat){K:Nat->World->Prop}(H:Sat Ps w)(hi:Ps[i]? =some YZ)(d: ∀b w',Sat (Ps.set i (CH b .u64 λ_=>none)) w'->K b w'):AL (.map #[] 0) w K:=
 Nv (H.front i hi).tail .u64 λb w' a _=>d b w' (Sat.back i a (List.getElem?_eq_some_iff.1 hi).1)
def Yw{t:Nat}{zs:Array Value}{bytes:Nat}{a:AW}{vs:List Value}{K:AW->World->Prop}(H:Sat Rs w)(hz:zs.size=1)(d: ∀w',Sat Rs w'->rowAt w' a.base a.len vs)(hl:vs.length=a.len)(hlen:a.len<=1099511627776)(O:bytes<=8)
  (ho: ∀v∈vs,v.oneCell'=true)(u: ∀s' w',Sat (MH s' vs::Rs) w'->K s' w'):
  CND (a.base.isNone) (K ⟨none,0,0⟩ w) (AL (.cells ⟨[]⟩ t) w λb1 m=>APP t 1 bytes zs ⟨(some (Addr.mk b1 0 none)),0,0⟩ a m λs3 w4=>K s3 w4):=by
 refine AY (λe=> ?_) λe=> ?_
 .have hb:a.base=none:=by simpa using e
  have:=d w H;rw[hb]at this;have hv:vs=[]:=this;rw[hv]at u;exact u _ w H.tD
 .refine A8 λm J aD T=> ?_;have Y:Sat (Row t 1 ⟨some ⟨w.heap.size,0,none⟩,0,0⟩ []::Rs) m:=H.new (P:=Row t 1 ⟨some ⟨w.heap.size,0,none⟩,0,0⟩ []) (D:=O5 ⟨some ⟨w.heap.size,0,none⟩,0,0⟩) T
   ⟨λ_=>Iff.rfl,Wm J rfl (Nat.zero_le _) (by decide)⟩ λk hk=>by obtain⟨x,hx,rfl⟩:=hk;grind
  have hm:(0+a.len)*bytes<=1099511627776*8:=Nat.mul_le_mul (by omega) O;refine Om Y hz (by simpa using d m Y.tail) (by omega) ho (by grind) (by grind) λs' w' H' _=>u s' w' ?_;exact Sat.rowV H'
def V4(i:Nat){a:AW}{l:List Int}{K:AW->World->Prop}(H:Sat Ps w)(hi:Ps[i]? =some YZ)(d: ∀w',Sat (Ps.eraseIdx i) w'->rowAt w' a.base a.len (ints .u64 l))(J:l.length=a.len)(hlen:a.len<=1099511627776)
  (u: ∀s' w',Sat (Ps.set i (MH s' (ints .u64 l))) w'->K s' w'):F.As E a K w:=by
 unfold F.As;exact Yw (H.front i hi).tail rfl d (by simpa[ints]using J) hlen (Nat.le_refl _) (by intro v e;simp[ints]at e;obtain⟨x,_,rfl⟩:=e;rfl) λs' w' m=>u s' w' (Sat.back i m (List.getElem?_eq_some_iff.1 hi).1)
def cB(i:Nat){a:AW}{l:List Bool}{K:AW->World->Prop}(H:Sat Ps w)(hi:Ps[i]? =some YZ)(d: ∀w',Sat (Ps.eraseIdx i) w'->rowAt w' a.base a.len (F8 l))(J:l.length=a.len)(hlen:a.len<=1099511627776)
  (u: ∀s' w',Sat (Ps.set i (MH s' (F8 l))) w'->K s' w'):F.CM E a K w:=by
 unfold F.CM;exact Yw (H.front i hi).tail rfl d (by simpa[F8]using J) hlen (by decide) (by intro v e;simp[F8]at e;rcases e with ⟨_,rfl⟩|⟨_,rfl⟩<;>rfl) λs' w' m=>u s' w' (Sat.back i m (List.getElem?_eq_some_iff.1 hi).1)
def gL{b t1 b1 t2 m1 a:Nat}{r1 d e:AW}{vs:List Value}{pl:List Int}{rf:List Bool}{fl:List Int}(m: ∀x∈pl,0<=x/\x<18446744073709551616)
  (H:Sat (Cells b t1 [FJ r1,FJ d,FJ e,.slice none 0 0,.int .u64 0,.slice none 0 0,.int .u64 0,.slice none 0 0,.int .u64 0,.map (some m1),.map (some a)]::Cells b1 t2 vs::
   MH r1 (ints .u64 pl)::MH d (F8 rf)::MH e (ints .u64 fl)::CH m1 .u64 (λ_=>none)::CH a .u64 (λ_=>none)::Rs) w):Sat (Bj E b (Lo pl rf fl)::Rs) w:=by
 have H1:=(H.perm (.swap _ _ _)).tail;have u:=(Sat.Pv [Cells b t1 _,MH r1 _,MH d _,MH e _,CH m1 _ _,CH a _ _] (H1.pgNil 1024));have v:=((u.a7 (E:=E)).perm (.swap _ _ _));have J:=((v.a7 (E:=E)).perm (.swap _ _ _));have K:=((J.a7 (E:=E)).perm (.swap _ _ _));exact Sat.OF.2 ⟨⟨r1,d,e,⟨none,0,0⟩,⟨none,0,0⟩,⟨none,0,0⟩,m1,a,λ_=>none,λ_=>none⟩,
  ⟨λ_ _ _ _=>rfl,λ_ h=>absurd rfl h,λ_ h=>absurd rfl h,λ_ h=>h,λ_ h=>h,λp h=>absurd h (DL p),λp h=>absurd h (DL p),m⟩,K⟩
def kI(H:Sat Rs w){a0 a1 a2:AW}{pl:List Int}{rf:List Bool}{fl:List Int}(e: ∀x∈pl,0<=x/\x<18446744073709551616)
  (h0: ∀w',Sat Rs w'->rowAt w' a0.base a0.len (ints .u64 pl))(l0:pl.length=a0.len)(k0:a0.len<=1099511627776)
  (h1: ∀w',Sat Rs w'->rowAt w' a1.base a1.len (F8 rf))(l1:rf.length=a1.len)(k1:a1.len<=1099511627776)
  (h2: ∀w',Sat Rs w'->rowAt w' a2.base a2.len (ints .u64 fl))(l2:fl.length=a2.len)(k2:a2.len<=1099511627776)
  {K:Option Addr->World->Prop}(J: ∀b w',Sat (Bj E b (Lo pl rf fl)::Rs) w'->K (some ⟨b,0,none⟩) w'):F.KU E a0 a1 a2 K w:=by
 unfold F.KU T0.KU;refine AJ H.emp.emp.emp.emp.emp λb1 w2 v _=> ?_;have m:=v.drew;clear v;have t5: ∀{P0 O T Y P4:Pr} {w'},Sat (P0::O::T::Y::P4::Rs) w'->Sat Rs w':=λh=>h.tail.tail.tail.tail.tail;refine⟨a0,m.AU rfl,a1,m.cell rfl,a2,m.cell rfl,?_⟩
 repeat' first
  | (exact Sat.cell (by assumption) (by rfl))
  | (exact Sat.AU (by assumption) (by rfl))
  | (refine V4 1 (a:=a0) (l:=pl) (by assumption) (by rfl) (by intro w' h;exact h0 w' (t5 h)) l0 k0 λs' w' d=> ?_)
  | (refine cB 2 (a:=a1) (l:=rf) (by assumption) (by rfl) (by intro w' h;exact h1 w' (t5 h)) l1 k1 λs' w' d=> ?_)
  | (refine V4 3 (a:=a2) (l:=fl) (by assumption) (by rfl) (by intro w' h;exact h2 w' (t5 h)) l2 k2 λs' w' d=> ?_)
  | (refine SV 4 (by assumption) (by rfl) λu w' d=> ?_)
  | (refine SV 5 (by assumption) (by rfl) λu w' d=> ?_)
  | (refine AJ (by assumption) λu w' d _=> ?_;exact J _ _ (gL e d))
  | (refine AJ (by assumption) λu w' d _=> ?_;exact J _ _ (gL e (d.perm (.cons _ (.cons _ (.cons _ (.cons _ (.cons _ (.swap _ _ _)))))))))
  | (refine And.intro ?_ ?_)
def gM: ∀(n:Nat) {l m k:Iv},Ok l->Ok m->Ok k->(∀p,mem m p->mem l p)->(∀p,mem k p->mem l p)->(∀p,mem m p-> ¬mem k p)-> ∀a:Int,cnt m a (a+n)+cnt k a (a+n)<=cnt l a (a+n)
 | 0,l,m,k,hl,hm,hk,_,_,_,a=>by
  have h1:=Gm hm (show a<=a+(0:Nat) by omega);have d:=Gm hk (show a<=a+(0:Nat) by omega);have u:=EX l a (a+(0:Nat));omega
 | n+1,l,m,k,hl,hm,hk,h1,d,u,a=>by
  have v:=gM n hl hm hk h1 d u a;have e:a+((n+1:Nat):Int)=(a+n)+1:=by omega
  rw[e];have sl:=Nr hl (a:=a) (k:=a+n) (by omega);have sm:=Nr hm (a:=a) (k:=a+n) (by omega);have sk:=Nr hk (a:=a) (k:=a+n) (by omega);by_cases c1:mem m (a+n)
  .grind
  .have:=sm.2 c1;by_cases c2:mem k (a+n)
   .grind
   .have:=sk.2 c2;by_cases c3:mem l (a+n)
    .grind
    grind
structure VOk(V:VS):Prop where
 o7:Ok V.laid
 o8:Ok V.ready
 kF:Ok V.rel
 rl: ∀p,mem V.ready p->mem V.laid p
 el: ∀p,mem V.rel p->mem V.laid p
 re: ∀p,mem V.ready p-> ¬mem V.rel p
 OC: ∀p,mem V.laid p->512<=p/\p<34359738368
 clean: ∀p i,0<=i->i<1024-> ¬mem V.ready p->V.wd p i=0
 sums:JZ V.ready+JZ V.rel<=JZ V.laid
def Sat.vok{b:Nat}{V:VS}(H:Sat (Bj E b V::Rs) w):VOk V:=by
 obtain⟨g,hI,H⟩:=Sat.OF.1 H;obtain⟨o7,o8,kF⟩:=UT H;refine⟨o7,o8,kF,hI.rl,hI.el,hI.re,hI.OC,λp i h0 h1 d=> ?_,?_⟩
 .rw[hI.wd p i h0 h1];unfold wordOf;cases hG:g.G p with
  | some x=>exact absurd (hI.pg p (by grind)) d
  | none=>
   cases hf:g.f p with
   | none=>rfl
   | some x=>exact absurd (hI.fi p (by grind)) d
 .have h1:=Oj (Ok.mO o7) (a:=0) (b:=0+(34359738368:Nat)) λn d=>by have:=hI.OC n d;omega
  have e:=Oj (Ok.mO o8) (a:=0) (b:=0+(34359738368:Nat)) λn d=>by have:=hI.OC n (hI.rl n d);omega
  have m:=Oj (Ok.mO kF) (a:=0) (b:=0+(34359738368:Nat)) λn d=>by have:=hI.OC n (hI.el n d);omega
  have:=gM 34359738368 o7 o8 kF hI.rl hI.el hI.re 0;omega
end
section
variable{E:Env}{b:Nat}{V:VS}{Rs:List Pr}{w:World}
variable(hE:EnvS E)
include hE
end
end Go.Sh

/- The address space does what its pages and words say. No further condition. -/
import Derived.Test.YtjibkpcalinfhaaGreatDoorS
import Derived.Test.YtjibkpcalinfhaaGreatDoorA
import Derived.Test.YtjibkpcalinfhaaGreatDoorM
import Derived.Test.YtjibkpcalinfhaaGreatDoorW
set_option linter.all false
set_option maxRecDepth 50000
set_option maxHeartbeats 4000000
namespace Go.Sh
structure VS where
  laid:Iv
  ready:Iv
  rel:Iv
  wd:Int->Int->Int
  pl:List Int
  rf:List Bool
  fl:List Int
structure VG where
  sp:AX
  sr:AX
  sf:AX
  s1:AX
  s2:AX
  s3:AX
  fb:Nat
  pb:Nat
  G:Pgs
  f:Int->Option Int
def FJ(s:AX):Value:=.slice s.base s.len s.cap
def k6(V:VS)(g:VG):List Value:=
  [FJ g.sp,FJ g.sr,FJ g.sf,FJ g.s1,.int .u64 (Ig V.laid),FJ g.s2,.int .u64 (Ig V.ready),FJ g.s3,.int .u64 (Ig V.rel),.map (some g.fb),.map (some g.pb)]
def Xf(g:VG):Int->Option Value:=λp=>(g.f p).map λn=>.int .u64 n
def zR(g:VG):Int->Option Value:=λp=>(g.G p).map λx=>.pointer (some ⟨x.1,0,none⟩)
def Hy(E:Env)(b:Nat)(V:VS)(g:VG):List Pr:=
  [Cells b 0 (k6 V g),ML E g.s1 V.laid,ML E g.s2 V.ready,ML E g.s3 V.rel,Js g.sp (ints .u64 V.pl),Js g.sr (BB V.rf),Js g.sf (ints .u64 V.fl),
   DY g.fb .u64 (Xf g),DY g.pb .u64 (zR g),Zd 1024 g.G]
def wordOf(g:VG)(p i:Int):Int:=match g.G p with
  | some x=>x.2 i
  | none=>(g.f p).getD 0
structure pP(V:VS)(g:VG):Prop where
  wd: ∀p i,0<=i->i<1024->V.wd p i=wordOf g p i
  pg: ∀p,g.G p≠none->mem V.ready p
  fi: ∀p,g.f p≠none->mem V.ready p
  rl: ∀p,mem V.ready p->mem V.laid p
  el: ∀p,mem V.rel p->mem V.laid p
  re: ∀p,mem V.ready p-> ¬mem V.rel p
  Ju: ∀p,mem V.laid p->512<=p/\p<34359738368
  cX: ∀x∈V.pl,0<=x/\x<18446744073709551616
def Co(E:Env)(b:Nat)(V:VS):Pr:=Ex λg=>Jj (pP V g) (Lo (Hy E b V g))
section
variable{E:Env}{b:Nat}{V:VS}{Rs:List Pr}{w:World}
def Sat.Ru:Sat (Co E b V::Rs) w↔ ∃g,pP V g/\Sat (Hy E b V g++Rs) w:=by
  unfold Co;rw[Sat.ex];constructor
  . rintro⟨g,h⟩;obtain⟨h1,h2⟩:=Sat.where.1 h;exact⟨g,h1,Sat.star.1 h2⟩
  . rintro⟨g,h1,h2⟩;exact⟨g,Sat.where.2 ⟨h1,Sat.star.2 h2⟩⟩
def TW{g:VG}(H:Sat (Hy E b V g++Rs) w):Ok V.laid/\Ok V.ready/\Ok V.rel:=
  ⟨(ML.ok (H.front 1 rfl)).1,(ML.ok (H.front 2 rfl)).1,(ML.ok (H.front 3 rfl)).1⟩
def U3{g:VG}(H:Sat (Hy E b V g++Rs) w){K:Bool->Bool->World->Prop}(h0:V.rf=[]->K false false w)
    (h1: ∀x r,V.rf=x::r-> ∀w',Sat (Hy E b {V with rf:=r} {g with sr:=⟨GN g.sr.base g.sr.cap 1 1,g.sr.len-1,g.sr.cap-1⟩}++Rs) w'->K x true w'):
    F.HA E (some ⟨b,1,none⟩) K w:=by
  unfold F.HA;have y:=(H.front 5 rfl).MD;have c:=H.Af (o:=1) rfl;simp only[AG];refine⟨g.sr,c,AB (λY=> ?_) λT=>h0 ?_⟩
  . cases hr:V.rf with
    | nil=>have:=y.1;rw[hr]at this;simp[BB]at this;omega
    | cons x r=>
      obtain⟨a,J,O⟩:=(H.front 5 rfl).NH (j:=0) (v:=.bool x) (by rw[hr];rfl);refine⟨g.sr,c,?_⟩;rw[J];refine⟨⟨by decide,by omega⟩,x,O,g.sr,c,⟨by decide,by omega⟩,?_⟩;have d:=Sat.back 5 ((H.front 5 rfl).NI (n:=1) (by omega)) (by simp[Hy]);rw[hr]at d;exact CN d rfl (by simp[k6]) λw' C=>h1 x r hr w' C
  . have:=y.1;have:(BB V.rf).length=0:=by omega
    simpa[BB]using this
def Xg{o:Nat}{s:AX}{l:List Int}{rest:List Pr}{vs:List Value}(H:Sat (Cells b 0 vs::Js s (ints .u64 l)::rest) w)(y:vs[o]? =some (FJ s)){K:Int->Bool->World->Prop}
    (h0:l=[]->K 0 false w)
    (h1: ∀x r,l=x::r-> ∀w',Sat (Cells b 0 (vs.set o (FJ ⟨GN s.base s.cap 1 1,s.len-1,s.cap-1⟩))::Js ⟨GN s.base s.cap 1 1,s.len-1,s.cap-1⟩ (ints .u64 r)::rest) w'->K x true w'):
    F.EX E (some ⟨b,o,none⟩) K w:=by
  unfold F.EX;have Y:=(H.front 1 rfl).MD;have c:=H.Af y;simp only[AG];refine⟨s,c,AB (λaA=> ?_) λT=>h0 ?_⟩
  . cases hr:l with
    | nil=>have:=Y.1;rw[hr]at this;simp[ints]at this;omega
    | cons x r=>
      obtain⟨a,J,O⟩:=(H.front 1 rfl).NH (j:=0) (v:=.int .u64 x) (by rw[hr];rfl);refine⟨s,c,?_⟩;rw[J];refine⟨⟨by decide,by omega⟩,x,O,s,c,⟨by decide,by omega⟩,?_⟩;have d:=Sat.S5 0 (((H.front 1 rfl).NI (n:=1) (by omega)).perm (.swap _ _ _)) (by simp);rw[hr]at d;exact CN d rfl (List.getElem?_eq_some_iff.1 y).1 λw' C=>h1 x r hr w' C
  . have:(ints .u64 l).length=0:=by omega
    simpa[ints]using this
def RJ(l:Iv)(page AA:Int):Prop:=page %512=0/\page≠0/\page+AA<=34359738368/\cnt l page (page+AA)=0
structure Le(l:Iv)(frm AA at_:Int):Prop where
  mul:at_ %512=0
  low:512<=at_
  fr:frm<=at_
  free: ∀m,at_<=m->m<at_+AA-> ¬mem l m
  first: ∀a,a %512=0->512<=a->frm<=a->a<at_-> ∃m,a<=m/\m<a+AA/\mem l m
variable(hE:EnvS E)
include hE
theorem U4{g:VG}(H:Sat (Hy E b V g++Rs) w){page AA:Int}(h0:0<=page)(h1:page<18446744073709551616)(J:0<=AA)(O:AA<=134217728){K:Bool->World->Prop}
    (d: ∀r w',(r=true↔RJ V.laid page AA)->Ext AQ w w'->K r w'):F.EP E (some ⟨b,0,none⟩) page AA K w:=by
  unfold F.EP T0.EP;have j:=Ext.refl AQ w;have hm:Int.tmod page 512=page %512:=Int.tmod_eq_emod_of_nonneg h0;rw[hm];refine⟨by decide,Bc (λm0=>Gq (λz=>AB (λhle=> ?_) λv=> ?_) λz=> ?_) λm0=> ?_⟩
  . rw[AM (n:=34359738368-page)];refine AB (λC=> ?_) λv=> ?_
    . rw[AM (n:=page+AA)];simp only[AG,add_eq,Nat.zero_add];refine TO hE H (o:=3) rfl rfl h0 (by omega) (by omega) λw' y=>d _ w' ?_ y;unfold RJ
      grind
    . refine d false w ⟨λh=>(by cases h),λh=> ?_⟩ j;have:=h.2.2.1;omega
  . refine d false w ⟨λh=>(by cases h),λh=> ?_⟩ j;have:=h.2.2.1;omega
  . exact d false w ⟨λh=>(by cases h),λh=>absurd z h.2.1⟩ j
  . exact d false w ⟨λh=>(by cases h),λh=>absurd h.1 m0⟩ j
theorem Zt{g:VG}(hI:pP V g)(H:Sat (Hy E b V g++Rs) w){y AA:Int}(h0:0<=y)(h1:y<18446744073709551616)(p0:0<AA)(p1:AA<=134217728){K:Int->Bool->World->Prop}
    (aV:34359738368<y->K 0 false w)
    (aW:y<=34359738368-> ∀at_ r w',Le V.laid y AA at_->at_<=34359738880->(r=true↔at_+AA<=34359738368)->Ext AQ w w'->K at_ r w'):
    F.Ds E (some ⟨b,0,none⟩) y AA K w:=by
  unfold F.Ds T0.Ds;refine AB aV λhle=>⟨by decide,AY λbA aL=> ?_⟩;have aN: ∀n:Int,0<=n->n<=34359738368->u64 (u64 (Int.tdiv (u64 (u64 (n+512)-1)) 512)*512)=(n+511)/512*512:=by
    intro n h0 h1;rw[AM (n:=n+512),AM (n:=n+512-1),Int.tdiv_eq_ediv_of_nonneg (by omega),AM (n:=(n+512-1)/512),AM];omega
  rw[aN y h0 (by omega),SC]at aL;simp only[AG,add_eq,Nat.zero_add];have hr:=(H.setAt (o:=3) rfl rfl).row;have hlen:=hr.len;have hsm:=hr.small;have a4:OB=4398046511104:=rfl;refine AV (λst w'=>Ext AQ w w'/\Le V.laid y AA st.1/\st.1<=34359738880) ?_ ?_
  . unfold F.G8;simp only[AG];refine⟨g.s1,hr.c0,AI (λst w'=> ∃k:Nat,st.2.1=(k:Int)/\k<=V.laid.length/\Ext AQ w w'/\st.1 %512=0/\512<=st.1/\y<=st.1/\st.1<=34359738880/\(∀q∈V.laid.take k,q.2<=st.1)/\
      ∀a,a %512=0->512<=a->y<=a->a<st.1-> ∃m,a<=m/\m<a+AA/\mem V.laid m) (λst _=>(V.laid.length-st.2.1).toNat)
      ⟨0,rfl,Nat.zero_le _,Ext.refl _ _,by omega,by omega,by simp only;omega,by omega,by simp,λa h1 h2 h3 h4=>by omega⟩ ?_⟩
    rintro⟨at_,i',v⟩ _ w9 ⟨k,hk,bG,aC,m0,m1,m2,m3,J,d⟩;simp only at hk m0 m1 m2 m3 J d⊢;subst hk;refine AB (λbH=> ?_) λbD=>⟨aC,⟨m0,m1,m2,λm h1 h2 hm=> ?_,d⟩,m3⟩
    . have aH:k<V.laid.length:=by omega
      obtain⟨q,hq⟩: ∃q,V.laid[k]? =some q:=⟨_,List.getElem?_eq_getElem aH⟩;obtain⟨g1,g2⟩:=NO V.laid k q hq;have bJ:=hr.ok.get hq;have bK:=hI.Ju (q.2-1) ⟨q,List.mem_of_getElem? hq,by omega,by omega⟩;have aA:=(hr.own.ext aC λb hb f=>f);obtain⟨bb,hb⟩:=aA.Ep (by omega);rw[hb];simp only[AG,add_eq,Nat.zero_add,Int.toNat_natCast,Nat.add_zero];have c1:=aA.cell hb g1;have c2:=aA.cell hb g2;rw[add_eq,Nat.zero_add]at c1 c2;refine⟨⟨by omega,by omega⟩,q.1,c1,q.2,c2,?_⟩;refine AO (Sat.start w9) λaK bM aT a5=>Fp aT (by rfl) (by simp[Value.oneCell']) λaJ O=> ?_;have aF:Ext AQ w aJ:=aC.trans' (O.N7 1 rfl);have ei:i64 ((k:Int)+1)=((k+1:Nat):Int):=by rw[AF];omega
      have aB: ∀x,q.2<=x->(∀p∈V.laid.take k,p.2<=x)-> ∀p∈V.laid.take (k+1),p.2<=x:=by
        intro x h1 h2 p hp;rw[List.take_succ_eq_append_getElem aH,List.mem_append,List.mem_singleton]at hp;rcases hp with hp|rfl
        . exact h2 p hp
        . have:V.laid[k]=q:=by rw[List.getElem?_eq_getElem aH]at hq;exact Option.some.inj hq
          grind
      refine⟨q.2,O.Af rfl,AB (λhle=>⟨⟨k+1,ei,by omega,aF,m0,m1,m2,m3,aB _ hle J,d⟩,by omega⟩) λbE=> ?_⟩;have Y: ∀w',Sat [Cells aK E.AE [.int .u64 q.1,.int .u64 q.2],Old w9] w'-> ¬(at_<=q.1/\AA<=q.1-at_)-> ∀(nx:Int->Prop),
          (∀a,(a %512=0/\512<=a/\y<=a/\a<=34359738880/\(∀p∈V.laid.take (k+1),p.2<=a)/\(∀T,T %512=0->512<=T->y<=T->T<a-> ∃m,T<=m/\m<T+AA/\mem V.laid m))->Ext AQ w w'->nx a)->
          ∃aP:Int,w'.cell? ⟨aK,1,none⟩=some (.int .u64 aP)/\512≠(0:Int)/\HX (u64 ((u64 (Int.tdiv (u64 ((u64 (aP+512))-1)) 512))*512):Int) λaG=>nx aG:=by
        intro w' H' bI nx aX;refine⟨q.2,H'.Af rfl,by decide,AY λa ha=> ?_⟩;rw[aN q.2 (by omega) (by omega)]at ha;refine aX a ⟨by omega,by omega,by omega,by omega,aB a (by omega) λp hp=>by have:=J p hp;omega,λT b1 b2 b3 b4=> ?_⟩ (aC.trans' (H'.N7 1 rfl));by_cases e:T<at_
        . exact d T b1 b2 b3 e
        . by_cases e2:q.1<=T
          . exact⟨T,by omega,by omega,q,List.mem_of_getElem? hq,e2,by omega⟩
          . exact⟨q.1,by omega,by omega,q,List.mem_of_getElem? hq,by omega,by omega⟩
      refine AU ⟨q.1,O.Af rfl,AB (λa6=>⟨q.1,O.Af rfl,?_⟩) λaM j=>Y aJ O (λh=>aM h.1) _ λa h1 h2=> ?_⟩
      . rw[AM (n:=q.1-at_)];refine AB (λa7=>⟨aF,⟨m0,m1,m2,λm h1 h2 hm=> ?_,d⟩,m3⟩) λa8 j=>Y aJ O (λh=>by omega) _ λa h1 h2=> ?_
        . obtain⟨p,hp,h3,h4⟩:=hm;obtain⟨i,hi⟩:=List.mem_iff_getElem?.1 hp;rcases Nat.lt_trichotomy i k with h|h|h
          . have:=J p (List.mem_of_getElem? (i:=i) (by grind));omega
          . grind
          . have:=hr.ok.lt h hq hi;omega
        . exact⟨⟨k+1,ei,by omega,h2,h1.1,h1.2.1,h1.2.2.1,h1.2.2.2.1,h1.2.2.2.2.1,h1.2.2.2.2.2⟩,by omega⟩
      . exact⟨⟨k+1,ei,by omega,h2,h1.1,h1.2.1,h1.2.2.1,h1.2.2.2.1,h1.2.2.2.2.1,h1.2.2.2.2.2⟩,by omega⟩
    . obtain⟨p,hp,h3,h4⟩:=hm
      grind
  . rintro⟨at_,v⟩ _ w4 ⟨aO,C,aD⟩;simp only at C aD⊢;refine U4 hE (H.nothing aO) (by have:=C.low;omega) (by omega) (by omega) p1 λr w' aY aZ=>aW (by omega) at_ r w' C aD ?_ (aO.trans' aZ);rw[aY];have:=C.mul;have:=C.low;constructor
    . intro h;exact h.2.2.1
    . intro h;exact⟨C.mul,by omega,h,(Dn hr.ok (by omega)).2 C.free⟩
end
def V7(l:Iv)(hint AA at_:Int):Prop:=hint<=34359738368/\Le l hint AA at_/\at_+AA<=34359738368
def KT(l:Iv)(hint AA:Int):Prop:=34359738368<hint∨ ∃a,Le l hint AA a/\ ¬a+AA<=34359738368
def Oj(V:VS)(AA:Int):Prop:= ∀p r,V.pl=p::r-> ¬RJ V.laid p AA
def Hf(V:VS)(hint AA at_:Int):Prop:=
 (∃p r,V.pl=p::r/\RJ V.laid p AA/\at_=p)∨(Oj V AA/\(V7 V.laid hint AA at_∨(KT V.laid hint AA/\V7 V.laid 0 AA at_)))
def Lv(V:VS)(hint AA:Int):Prop:=Oj V AA/\KT V.laid hint AA/\KT V.laid 0 AA
def Le.fits{l:Iv}(h:Ok l){hint AA at_:Int}(j:0<AA)(hp:Le l hint AA at_)(d:at_+AA<=34359738368):RJ l at_ AA:=
 ⟨hp.mul,by have:=hp.low;omega,d,(Dn h (by omega)).2 hp.free⟩
def Hf.fits{V:VS}(h:Ok V.laid){hint AA at_:Int}(d:0<AA)(j:Hf V hint AA at_):RJ V.laid at_ AA:=by
 rcases j with ⟨p,r,_,h1,rfl⟩|⟨_,⟨_,h1,h2⟩|⟨_,_,h1,h2⟩⟩
 .exact h1
 .exact h1.fits h d h2
 .exact h1.fits h d h2
section
variable{E:Env}{b:Nat}{V:VS}{Rs:List Pr}{w:World}(hE:EnvS E)
include hE
theorem V8(H:Sat (Co E b V::Rs) w){hint AA:Int}(h0:0<=hint)(h1:hint<18446744073709551616)(p0:0<=AA)(p1:AA<18446744073709551616){K:Int->Int->World->Prop}
  (aP:(AA=0∨AA %512≠0∨134217728<AA)->K 0 1 w)
  (bF: ¬(AA=0∨AA %512≠0∨134217728<AA)-> ∀r,V.rf=true::r-> ∀w',Sat (Co E b {V with rf:=r}::Rs) w'->K 0 13 w')
  (bG: ¬(AA=0∨AA %512≠0∨134217728<AA)->(∀r,V.rf≠true::r)->Lv V hint AA-> ∀w',Sat (Co E b {V with rf:=V.rf.tail,pl:=V.pl.tail}::Rs) w'->K 0 13 w')
  (bH: ¬(AA=0∨AA %512≠0∨134217728<AA)->(∀r,V.rf≠true::r)-> ∀at_,Hf V hint AA at_-> ∀w',Sat (Co E b {V with rf:=V.rf.tail,pl:=V.pl.tail,laid:=Dl V.laid at_ (at_+AA)}::Rs) w'->K at_ 0 w'):
  F.EG E (some ⟨b,0,none⟩) hint AA K w:=by
 unfold F.EG T0.EG;simp only[Nat.mul_one];rw[Int.tmod_eq_emod_of_nonneg p0];refine AU (Bc (λe j=>AR rfl (aP (.inl e))) λn1=>⟨by decide,Gq (λe j=>AR rfl (aP (.inr (.inl e)))) λn2 j=>AB (λe=>aP (.inr (.inr e))) λn3=> ?_⟩);have T: ¬(AA=0∨AA %512≠0∨134217728<AA):=by omega
 obtain⟨g,hI,H⟩:=Sat.Ru.1 H;obtain⟨aK,bR,bS⟩:=TW H;simp only[AG,add_eq,Nat.zero_add];have aB:(∀r,V.rf≠true::r)-> ∀(sr:AX) (w7:World),Sat (Hy E b {V with rf:=V.rf.tail} {g with sr:=sr}++Rs) w7->
   F.EX E (some ⟨b,0,none⟩) (λr9 bN aF=>
    Ai (Bool×Unit) (λaZ=>
     CND (bN) (
      F.EP E (some ⟨b,0,none⟩) r9 AA (λbO aT=>
      aZ (bO,()) aT
      ) aF
     ) (
      aZ (false,()) aF
     )
    ) λJk _ aC=>
     AL (.cells ⟨[.int .u64 hint,.int .u64 0]⟩ E.AD) aC λO aG=>
     Az (Int×Bool×Int×Unit) (r9,Jk.1,0,()) aG λFT _ y d=>
      CND (decide ((FT.2.2.1:Int)<2)) (
       ((0:Int)<=FT.2.2.1/\(FT.2.2.1:Int)<(2:Nat))/\
       ∃aE:Int,y.cell? (Addr.mk O (Int.toNat FT.2.2.1) none)=some (.int .u64 aE)/\
       CND (!FT.2.1) (
        F.Ds E (some ⟨b,0,none⟩) aE AA (λaR aS aH=>
        d (aR,aS,i64 (FT.2.2.1+1),()) aH
        ) y
       ) (
        d (FT.1,FT.2.1,i64 (FT.2.2.1+1),()) y
       )
      ) (
       CND (!FT.2.1) (
        K 0 13 y
       ) (
        F.BW E (some ⟨b,3,none⟩) FT.1 (u64 (FT.1+AA)) (λaD=>
        K FT.1 0 aD
        ) y
       )
      )) w7:=by
  intro a3 sr w7 H7;have Y: ∀(sp:AX) (pl:List Int) (aL:Int) (cY:Bool) (aC:World),pl=V.pl.tail->(cY=true->Hf V hint AA aL)->(cY=false->Oj V AA)->
    Sat (Hy E b {V with rf:=V.rf.tail,pl:=pl} {g with sr:=sr,sp:=sp}++Rs) aC->
    AL (.cells ⟨[.int .u64 hint,.int .u64 0]⟩ E.AD) aC λO aG=>
     Az (Int×Bool×Int×Unit) (aL,cY,0,()) aG λFT _ y d=>
      CND (decide ((FT.2.2.1:Int)<2)) (
       ((0:Int)<=FT.2.2.1/\(FT.2.2.1:Int)<(2:Nat))/\
       ∃aE:Int,y.cell? (Addr.mk O (Int.toNat FT.2.2.1) none)=some (.int .u64 aE)/\
       CND (!FT.2.1) (
        F.Ds E (some ⟨b,0,none⟩) aE AA (λaR aS aH=>
        d (aR,aS,i64 (FT.2.2.1+1),()) aH
        ) y
       ) (
        d (FT.1,FT.2.1,i64 (FT.2.2.1+1),()) y
       )
      ) (
       CND (!FT.2.1) (
        K 0 13 y
       ) (
        F.BW E (some ⟨b,3,none⟩) FT.1 (u64 (FT.1+AA)) (λaD=>
        K FT.1 0 aD
        ) y
       )
      ):=by
   intro sp pl aL cY aC J bD bJ a8;subst J;have aM:pP {V with rf:=V.rf.tail,pl:=V.pl.tail} {g with sr:=sr,sp:=sp}:=⟨hI.wd,hI.pg,hI.fi,hI.rl,hI.el,hI.re,hI.Ju,λx hx=>hI.cX x (List.mem_of_mem_tail hx)⟩;refine AO a8 λO aG a9 _=> ?_;refine AI (λst w'=>0<=st.2.2.1/\st.2.2.1<=2/\Sat (Cells O E.AD [.int .u64 hint,.int .u64 0]::(Hy E b {V with rf:=V.rf.tail,pl:=V.pl.tail} {g with sr:=sr,sp:=sp}++Rs)) w'/\
    (st.2.1=true->Hf V hint AA st.1)/\(st.2.1=false->Oj V AA/\(1<=st.2.2.1->KT V.laid hint AA)/\(2<=st.2.2.1->KT V.laid 0 AA))) (λst _=>(2-st.2.2.1).toNat)
    ⟨Int.le_refl _,by grind,a9,bD,λh=>⟨bJ h,λh=>by simp only at h;omega,λh=>by simp only at h;omega⟩⟩ ?_
   rintro⟨at_,ok,k,v⟩ _ y ⟨k0,k1,C,hc,hn⟩;simp only at k0 k1 C hc hn⊢;refine AB (λbX=> ?_) λbW=> ?_
   .rw[AF (n:=k+1)];refine⟨⟨k0,by omega⟩,if k=0 then hint else 0,?_,?_⟩
    .by_cases e:k=0
     .subst e;exact C.Af rfl
     .have:k=1:=by omega
      subst this;exact C.Af rfl
    cases ok with
    | true=>exact AP rfl ⟨⟨by omega,by omega,C,hc,λh=>by cases h⟩,by omega⟩
    | false=>
     obtain⟨n1,n2,n3⟩:=hn rfl;have bK:0<=(if k=0 then hint else 0):=by omega
     have bL:(if k=0 then hint else 0)<18446744073709551616:=by omega
     have a2:KT V.laid (if k=0 then hint else 0) AA->(1<=k+1->KT V.laid hint AA)/\(2<=k+1->KT V.laid 0 AA):=by grind
     refine AR rfl (Zt hE aM C.tail bK bL (by omega) (by omega) (λbE=> ?_) λhle a r aH J bV hr a5=> ?_)
     .exact⟨⟨by omega,by omega,C,λh=>(by cases h),λ_=>⟨n1,a2 (.inl bE)⟩⟩,by omega⟩
     .refine⟨⟨by omega,by omega,C.nothing a5,λh=> ?_,λh=>⟨n1,a2 (.inr ⟨a,J,λh2=> ?_⟩)⟩⟩,by omega⟩
      .have aI:=hr.1 h;refine .inr ⟨n1,?_⟩;by_cases e:k=0
       .rw[if_pos e]at J hle;exact .inl ⟨hle,J,aI⟩
       .rw[if_neg e]at J hle;exact .inr ⟨n2 (by omega),hle,J,aI⟩
      grind
   .have a1:k=2:=by omega
    subst a1;cases ok with
    | false=>
     obtain⟨n1,n2,n3⟩:=hn rfl;exact AR rfl (bG T a3 ⟨n1,n2 (by decide),n3 (by decide)⟩ y (Sat.Ru.2 ⟨_,aM,C.tail⟩))
    | true=>
     have aN:=hc rfl;have aO:=aN.fits aK (by omega);have hmul:=aO.1;have bY:=aO.2.1;have aJ:0<=at_:=by
      rcases aN with ⟨p,r,h1,_,h2⟩|⟨_,⟨_,h1,_⟩|⟨_,_,h1,_⟩⟩
      .rw[h2];exact(hI.cX p (by rw[h1];simp)).1
      .have:=h1.low;omega
      .have:=h1.low;omega
     have bP:=aO.2.2.1;have bQ:OB=4398046511104:=rfl;rw[AM (n:=at_+AA)];refine AP rfl (kH hE C.tail (o:=3) rfl rfl aJ (by omega) (by omega) λaD s' bA=>bH T a3 at_ aN aD (Sat.Ru.2 ⟨{g with sr:=sr,sp:=sp,s1:=s'},?_,bA⟩));have hm: ∀p,mem (Dl V.laid at_ (at_+AA)) p↔mem V.laid p∨(at_<=p/\p<at_+AA):=λp=>ER aK (by omega) aJ (by omega) p;refine⟨hI.wd,hI.pg,hI.fi,λp hp=>(hm p).2 (.inl (hI.rl p hp)),λp hp=>(hm p).2 (.inl (hI.el p hp)),hI.re,λp hp=> ?_,aM.cX⟩;rcases(hm p).1 hp with h|h
     .exact hI.Ju p h
     .omega
  refine Xg (o:=0) (H7.EM 3 rfl) rfl (λaA=> ?_) λx r hx aF a7=> ?_
  .refine AU (AP rfl λj=>Y g.sp V.pl 0 false w7 ?_ (λh=>by cases h) (λ_ p r h=> ?_) H7)
   .grind
   grind
  .have aQ:V.pl=x::r:=hx;have aX:Sat (Hy E b {V with rf:=V.rf.tail,pl:=r} {g with sr:=sr,sp:=⟨GN g.sp.base g.sp.cap 1 1,g.sp.len-1,g.sp.cap-1⟩}++Rs) aF:=Sat.S5 3 a7 (by simp[Hy]);obtain⟨x0,x1⟩:=hI.cX x (by rw[aQ];simp);refine AU (AR rfl (U4 hE aX x0 x1 (by omega) (by omega) λbB aT a0 a4 j=>Y _ r x bB aT (by rw[aQ];rfl) (λh=>.inl ⟨x,r,aQ,a0.1 h,rfl⟩) (λh p r' hp hf=> ?_) (aX.nothing a4)))
   grind
 refine U3 H (λaA=>AP rfl (aB (λr h=>by grind) g.sr w ?_)) λx r hx w7 H7=> ?_
 .rw[aA];have:{V with rf:=[]}=V:=by rw[<-aA]
  show Sat (Hy E b {V with rf:=[]} {g with sr:=g.sr}++Rs) w;rw[this];exact H
 .refine AS (λe=>bF T r (by rw[hx,e]) w7 (Sat.Ru.2 ⟨{g with sr:=⟨GN g.sr.base g.sr.cap 1 1,g.sr.len-1,g.sr.cap-1⟩},⟨hI.wd,hI.pg,hI.fi,hI.rl,hI.el,hI.re,hI.Ju,hI.cX⟩,H7⟩)) λe=>aB (λr' h=> ?_) ⟨GN g.sr.base g.sr.cap 1 1,g.sr.len-1,g.sr.cap-1⟩ w7 ?_
  .grind
  .rw[hx];exact H7
end
def Xh{p:Int×Int}{a b n:Int}:mem (J0 p a b) n↔(p.1<=n/\n<p.2)/\a<=n/\n<b:=by
 unfold J0;split
 .constructor
  .intro h;exact absurd h (CM n)
  omega
 .rw[mem_cons];constructor
  .rintro(h|h)
   .omega
   .exact absurd h (CM n)
  omega
def NU{l:Iv}{a b n:Int}:mem (withinL l a b) n↔mem l n/\a<=n/\n<b:=by
 induction l with
 | nil=>exact⟨λh=>absurd h (CM n),λh=>absurd h.1 (CM n)⟩
 | cons p r ih=>
  rw[withinL,mem_append,Xh,ih,mem_cons]
  grind
def TX{l:Iv}(h:Ok l){a b:Int}(j:a<b):Ok (withinL l a b):=by
 induction l with
 | nil=>exact trivial
 | cons p r ih=>
  rw[withinL,Fi];refine⟨?_,ih h.tail,?_⟩
  .unfold J0;split
   .exact trivial
   .have:=h.1;have:=h.2.1;have:=h.2.2.1;exact⟨by omega,by omega,by omega,by simp,trivial⟩
  .intro q y v d;obtain⟨h1,h2,C⟩:=Og h.tail j v d;have hm:mem r v.1:=(NU.1 ⟨v,d,Int.le_refl _,h2⟩).1;obtain⟨z,hz,J,K⟩:=hm;have:=h.2.2.2.1 z hz;unfold J0 at y
   grind
def Ms(l:Iv)(n:Int):Bool:=l.any λq=>decide (q.1<=n/\n<q.2)
def CJ{l:Iv}{n:Int}:Ms l n=true↔mem l n:=by
 unfold Ms mem
 grind
section
variable{E:Env}{b:Nat}{V:VS}{Rs:List Pr}{w:World}
def Zu{page AA:Int}(h0:0<=page)(v:0<=AA)(y:AA<18446744073709551616){K:Bool->World->Prop}(d:K (decide (AA≠0/\page+AA<=34359738368)) w):F.MK E page AA K w:=by
 unfold F.MK;refine Gq (λz=>AB (λhle=> ?_) λj=> ?_) λz=> ?_
 .rw[AM (n:=34359738368-page)];rwa[show decide (AA<=34359738368-page)=decide (AA≠0/\page+AA<=34359738368)from decide_eq_decide.2 (by omega)]
 .rwa[show decide (AA≠0/\page+AA<=34359738368)=false from decide_eq_false (by omega)]at d
 .rwa[show decide (AA≠0/\page+AA<=34359738368)=false from decide_eq_false (by omega)]at d
variable(hE:EnvS E)
include hE
theorem U5{t o:Nat}{vs:List Value}{s:AX}{l:Iv}{rest:List Pr}(H:Sat (Cells b t vs::ML E s l::rest) w)(h0:vs[o]? =some (.slice s.base s.len s.cap))(h1:vs[o+1]? =some (.int .u64 (Ig l)))
  {x y:Int}(v:0<=x)(J:y<18446744073709551616){K:AX->World->Prop}
  (C: ∀s' w',Sat (Row E.AE 2 s' (flat (withinL l x y))::Cells b t vs::ML E s l::rest) w'->Ext AQ w w'->K s' w'):F.B9 E (some ⟨b,o,none⟩) x y K w:=by
 refine Xa hE (H.setAt h0 h1).row v J λs' w' d j=>C s' w' ?_ j;exact H.new (P:=Row E.AE 2 s' (flat (withinL l x y))) (D:=PN s') j ⟨λ_=>Iff.rfl,d.lower (Nat.zero_le _)⟩ λk hk=>by
  obtain⟨a,v,rfl⟩:=hk;exact(d.lt v).1
end
section
variable{E:Env}{b:Nat}{V:VS}{Rs:List Pr}{w:World}
end
def HL(V:VS)(page p:Int):Int:=V.fl.getD (cnt V.rel page p).toNat 0
def IA(V:VS)(page AA:Int):VS:=
 {V with rf:=V.rf.tail,ready:=Dl V.ready page (page+AA),rel:=Dk V.rel page (page+AA),fl:=V.fl.drop (cnt V.rel page (page+AA)).toNat,wd:=λp i=>if page<=p/\p<page+AA/\Ms V.rel p=true then HL V page p else V.wd p i}
def Iu(page AA:Int):Prop:=AA≠0/\page+AA<=34359738368
def Xi{l:Iv}(h:Ok l){a x y:Int}(h1:a<=x)(h2:x<=y)(d: ∀n,x<=n->n<y-> ¬mem l n):cnt l a y=cnt l a x:=by
 rw[Np (Ok.jI h) h1 h2,(Dn h h2).2 d];omega
def Sat.Ol{P:Pr}{w:World}(d:List Pr){T:List Pr}(H:Sat (P::(d++T)) w):Sat (d++P::T) w:=H.perm List.perm_middle.symm
def Sat.Pg{P:Pr}{w:World}(d:List Pr){T:List Pr}(H:Sat (d++P::T) w):Sat (d++T) w:=(H.perm List.perm_middle).tail
def Mw(V:VS)(g:VG)(page x p:Int):Option Int:=
 if page<=p/\p<x/\Ms V.rel p=true then(if HL V page p=0 then none else some (HL V page p))else g.f p
def Ph{V:VS}{g:VG}{page x y:Int}(j:x<=y)(h: ∀p,x<=p->p<y->mem V.rel p->page<=p->HL V page p=0/\g.f p=none):Mw V g page y=Mw V g page x:=by
 funext p;unfold Mw;by_cases e:page<=p/\p<x/\Ms V.rel p=true
 .grind
 .rw[if_neg e];by_cases e2:page<=p/\p<y/\Ms V.rel p=true
  .rw[if_pos e2];have d:x<=p:=by
    by_cases e3:x<=p
    .exact e3
    .exact absurd ⟨e2.1,by omega,e2.2.2⟩ e
   obtain⟨h1,h2⟩:=h p d e2.2.1 (CJ.1 e2.2.2) e2.1
   grind
  grind
def k7{V:VS}{g:VG}{page p:Int}(hp:page<=p)(hm:mem V.rel p)(q:Int):
  Mw V g page (p+1) q=if q=p then(if HL V page p=0 then none else some (HL V page p))else Mw V g page p q:=by
 unfold Mw;by_cases e:q=p
 .subst e;rw[if_pos ⟨hp,by omega,CJ.2 hm⟩,if_pos rfl]
 grind
section
variable{E:Env}{b:Nat}{V:VS}{Rs:List Pr}{w:World}(hE:EnvS E)
include hE
theorem commit_spec(H:Sat (Co E b V::Rs) w){page AA:Int}(h0:0<=page)(h1:page<18446744073709551616)(p0:0<=AA)(p1:AA<18446744073709551616){K:Int->World->Prop}
  (cL: ¬Iu page AA->K 1 w)
  (cM:Iu page AA->cnt V.laid page (page+AA)≠AA-> ∀w',Ext AQ w w'->K 33 w')
  (aL:Iu page AA->cnt V.laid page (page+AA)=AA->cnt V.ready page (page+AA)=AA-> ∀w',Ext AQ w w'->K 0 w')
  (cN:Iu page AA->cnt V.laid page (page+AA)=AA->cnt V.ready page (page+AA)≠AA-> ∀r,V.rf=true::r-> ∀w',Sat (Co E b {V with rf:=r}::Rs) w'->K 13 w')
  (cO:Iu page AA->cnt V.laid page (page+AA)=AA->cnt V.ready page (page+AA)≠AA->(∀r,V.rf≠true::r)-> ∀w',Sat (Co E b (IA V page AA)::Rs) w'->K 0 w'):
  F.Cn E (some ⟨b,0,none⟩) page AA K w:=by
 obtain⟨g,hI,H⟩:=Sat.Ru.1 H;obtain⟨LM,Pj,U6⟩:=TW H;unfold F.Cn T0.Cn;refine Zu h0 p0 p1 (JK (AB (λhr=> ?_) λhr=>cL hr));have dN:=hr.1;have dO:=hr.2;simp only[AG,add_eq,Nat.zero_add];rw[AM (n:=page+AA)];refine TO hE H (o:=3) rfl rfl h0 (by omega) (by omega) λw5 aZ=> ?_;refine Gq (λhl=>cM hr hl w5 aZ) λhl=> ?_;refine TO hE ((H.nothing aZ).EM 1 rfl) (o:=5) rfl rfl h0 (by omega) (by omega) λw8 c0=> ?_;have aS:=aZ.trans' c0;refine Bc (λhd=>aL hr hl hd w8 aS) λhd=> ?_;have H8:=H.nothing aS;have aV: ∀p,page<=p->p<page+AA->mem V.laid p:=(El LM (a:=page) (b:=page+AA) (by omega)).1 (by omega);have aG:(∀r,V.rf≠true::r)-> ∀(sr:AX) (a1:World),Sat (Hy E b {V with rf:=V.rf.tail} {g with sr:=sr}++Rs) a1->
   Ai (Unit) (λbB=>
    F.B9 E (some ⟨b,7,none⟩) page (page+AA) (λa0 a2=>
    Az (Int×Unit) (0,()) a2 λFT _ aB aM=>
     CND (decide ((FT.1:Int)<((a0.len:Nat):Int))) (
      NC a0.base λbR=>
      ((0:Int)<=FT.1/\(FT.1:Int)<(a0.len:Nat))/\
      ∃bC:Int,aB.cell? ((bR.add (Int.toNat FT.1*2)).add 0)=some (.int .u64 bC)/\
      ∃bD:Int,aB.cell? ((bR.add (Int.toNat FT.1*2)).add 1)=some (.int .u64 bD)/\
      AL (.cells #[.int .u64 0,.int .u64 0] E.AE) aB λaA bU=>
      stCells (Addr.mk aA 0 none) 0 [.int .u64 bC,.int .u64 bD] bU λa3=>
      ∃bW:Int,a3.cell? (Addr.mk aA 0 none)=some (.int .u64 bW)/\
      Az (Int×Unit) (bW,()) a3 λIQ _ J Y=>
       ∃bX:Int,J.cell? (Addr.mk aA 1 none)=some (.int .u64 bX)/\
       CND (decide ((IQ.1:Int)<bX)) (
        ∃aN:AX,J.cell? (Addr.mk b 2 none)=some (.slice aN.base aN.len aN.cap)/\
        CND ((((aN.len:Nat):Int):Int)==0) (
         bB (()) J
        ) (
         F.EX E (some (Addr.mk b 2 none)) (λbS dS aJ=>
         CND ((bS:Int) !=0) (
          ∃bY:(Option Nat),aJ.cell? (Addr.mk b 9 none)=some (.map bY)/\
          Ve .u64 IQ.1 (.int .u64 bS) bY aJ λa4=>
          Y (u64 (IQ.1+1),()) a4
         ) (
          Y (u64 (IQ.1+1),()) aJ
         )
         ) J
        )
       ) (
        aM (i64 (FT.1+1),()) J
       )
     ) (
      bB (()) aB
     )
    ) a1
   ) λOA _ bT=>
    F.Cm E (some (Addr.mk b 7 none)) page (page+AA) (λbV=>
    F.BW E (some (Addr.mk b 5 none)) page (page+AA) (λa5=>
    K 0 a5
    ) bV
    ) bT:=by
  intro cW sr a1 b0;have aU: ∀p,mem V.rel p->g.f p=none:=λp hp=>by
   cases hf:g.f p with
   | none=>rfl
   | some v=>exact absurd hp (hI.re p (hI.fi p (by grind)))
  refine AV (λ_ w'=> ∃sf,Sat (Hy E b {V with rf:=V.rf.tail,fl:=V.fl.drop (cnt V.rel page (page+AA)).toNat} {g with sr:=sr,sf:=sf,f:=Mw V g page (page+AA)}++Rs) w') ?_ ?_
  .refine U5 hE (b0.EM 2 rfl) (o:=7) rfl rfl h0 (by omega) λs' a2 a7 _=> ?_;have aC:Sat (Hy E b {V with rf:=V.rf.tail} {g with sr:=sr}++Row E.AE 2 s' (flat (withinL V.rel page (page+AA)))::Rs) a2:=
    Sat.Ol (Hy E b {V with rf:=V.rf.tail} {g with sr:=sr}) (a7.perm (.cons _ (.cons _ (C0 (i:=2) rfl).symm)))
   clear a7;have O:=TX U6 (a:=page) (b:=page+AA) (by omega);generalize hm:withinL V.rel page (page+AA)=m at aC O;have aD: ∀n,mem m n↔mem V.rel n/\page<=n/\n<page+AA:=λn=>by rw[<-hm];exact NU
   have bF: ∀q∈m,page<=q.1/\q.1<q.2/\q.2<=page+AA:=by rw[<-hm];exact Og U6 (by omega)
   have cE:=DM V.rel page;have dJ: ∀c,V.fl.length<=c->V.fl.getD c 0=0:=λc hc=>by grind
   have aP: ∀x,page<=x->x<=page+AA->(cnt V.rel page x).toNat<=V.fl.length->((∀n,x<=n->n<page+AA-> ¬mem V.rel n)∨V.fl.drop (cnt V.rel page x).toNat=[])-> ∀sf (T:List Pr) w',
     Sat (Hy E b {V with rf:=V.rf.tail,fl:=V.fl.drop (cnt V.rel page x).toNat} {g with sr:=sr,sf:=sf,f:=Mw V g page x}++T) w'->
     Sat (Hy E b {V with rf:=V.rf.tail,fl:=V.fl.drop (cnt V.rel page (page+AA)).toNat} {g with sr:=sr,sf:=sf,f:=Mw V g page (page+AA)}++T) w':=by
    intro x aH aI bE cS sf T w' hS;rcases cS with aE|d
    .have e1:=Xi U6 aH aI aE;have e2:Mw V g page (page+AA)=Mw V g page x:=Ph aI λp h1 h2 h3 _=>absurd h3 (aE p h1 h2)
     grind
    .have hlen:V.fl.length<=(cnt V.rel page x).toNat:=List.drop_eq_nil_iff.1 d;have hle: ∀p,x<=p->cnt V.rel page x<=cnt V.rel page p:=λp hp=>by
      rw[Np (Ok.jI U6) aH hp];have:=DM V.rel x p;omega
     have e1:V.fl.drop (cnt V.rel page (page+AA)).toNat=V.fl.drop (cnt V.rel page x).toNat:=by
      rw[d,List.drop_eq_nil_iff]
      grind
     have e2:Mw V g page (page+AA)=Mw V g page x:=Ph aI λp h1 h2 h3 _=>⟨by
      unfold HL
      grind,aU p h3⟩
     grind
   have aR: ∀{T:List Pr} {sf fl f w'},Sat (Hy E b {V with rf:=V.rf.tail,fl:=fl} {g with sr:=sr,sf:=sf,f:=f}++Row E.AE 2 s' (flat m)::T) w'->Ie w' 0 E.AE 2 s' (flat m):=λh=>(h.front 10 rfl).own;have cY:s'.len=m.length:=by
    have:=(aR (T:=Rs) (sf:=g.sf) (fl:=V.fl) (f:=g.f) aC).len;rw[FA]at this;omega
   have cP:m.length<=34359738368:=by
    have: ∀(l:Iv) (B:Int),Ok l->(∀q∈l,B<=q.1/\q.2<=34359738368)->B<=34359738368->(l.length:Int)<=34359738368-B:=by
     intro l
     induction l with
     | nil=>grind
     | cons q r ih=>
      intro B ho hb _;have h1:=hb q List.mem_cons_self;have h2:=ho.2.1;have:=ih q.2 ho.tail (λq' bK=>⟨by have:=ho.2.2.2.1 q' bK;omega,(hb q' (List.mem_cons_of_mem _ bK)).2⟩) h1.2
      grind
    have:=this m 0 O (λq hq=>⟨by grind,by grind⟩) (by decide);omega
   refine AI (λst w'=> ∃(k:Nat) (x:Int) (sf:AX),st.1=(k:Int)/\k<=m.length/\page<=x/\x<=page+AA/\(cnt V.rel page x).toNat<=V.fl.length/\(∀q∈m.take k,q.2<=x)/\(∀q∈m.drop k,x<=q.1)/\
     Sat (Hy E b {V with rf:=V.rf.tail,fl:=V.fl.drop (cnt V.rel page x).toNat} {g with sr:=sr,sf:=sf,f:=Mw V g page x}++Row E.AE 2 s' (flat m)::Rs) w') (λst _=>(m.length-st.1).toNat)
    ⟨0,page,g.sf,rfl,Nat.zero_le _,Int.le_refl _,by omega,?_,by simp,λq hq=>(bF q (by simpa using hq)).1,?_⟩ ?_
   .have:cnt V.rel page page=0:=(Dn U6 (Int.le_refl _)).2 λn h1 h2=>by omega
    omega
   .have e1:cnt V.rel page page=0:=(Dn U6 (Int.le_refl _)).2 λn h1 h2=>by omega
    have e2:Mw V g page page=g.f:=by funext p;unfold Mw;grind
    rw[e1,e2];exact aC
   rintro⟨i,v⟩ _ aB ⟨k,x,sf,hk,dL,aH,aI,bE,cZ,cG,aT⟩;simp only at hk⊢;subst hk;refine AB (λbH=> ?_) λcI=> ?_
   .have aL:k<m.length:=by omega
    obtain⟨q,hq⟩: ∃q,m[k]? =some q:=⟨_,List.getElem?_eq_getElem aL⟩;have bL:=List.mem_of_getElem? hq;obtain⟨g1,g2⟩:=NO m k q hq;obtain⟨q1,q2,q3⟩:=bF q bL;have aF:=aR aT;obtain⟨bb,hb⟩:=aF.Ep (by omega);have c1:=aF.cell hb g1;have c2:=aF.cell hb g2;rw[add_eq,Nat.zero_add]at c1 c2;rw[hb];simp only[AG,add_eq,Nat.zero_add,Int.toNat_natCast,Nat.add_zero];refine⟨⟨by omega,by omega⟩,q.1,c1,q.2,c2,?_⟩;refine AO aT λaA bU b3 _=>Fp b3 (by rfl) (by simp[Value.oneCell']) λa3 a8=> ?_;refine⟨q.1,a8.Af rfl,?_⟩;have a9:=Sat.Ol (Hy E b {V with rf:=V.rf.tail,fl:=V.fl.drop (cnt V.rel page x).toNat} {g with sr:=sr,sf:=sf,f:=Mw V g page x}) a8;have bN:x<=q.1:=cG q (List.mem_of_getElem? (i:=0) (by grind));have aE: ∀n,x<=n->n<q.1-> ¬mem V.rel n:=by
     intro n h1 h2 hn;obtain⟨z,hz,h3,h4⟩:=(aD n).2 ⟨hn,by omega,by omega⟩;obtain⟨j,hj⟩:=List.mem_iff_getElem?.1 hz;rcases Nat.lt_trichotomy j k with e|e|e
     .have:=cZ z (List.mem_of_getElem? (i:=j) (by grind));omega
     .grind
     .have:=O.lt e hq hj;omega
    have ec:cnt V.rel page q.1=cnt V.rel page x:=Xi U6 aH bN aE;have ef:Mw V g page q.1=Mw V g page x:=Ph bN λp h1 h2 h3 _=>absurd h3 (aE p h1 h2);refine AI (λst w'=>q.1<=st.1/\st.1<=q.2/\(cnt V.rel page st.1).toNat<=V.fl.length/\ ∃sf,
      Sat (Hy E b {V with rf:=V.rf.tail,fl:=V.fl.drop (cnt V.rel page st.1).toNat} {g with sr:=sr,sf:=sf,f:=Mw V g page st.1}++Cells aA E.AE [.int .u64 q.1,.int .u64 q.2]::Row E.AE 2 s' (flat m)::Rs) w')
     (λst _=>(q.2-st.1).toNat) ⟨Int.le_refl _,by omega,by grind,sf,by rw[ec,ef];exact a9⟩ ?_
    rintro⟨p,v⟩ _ J ⟨bI,cT,aY,sf,C⟩;simp only at bI cT aY C⊢;refine⟨q.2,(C.front 10 rfl).Af rfl,AB (λbH=> ?_) λcI=> ?_⟩
    .have bJ:mem V.rel p:=((aD p).1 ⟨q,bL,bI,bH⟩).1;have cF:=(JI U6 (a:=page) (k:=p) (by omega)).1 bJ;have dB:=cE p;refine⟨sf,C.Af rfl,Bc (λhz=> ?_) λdM=> ?_⟩
     .have d:V.fl.drop (cnt V.rel page p).toNat=[]:=by
       have:(ints .u64 (V.fl.drop (cnt V.rel page p).toNat)).length=sf.len:=(C.front 6 rfl).MD.1;have h0:(ints .u64 (V.fl.drop (cnt V.rel page p).toNat)).length=0:=by omega
       rw[List.drop_eq_nil_iff];simp[ints]at h0;omega
      exact⟨sf,Sat.Pg _ (Sat.Pg _ (aP p (by omega) (by omega) aY (.inr d) sf _ J C))⟩
     .refine Xg (o:=2) (C.EM 5 rfl) rfl (λd=> ?_) λy r hy aJ b4=> ?_
      .exfalso;have:=(C.front 6 rfl).MD.1;have aW:V.fl.drop (cnt V.rel page p).toNat=[]:=d;rw[aW]at this;simp[ints]at this;omega
      .have bO:V.fl.drop (cnt V.rel page p).toNat=y::r:=hy;have dA:(cnt V.rel page p).toNat<V.fl.length:=by grind
       have cV:r=V.fl.drop (cnt V.rel page (p+1)).toNat:=by
        rw[cF,show(cnt V.rel page p+1).toNat=(cnt V.rel page p).toNat+1 by omega,<-List.drop_drop,bO];rfl
       have cH:HL V page p=y:=by
        unfold HL;rw[List.getD_eq_getElem?_getD,<-Nat.add_zero (cnt V.rel page p).toNat,<-List.getElem?_drop,bO];rfl
       have bA:Sat (Hy E b {V with rf:=V.rf.tail,fl:=V.fl.drop (cnt V.rel page (p+1)).toNat} {g with sr:=sr,sf:=⟨GN sf.base sf.cap 1 1,sf.len-1,sf.cap-1⟩,f:=Mw V g page p}++Cells aA E.AE [.int .u64 q.1,.int .u64 q.2]::Row E.AE 2 s' (flat m)::Rs) aJ:=by
        rw[<-cV];exact Sat.S5 5 b4 (by simp[Hy])
       rw[AM (n:=p+1)];refine Gq (λbP=> ?_) λbP=> ?_
       .refine⟨some g.fb,bA.Af rfl,cC (bA.front 7 rfl) λa4 b5=> ?_⟩;refine⟨⟨by omega,by omega,by omega,⟨GN sf.base sf.cap 1 1,sf.len-1,sf.cap-1⟩,?_⟩,by omega⟩;have b6:=Sat.back 7 b5 (by simp[Hy]);have:Xf {g with f:=Mw V g page (p+1)}=λi=>if i=p then some (.int .u64 y)else Xf {g with f:=Mw V g page p} i:=by
         funext i;show(Mw V g page (p+1) i).map _=if i=p then _ else(Mw V g page p i).map _
         rw[k7 (by omega) bJ i,cH,if_neg bP]
         grind
        show Sat (Hy E b _ {g with sr:=sr,sf:=_,f:=Mw V g page (p+1)}++_) a4;unfold Hy;have e:Xf {g with sr:=sr,sf:=⟨GN sf.base sf.cap 1 1,sf.len-1,sf.cap-1⟩,f:=Mw V g page (p+1)}=Xf {g with f:=Mw V g page (p+1)}:=rfl;rw[e,this];exact b6
       .refine⟨⟨by omega,by omega,by omega,⟨GN sf.base sf.cap 1 1,sf.len-1,sf.cap-1⟩,?_⟩,by omega⟩;have:Mw V g page (p+1)=Mw V g page p:=Ph (by omega) λp' h1 h2 h3 _=>by grind
        grind
    .have cU:p=q.2:=by omega
     subst cU;have ei:i64 ((k:Int)+1)=((k+1:Nat):Int):=by rw[AF];omega
     refine⟨⟨k+1,q.2,sf,ei,by omega,by omega,by omega,aY,λz hz=> ?_,λz hz=> ?_,Sat.Pg _ C⟩,by omega⟩
     .rw[List.take_succ_eq_append_getElem aL,List.mem_append,List.mem_singleton]at hz
      grind
     .obtain⟨j,hj⟩:=List.mem_iff_getElem?.1 hz;rw[List.getElem?_drop]at hj;have:=O.lt (i:=k) (j:=k+1+j) (by omega) hq hj;omega
   .have dK:k=m.length:=by omega
    refine⟨sf,Sat.Pg _ (aP x aH aI bE (.inl λn h1 h2 hn=> ?_) sf _ aB aT)⟩;obtain⟨z,hz,h3,h4⟩:=(aD n).2 ⟨hn,by omega,h2⟩
    grind
  .rintro _ _ bT ⟨sf,b1⟩;have c9:OB=4398046511104:=rfl;refine uH hE (b1.EM 2 rfl) (o:=7) rfl rfl h0 (by omega) (by omega) λbV c5 b7=> ?_;have b8:=Sat.S5 2 b7 (by simp[Hy]);refine kH hE (b8.EM 1 rfl) (o:=5) rfl rfl h0 (by omega) (by omega) λa5 c4 b9=> ?_;have cA:=Sat.S5 1 b9 (by simp[Hy]);refine cO hr hl hd cW a5 (Sat.Ru.2 ⟨{g with sr:=sr,sf:=sf,s2:=c4,s3:=c5,f:=Mw V g page (page+AA)},?_,cA⟩);have ma: ∀p,mem (Dl V.ready page (page+AA)) p↔mem V.ready p∨(page<=p/\p<page+AA):=λp=>ER Pj (by omega) h0 (by omega) p;have mc: ∀p,mem (Dk V.rel page (page+AA)) p↔mem V.rel p/\ ¬(page<=p/\p<page+AA):=λp=>Ek (by omega);refine⟨λp i cJ cK=> ?_,λp hp=>(ma p).2 (.inl (hI.pg p hp)),λp hp=> ?_,λp hp=> ?_,λp hp=>hI.el p ((mc p).1 hp).1,λp hp hq=> ?_,hI.Ju,hI.cX⟩
   .show(if page<=p/\p<page+AA/\Ms V.rel p=true then HL V page p else V.wd p i)=match g.G p with|some x=>x.2 i|none=>(Mw V g page (page+AA) p).getD 0
    by_cases e:page<=p/\p<page+AA/\Ms V.rel p=true
    .rw[if_pos e];have bM:=CJ.1 e.2.2;have:g.G p=none:=by
      cases hG:g.G p with
      | none=>rfl
      | some x=>exact absurd bM (hI.re p (hI.pg p (by grind)))
     rw[this];unfold Mw
     grind
    .rw[if_neg e,hI.wd p i cJ cK];unfold wordOf Mw
     grind
   .have aX:Mw V g page (page+AA) p≠none:=hp;unfold Mw at aX;by_cases e:page<=p/\p<page+AA/\Ms V.rel p=true
    .exact(ma p).2 (.inr ⟨e.1,e.2.1⟩)
    .rw[if_neg e]at aX;exact(ma p).2 (.inl (hI.fi p aX))
   .rcases(ma p).1 hp with h|h
    .exact hI.rl p h
    .exact aV p h.1 h.2
   .rcases(ma p).1 hp with h|h
    .exact hI.re p h ((mc p).1 hq).1
    .exact((mc p).1 hq).2 h
 refine U3 H8 (λd=>AP rfl (aG (λr h=>by grind) g.sr w8 ?_)) λx r hx w7 H7=> ?_
 .have:{V with rf:=V.rf.tail}=V:=by
   have:V.rf.tail=V.rf:=by grind
   rw[this]
  show Sat (Hy E b {V with rf:=V.rf.tail} {g with sr:=g.sr}++Rs) w8;rw[this];exact H8
 .refine AS (λe=>cN hr hl hd r (by rw[hx,e]) w7 (Sat.Ru.2 ⟨{g with sr:=⟨GN g.sr.base g.sr.cap 1 1,g.sr.len-1,g.sr.cap-1⟩},⟨hI.wd,hI.pg,hI.fi,hI.rl,hI.el,hI.re,hI.Ju,hI.cX⟩,H7⟩)) λe=>aG (λr' h=> ?_) ⟨GN g.sr.base g.sr.cap 1 1,g.sr.len-1,g.sr.cap-1⟩ w7 ?_
  .grind
  .rw[hx];exact H7
end
section
variable{n:Nat}{G:Pgs}{Rs:List Pr}{p:Int}
end
section
variable{E:Env}{b:Nat}{V:VS}{Rs:List Pr}{w:World}
variable(hE:EnvS E)
include hE
end
def OC(pl:List Int)(rf:List Bool)(fl:List Int):VS:=⟨[],[],[],λ_ _=>0,pl,rf,fl⟩
section
variable{E:Env}{b:Nat}{V:VS}{Rs:List Pr}{w:World}
variable(hE:EnvS E)
include hE
end
section
variable{E:Env}{Ps Rs:List Pr}{w:World}
def RK(i:Nat){K:Nat->World->Prop}(H:Sat Ps w)(d:Ps[i]? =some cB)(v: ∀b w',Sat (Ps.set i (DY b .u64 λ_=>none)) w'->K b w'):AL (.map #[] 0) w K:=
 Vp (H.front i d).tail .u64 λb w' j _=>v b w' (Sat.back i j (List.getElem?_eq_some_iff.1 d).1)
def Xj{t:Nat}{zs:Array Value}{bytes:Nat}{a:AX}{vs:List Value}{K:AX->World->Prop}(H:Sat Rs w)(hz:zs.size=1)(d: ∀w',Sat Rs w'->rowAt w' a.base a.len vs)(hl:vs.length=a.len)(hlen:a.len<=1099511627776)(J:bytes<=8)
  (ho: ∀v∈vs,v.oneCell'=true)(y: ∀s' w',Sat (Js s' vs::Rs) w'->K s' w'):
  CND (a.base.isNone) (K ⟨none,0,0⟩ w) (AL (.cells ⟨[]⟩ t) w λb1 j=>APP t 1 bytes zs ⟨(some (Addr.mk b1 0 none)),0,0⟩ a j λs3 w4=>K s3 w4):=by
 refine AS (λe=> ?_) λe=> ?_
 .have hb:a.base=none:=by simpa using e
  have:=d w H;rw[hb]at this;have hv:vs=[]:=this;rw[hv]at y;exact y _ w H.oB
 .refine BV λj C aC O=> ?_;have T:Sat (Row t 1 ⟨some ⟨w.heap.size,0,none⟩,0,0⟩ []::Rs) j:=H.new (P:=Row t 1 ⟨some ⟨w.heap.size,0,none⟩,0,0⟩ []) (D:=PN ⟨some ⟨w.heap.size,0,none⟩,0,0⟩) O
   ⟨λ_=>Iff.rfl,Vk C rfl (Nat.zero_le _) (by decide)⟩ λk hk=>by obtain⟨x,hx,rfl⟩:=hk;grind
  have hm:(0+a.len)*bytes<=1099511627776*8:=Nat.mul_le_mul (by omega) J;refine FU T hz (by simpa using d j T.tail) (by omega) ho (by grind) (by grind) λs' w' Y _=>y s' w' ?_;exact Sat.oA Y
def U7(i:Nat){a:AX}{l:List Int}{K:AX->World->Prop}(H:Sat Ps w)(j:Ps[i]? =some cB)(d: ∀w',Sat (Ps.eraseIdx i) w'->rowAt w' a.base a.len (ints .u64 l))(O:l.length=a.len)(hlen:a.len<=1099511627776)
  (J: ∀s' w',Sat (Ps.set i (Js s' (ints .u64 l))) w'->K s' w'):F.Dg E a K w:=by
 unfold F.Dg;exact Xj (H.front i j).tail rfl d (by simpa[ints]using O) hlen (Nat.le_refl _) (by intro v y;simp[ints]at y;obtain⟨x,_,rfl⟩:=y;rfl) λs' w' C=>J s' w' (Sat.back i C (List.getElem?_eq_some_iff.1 j).1)
def Zv(i:Nat){a:AX}{l:List Bool}{K:AX->World->Prop}(H:Sat Ps w)(j:Ps[i]? =some cB)(d: ∀w',Sat (Ps.eraseIdx i) w'->rowAt w' a.base a.len (BB l))(O:l.length=a.len)(hlen:a.len<=1099511627776)
  (J: ∀s' w',Sat (Ps.set i (Js s' (BB l))) w'->K s' w'):F.Eh E a K w:=by
 unfold F.Eh;exact Xj (H.front i j).tail rfl d (by simpa[BB]using O) hlen (by decide) (by intro v y;simp[BB]at y;rcases y with ⟨_,rfl⟩|⟨_,rfl⟩<;>rfl) λs' w' C=>J s' w' (Sat.back i C (List.getElem?_eq_some_iff.1 j).1)
def cZ{b t1 b1 t2 m1 d:Nat}{r1 r2 j:AX}{vs:List Value}{pl:List Int}{rf:List Bool}{fl:List Int}(v: ∀x∈pl,0<=x/\x<18446744073709551616)
  (H:Sat (Cells b t1 [FJ r1,FJ r2,FJ j,.slice none 0 0,.int .u64 0,.slice none 0 0,.int .u64 0,.slice none 0 0,.int .u64 0,.map (some m1),.map (some d)]::Cells b1 t2 vs::
   Js r1 (ints .u64 pl)::Js r2 (BB rf)::Js j (ints .u64 fl)::DY m1 .u64 (λ_=>none)::DY d .u64 (λ_=>none)::Rs) w):Sat (Co E b (OC pl rf fl)::Rs) w:=by
 have H1:=(H.perm (.swap _ _ _)).tail;have y:=(Sat.Ol [Cells b t1 _,Js r1 _,Js r2 _,Js j _,DY m1 _ _,DY d _ _] (H1.xD 1024));have C:=((y.Zk (E:=E)).perm (.swap _ _ _));have J:=((C.Zk (E:=E)).perm (.swap _ _ _));have K:=((J.Zk (E:=E)).perm (.swap _ _ _));exact Sat.Ru.2 ⟨⟨r1,r2,j,⟨none,0,0⟩,⟨none,0,0⟩,⟨none,0,0⟩,m1,d,λ_=>none,λ_=>none⟩,
  ⟨λ_ _ _ _=>rfl,λ_ h=>absurd rfl h,λ_ h=>absurd rfl h,λ_ h=>h,λ_ h=>h,λp h=>absurd h (CM p),λp h=>absurd h (CM p),v⟩,K⟩
def fR(H:Sat Rs w){a0 a1 a2:AX}{pl:List Int}{rf:List Bool}{fl:List Int}(j: ∀x∈pl,0<=x/\x<18446744073709551616)
  (h0: ∀w',Sat Rs w'->rowAt w' a0.base a0.len (ints .u64 pl))(l0:pl.length=a0.len)(k0:a0.len<=1099511627776)
  (h1: ∀w',Sat Rs w'->rowAt w' a1.base a1.len (BB rf))(l1:rf.length=a1.len)(k1:a1.len<=1099511627776)
  (h2: ∀w',Sat Rs w'->rowAt w' a2.base a2.len (ints .u64 fl))(l2:fl.length=a2.len)(k2:a2.len<=1099511627776)
  {K:Option Addr->World->Prop}(J: ∀b w',Sat (Co E b (OC pl rf fl)::Rs) w'->K (some ⟨b,0,none⟩) w'):F.JQ E a0 a1 a2 K w:=by
 unfold F.JQ T0.JQ;refine AO H.emp.emp.emp.emp.emp λb1 w2 C _=> ?_;have v:=C.drew;clear C;have t5: ∀{P0 O T Y P4:Pr} {w'},Sat (P0::O::T::Y::P4::Rs) w'->Sat Rs w':=λh=>h.tail.tail.tail.tail.tail;refine⟨a0,v.Af rfl,a1,v.cell rfl,a2,v.cell rfl,?_⟩
 repeat' first
  | (exact Sat.cell (by assumption) (by rfl))
  | (exact Sat.Af (by assumption) (by rfl))
  | (refine U7 1 (a:=a0) (l:=pl) (by assumption) (by rfl) (by intro w' h;exact h0 w' (t5 h)) l0 k0 λs' w' d=> ?_)
  | (refine Zv 2 (a:=a1) (l:=rf) (by assumption) (by rfl) (by intro w' h;exact h1 w' (t5 h)) l1 k1 λs' w' d=> ?_)
  | (refine U7 3 (a:=a2) (l:=fl) (by assumption) (by rfl) (by intro w' h;exact h2 w' (t5 h)) l2 k2 λs' w' d=> ?_)
  | (refine RK 4 (by assumption) (by rfl) λy w' d=> ?_)
  | (refine RK 5 (by assumption) (by rfl) λy w' d=> ?_)
  | (refine AO (by assumption) λy w' d _=> ?_;exact J _ _ (cZ j d))
  | (refine AO (by assumption) λy w' d _=> ?_;exact J _ _ (cZ j (d.perm (.cons _ (.cons _ (.cons _ (.cons _ (.cons _ (.swap _ _ _)))))))))
  | (refine And.intro ?_ ?_)
def dA: ∀(n:Nat) {l m k:Iv},Ok l->Ok m->Ok k->(∀p,mem m p->mem l p)->(∀p,mem k p->mem l p)->(∀p,mem m p-> ¬mem k p)-> ∀a:Int,cnt m a (a+n)+cnt k a (a+n)<=cnt l a (a+n)
 | 0,l,m,k,hl,hm,hk,_,_,_,a=>by
  have h1:=FF hm (show a<=a+(0:Nat) by omega);have h2:=FF hk (show a<=a+(0:Nat) by omega);have d:=DM l a (a+(0:Nat));omega
 | n+1,l,m,k,hl,hm,hk,h1,h2,d,a=>by
  have v:=dA n hl hm hk h1 h2 d a;have e:a+((n+1:Nat):Int)=(a+n)+1:=by omega
  rw[e];have sl:=JI hl (a:=a) (k:=a+n) (by omega);have sm:=JI hm (a:=a) (k:=a+n) (by omega);have j:=JI hk (a:=a) (k:=a+n) (by omega);by_cases c1:mem m (a+n)
  .grind
  .have:=sm.2 c1;by_cases c2:mem k (a+n)
   .grind
   .have:=j.2 c2;by_cases c3:mem l (a+n)
    .grind
    grind
structure UY(V:VS):Prop where
 LM:Ok V.laid
 Pj:Ok V.ready
 U6:Ok V.rel
 rl: ∀p,mem V.ready p->mem V.laid p
 el: ∀p,mem V.rel p->mem V.laid p
 re: ∀p,mem V.ready p-> ¬mem V.rel p
 Ju: ∀p,mem V.laid p->512<=p/\p<34359738368
 clean: ∀p i,0<=i->i<1024-> ¬mem V.ready p->V.wd p i=0
 u6:Ig V.ready+Ig V.rel<=Ig V.laid
def Sat.vok{b:Nat}{V:VS}(H:Sat (Co E b V::Rs) w):UY V:=by
 obtain⟨g,hI,H⟩:=Sat.Ru.1 H;obtain⟨LM,Pj,U6⟩:=TW H;refine⟨LM,Pj,U6,hI.rl,hI.el,hI.re,hI.Ju,λp i h0 h1 d=> ?_,?_⟩
 .rw[hI.wd p i h0 h1];unfold wordOf;cases hG:g.G p with
  | some x=>exact absurd (hI.pg p (by grind)) d
  | none=>
   cases hf:g.f p with
   | none=>rfl
   | some x=>exact absurd (hI.fi p (by grind)) d
 .have h1:=Nq (Ok.jI LM) (a:=0) (b:=0+(34359738368:Nat)) λn d=>by have:=hI.Ju n d;omega
  have h2:=Nq (Ok.jI Pj) (a:=0) (b:=0+(34359738368:Nat)) λn d=>by have:=hI.Ju n (hI.rl n d);omega
  have j:=Nq (Ok.jI U6) (a:=0) (b:=0+(34359738368:Nat)) λn d=>by have:=hI.Ju n (hI.el n d);omega
  have:=dA 34359738368 LM Pj U6 hI.rl hI.el hI.re 0;omega
end
section
variable{E:Env}{b:Nat}{V:VS}{Rs:List Pr}{w:World}
variable(hE:EnvS E)
include hE
end
end Go.Sh

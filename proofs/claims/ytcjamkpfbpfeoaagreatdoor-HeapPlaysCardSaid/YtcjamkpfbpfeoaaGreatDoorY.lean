/- The address space does what its pages and words say. No further condition. -/
import Derived.Test.YtcjamkpfbpfeoaaGreatDoorS
import Derived.Test.YtcjamkpfbpfeoaaGreatDoorA
import Derived.Test.YtcjamkpfbpfeoaaGreatDoorM
import Derived.Test.YtcjamkpfbpfeoaaGreatDoorV
set_option linter.all false
set_option maxRecDepth 4000
set_option maxHeartbeats 1000000
namespace Go.Sh
structure VS where
  laid:Iv
  ready:Iv
  rel:Iv
  wd:Int->Int->Int
  pl:List Int
  rf:List Bool
  fl:List Int
structure VG where
  sp:AZ
  sr:AZ
  sf:AZ
  s1:AZ
  s2:AZ
  s3:AZ
  fb:Nat
  pb:Nat
  G:xH
  f:Int->Option Int
def Ie(s:AZ):Value:=.slice s.base s.len s.cap
def eJ(V:VS)(g:VG):List Value:=
  [Ie g.sp,Ie g.sr,Ie g.sf,Ie g.s1,.int .u64 (DE V.laid),Ie g.s2,.int .u64 (DE V.ready),Ie g.s3,.int .u64 (DE V.rel),.map (some g.fb),.map (some g.pb)]
def Kd(g:VG):Int->Option Value:=fun p=>(g.f p).map fun n=>.int .u64 n
def KA(g:VG):Int->Option Value:=fun p=>(g.G p).map fun x=>.pointer (some ⟨x.1,0,none⟩)
def EK(E:Env)(b:Nat)(V:VS)(g:VG):List Pr:=
  [Cells b 0 (eJ V g),KN E g.s1 V.laid,KN E g.s2 V.ready,KN E g.s3 V.rel,IJ g.sp (ints .u64 V.pl),IJ g.sr (A6 V.rf),IJ g.sf (ints .u64 V.fl),
   Ef g.fb .u64 (Kd g),Ef g.pb .u64 (KA g),KM 1024 g.G]
def wordOf(g:VG)(p i:Int):Int:=match g.G p with
  | some x=>x.2 i
  | none=>(g.f p).getD 0
structure Qw(V:VS)(g:VG):Prop where
  wd: ∀p i,0<=i->i<1024->V.wd p i=wordOf g p i
  pg: ∀p,g.G p≠none->mem V.ready p
  fi: ∀p,g.f p≠none->mem V.ready p
  rl: ∀p,mem V.ready p->mem V.laid p
  el: ∀p,mem V.rel p->mem V.laid p
  re: ∀p,mem V.ready p-> ¬mem V.rel p
  Gn: ∀p,mem V.laid p->512<=p/\p<34359738368
  Sg: ∀x∈V.pl,0<=x/\x<18446744073709551616
def BR(E:Env)(b:Nat)(V:VS):Pr:=Ex fun g=>Jv (Qw V g) (Qe (EK E b V g))
section
variable{E:Env}{b:Nat}{V:VS}{Rs:List Pr}{w:World}
theorem Sat.KO:Sat (BR E b V::Rs) w↔ ∃g,Qw V g/\Sat (EK E b V g++Rs) w:=by
  unfold BR;rw[Sat.ex];constructor
  · rintro⟨g,h⟩;obtain⟨h1,d⟩:=Sat.where.1 h;exact⟨g,h1,Sat.star.1 d⟩
  · rintro⟨g,h1,d⟩;exact⟨g,Sat.where.2 ⟨h1,Sat.star.2 d⟩⟩
theorem L5{g:VG}(H:Sat (EK E b V g++Rs) w):Ok V.laid/\Ok V.ready/\Ok V.rel:=
  ⟨(KN.ok (H.front 1 rfl)).1,(KN.ok (H.front 2 rfl)).1,(KN.ok (H.front 3 rfl)).1⟩
theorem Si{g:VG}(H:Sat (EK E b V g++Rs) w){K:Bool->Bool->World->Prop}(h0:V.rf=[]->K false false w)
    (h1: ∀x r,V.rf=x::r-> ∀w',Sat (EK E b {V with rf:=r} {g with sr:=⟨Gp g.sr.base g.sr.cap 1 1,g.sr.len-1,g.sr.cap-1⟩}++Rs) w'->K x true w'):
    F.Fj E (some ⟨b,1,none⟩) K w:=by
  unfold F.Fj;have d:=(H.front 5 rfl).Ky;have c:=H.A2 (o:=1) rfl;simp only[AI];refine⟨g.sr,c,AD (fun T=> ?_) fun O=>h0 ?_⟩
  · cases hr:V.rf with
    | nil=>have:=d.1;rw[hr]at this;simp[A6]at this;omega
    | cons x r=>
      obtain⟨a,C,Y⟩:=(H.front 5 rfl).Lq (j:=0) (v:=.bool x) (by rw[hr];rfl);refine⟨g.sr,c,?_⟩;rw[C];refine⟨⟨by decide,by omega⟩,x,Y,g.sr,c,⟨by decide,by omega⟩,?_⟩;have y:=Sat.back 5 ((H.front 5 rfl).Lr (n:=1) (by omega)) (by simp[EK]);rw[hr]at y;exact El y rfl (by simp[eJ]) fun w' J=>h1 x r hr w' J
  · have:=d.1;have:(A6 V.rf).length=0:=by omega
    simpa[A6]using this
theorem VJ{o:Nat}{s:AZ}{l:List Int}{rest:List Pr}{vs:List Value}(H:Sat (Cells b 0 vs::IJ s (ints .u64 l)::rest) w)(y:vs[o]? =some (Ie s)){K:Int->Bool->World->Prop}
    (h0:l=[]->K 0 false w)
    (h1: ∀x r,l=x::r-> ∀w',Sat (Cells b 0 (vs.set o (Ie ⟨Gp s.base s.cap 1 1,s.len-1,s.cap-1⟩))::IJ ⟨Gp s.base s.cap 1 1,s.len-1,s.cap-1⟩ (ints .u64 r)::rest) w'->K x true w'):
    F.DW E (some ⟨b,o,none⟩) K w:=by
  unfold F.DW;have Y:=(H.front 1 rfl).Ky;have c:=H.A2 y;simp only[AI];refine⟨s,c,AD (fun T=> ?_) fun O=>h0 ?_⟩
  · cases hr:l with
    | nil=>have:=Y.1;rw[hr]at this;simp[ints]at this;omega
    | cons x r=>
      obtain⟨a,J,hc⟩:=(H.front 1 rfl).Lq (j:=0) (v:=.int .u64 x) (by rw[hr];rfl);refine⟨s,c,?_⟩;rw[J];refine⟨⟨by decide,by omega⟩,x,hc,s,c,⟨by decide,by omega⟩,?_⟩;have d:=Sat.Ng 0 (((H.front 1 rfl).Lr (n:=1) (by omega)).perm (.swap _ _ _)) (by simp);rw[hr]at d;exact El d rfl (List.getElem?_eq_some_iff.1 y).1 fun w' C=>h1 x r hr w' C
  · have:(ints .u64 l).length=0:=by omega
    simpa[ints]using this
def PK(l:Iv)(page AB:Int):Prop:=page %512=0/\page≠0/\page+AB<=34359738368/\cnt l page (page+AB)=0
structure KP(l:Iv)(frm AB at_:Int):Prop where
  mul:at_ %512=0
  low:512<=at_
  fr:frm<=at_
  free: ∀m,at_<=m->m<at_+AB-> ¬mem l m
  first: ∀a,a %512=0->512<=a->frm<=a->a<at_-> ∃m,a<=m/\m<a+AB/\mem l m
variable(hE:EnvS E)
include hE
theorem Sj{g:VG}(H:Sat (EK E b V g++Rs) w){page AB:Int}(h0:0<=page)(h1:page<18446744073709551616)(O:0<=AB)(J:AB<=134217728){K:Bool->World->Prop}
    (d: ∀r w',(r=true↔PK V.laid page AB)->Ext AN w w'->K r w'):F.D7 E (some ⟨b,0,none⟩) page AB K w:=by
  unfold F.D7 T0.D7;have j:=Ext.refl AN w;have hm:Int.tmod page 512=page %512:=Int.tmod_eq_emod_of_nonneg h0;rw[hm];refine⟨by decide,BW (fun m0=>Cz (fun z=>AD (fun hle=> ?_) fun v=> ?_) fun z=> ?_) fun m0=> ?_⟩
  · rw[AM (n:=34359738368-page)];refine AD (fun C=> ?_) fun v=> ?_
    · rw[AM (n:=page+AB)];simp only[AI,add_eq,Nat.zero_add];refine No hE H (o:=3) rfl rfl h0 (by omega) (by omega) fun w' y=>d _ w' ?_ y;unfold PK;simp only[beq_iff_eq];exact⟨fun h=>⟨m0,z,by omega,h⟩,fun h=>h.2.2.2⟩
    · refine d false w ⟨fun h=>(by cases h),fun h=> ?_⟩ j;have:=h.2.2.1;omega
  · refine d false w ⟨fun h=>(by cases h),fun h=> ?_⟩ j;have:=h.2.2.1;omega
  · exact d false w ⟨fun h=>(by cases h),fun h=>absurd z h.2.1⟩ j
  · exact d false w ⟨fun h=>(by cases h),fun h=>absurd h.1 m0⟩ j
theorem XH{g:VG}(hI:Qw V g)(H:Sat (EK E b V g++Rs) w){y AB:Int}(h0:0<=y)(h1:y<18446744073709551616)(p0:0<AB)(p1:AB<=134217728){K:Int->Bool->World->Prop}
    (a0:34359738368<y->K 0 false w)
    (aV:y<=34359738368-> ∀at_ r w',KP V.laid y AB at_->at_<=34359738880->(r=true↔at_+AB<=34359738368)->Ext AN w w'->K at_ r w'):
    F.Dc E (some ⟨b,0,none⟩) y AB K w:=by
  unfold F.Dc T0.Dc;refine AD a0 fun hle=>⟨by decide,AU fun bK aN=> ?_⟩;have aR: ∀n:Int,0<=n->n<=34359738368->u64 (u64 (Int.tdiv (u64 (u64 (n+512)-1)) 512)*512)=(n+511)/512*512:=by
    intro n h0 h1;rw[AM (n:=n+512),AM (n:=n+512-1),Int.tdiv_eq_ediv_of_nonneg (by omega),AM (n:=(n+512-1)/512),AM];rw[show n+512-1=n+511 by omega]
  rw[aR y h0 (by omega),NW]at aN;simp only[AI,add_eq,Nat.zero_add];have hr:=(H.setAt (o:=3) rfl rfl).row;have hlen:=hr.len;have hsm:=hr.small;have bA:Lz=4398046511104:=rfl;refine AX (fun st w'=>Ext AN w w'/\KP V.laid y AB st.1/\st.1<=34359738880) ?_ ?_
  · unfold F.EN;simp only[AI];refine⟨g.s1,hr.c0,AK (fun st w'=> ∃k:Nat,st.2.1=(k:Int)/\k<=V.laid.length/\Ext AN w w'/\st.1 %512=0/\512<=st.1/\y<=st.1/\st.1<=34359738880/\(∀q∈V.laid.take k,q.2<=st.1)/\
      ∀a,a %512=0->512<=a->y<=a->a<st.1-> ∃m,a<=m/\m<a+AB/\mem V.laid m) (fun st _=>(V.laid.length-st.2.1).toNat)
      ⟨0,rfl,Nat.zero_le _,Ext.refl _ _,by simp only;omega,by simp only;omega,by simp only;omega,by simp only;omega,by simp,fun a h1 h2 h3 h4=>by simp only at h4;omega⟩ ?_⟩
    rintro⟨at_,i',v⟩ _ w9 ⟨k,hk,bQ,aD,m0,m1,m2,m3,C,d⟩;simp only at hk m0 m1 m2 m3 C d⊢;subst hk;refine AD (fun bO=> ?_) fun bE=>⟨aD,⟨m0,m1,m2,fun m h1 h2 hm=> ?_,d⟩,m3⟩
    · have aK:k<V.laid.length:=by omega
      obtain⟨q,hq⟩: ∃q,V.laid[k]? =some q:=⟨_,List.getElem?_eq_getElem aK⟩;obtain⟨g1,g2⟩:=Ly V.laid k q hq;have bN:=hr.ok.get hq;have bL:=hI.Gn (q.2-1) ⟨q,List.mem_of_getElem? hq,by omega,by omega⟩;have aB:=(hr.own.ext aD fun b hb f=>f);obtain⟨bb,hb⟩:=aB.Fe (by omega);rw[hb];simp only[AI,add_eq,Nat.zero_add,Int.toNat_natCast,Nat.add_zero];have c1:=aB.cell hb g1;have c2:=aB.cell hb g2;rw[add_eq,Nat.zero_add]at c1 c2;refine⟨⟨by omega,by omega⟩,q.1,c1,q.2,c2,?_⟩;refine Ad (Sat.start w9) fun aQ bM a2 bB=>Jc a2 (by rfl) (by simp[Value.oneCell']) fun aJ O=> ?_;have aG:Ext AN w aJ:=aD.trans' (O.MS 1 rfl);have ei:i64 ((k:Int)+1)=((k+1:Nat):Int):=by rw[AH];omega
      have T: ∀x,q.2<=x->(∀p∈V.laid.take k,p.2<=x)-> ∀p∈V.laid.take (k+1),p.2<=x:=by
        intro x h1 h2 p hp;rw[List.take_succ_eq_append_getElem aK,List.mem_append,List.mem_singleton]at hp;rcases hp with hp|rfl
        · exact h2 p hp
        · have:V.laid[k]=q:=by rw[List.getElem?_eq_getElem aK]at hq;exact Option.some.inj hq
          rw[this];exact h1
      refine⟨q.2,O.A2 rfl,AD (fun hle=>⟨⟨k+1,ei,by omega,aG,m0,m1,m2,m3,T _ hle C,d⟩,by simp only[ei];omega⟩) fun bC=> ?_⟩;have aA: ∀w',Sat [Cells aQ E.AF [.int .u64 q.1,.int .u64 q.2],Old w9] w'-> ¬(at_<=q.1/\AB<=q.1-at_)-> ∀(nx:Int->Prop),
          (∀a,(a %512=0/\512<=a/\y<=a/\a<=34359738880/\(∀p∈V.laid.take (k+1),p.2<=a)/\(∀Y,Y %512=0->512<=Y->y<=Y->Y<a-> ∃m,Y<=m/\m<Y+AB/\mem V.laid m))->Ext AN w w'->nx a)->
          ∃aO:Int,w'.cell? ⟨aQ,1,none⟩=some (.int .u64 aO)/\512≠(0:Int)/\Gc (u64 ((u64 (Int.tdiv (u64 ((u64 (aO+512))-1)) 512))*512):Int) fun aH=>nx aH:=by
        intro w' H' bJ nx aY;refine⟨q.2,H'.A2 rfl,by decide,AU fun a ha=> ?_⟩;rw[aR q.2 (by omega) (by omega)]at ha;refine aY a ⟨by omega,by omega,by omega,by omega,T a (by omega) fun p hp=>by have:=C p hp;omega,fun Y b1 b2 b3 b4=> ?_⟩ (aD.trans' (H'.MS 1 rfl));by_cases e:Y<at_
        · exact d Y b1 b2 b3 e
        · by_cases e2:q.1<=Y
          · exact⟨Y,by omega,by omega,q,List.mem_of_getElem? hq,e2,by omega⟩
          · exact⟨q.1,by omega,by omega,q,List.mem_of_getElem? hq,by omega,by omega⟩
      refine An ⟨q.1,O.A2 rfl,AD (fun a3=>⟨q.1,O.A2 rfl,?_⟩) fun aP j=>aA aJ O (fun h=>aP h.1) _ fun a h1 h2=> ?_⟩
      · rw[AM (n:=q.1-at_)];refine AD (fun a6=>⟨aG,⟨m0,m1,m2,fun m h1 h2 hm=> ?_,d⟩,m3⟩) fun a5 j=>aA aJ O (fun h=>by omega) _ fun a h1 h2=> ?_
        · obtain⟨p,hp,h3,h4⟩:=hm;obtain⟨i,hi⟩:=List.mem_iff_getElem?.1 hp;rcases Nat.lt_trichotomy i k with h|h|h
          · have:=C p (List.mem_of_getElem? (i:=i) (by rw[List.getElem?_take,if_pos h];exact hi));omega
          · subst h;rw[hq]at hi;cases hi;omega
          · have:=hr.ok.lt h hq hi;omega
        · exact⟨⟨k+1,ei,by omega,h2,h1.1,h1.2.1,h1.2.2.1,h1.2.2.2.1,h1.2.2.2.2.1,h1.2.2.2.2.2⟩,by simp only[ei];omega⟩
      · exact⟨⟨k+1,ei,by omega,h2,h1.1,h1.2.1,h1.2.2.1,h1.2.2.2.1,h1.2.2.2.2.1,h1.2.2.2.2.2⟩,by simp only[ei];omega⟩
    · obtain⟨p,hp,h3,h4⟩:=hm;have:=C p (by rw[List.take_of_length_le (by omega)];exact hp);omega
  · rintro⟨at_,v⟩ _ w4 ⟨aM,J,aF⟩;simp only at J aF⊢;refine Sj hE (H.nothing aM) (by have:=J.low;omega) (by omega) (by omega) p1 fun r w' aW aZ=>aV (by omega) at_ r w' J aF ?_ (aM.trans' aZ);rw[aW];have:=J.mul;have:=J.low;constructor
    · intro h;exact h.2.2.1
    · intro h;exact⟨J.mul,by omega,h,(C4 hr.ok (by omega)).2 J.free⟩
end
end Go.Sh
set_option linter.all false
set_option maxRecDepth 4000
set_option maxHeartbeats 1000000
namespace Go.Sh
def Tr(l:Iv)(hint AB at_:Int):Prop:=hint<=34359738368/\KP l hint AB at_/\at_+AB<=34359738368
def JD(l:Iv)(hint AB:Int):Prop:=34359738368<hint∨ ∃a,KP l hint AB a/\ ¬a+AB<=34359738368
def M8(V:VS)(AB:Int):Prop:= ∀p r,V.pl=p::r-> ¬PK V.laid p AB
def Gv(V:VS)(hint AB at_:Int):Prop:=
 (∃p r,V.pl=p::r/\PK V.laid p AB/\at_=p)∨(M8 V AB/\(Tr V.laid hint AB at_∨(JD V.laid hint AB/\Tr V.laid 0 AB at_)))
def Ke(V:VS)(hint AB:Int):Prop:=M8 V AB/\JD V.laid hint AB/\JD V.laid 0 AB
theorem KP.fits{l:Iv}(h:Ok l){hint AB at_:Int}(j:0<AB)(hp:KP l hint AB at_)(d:at_+AB<=34359738368):PK l at_ AB:=
 ⟨hp.mul,by have:=hp.low;omega,d,(C4 h (by omega)).2 hp.free⟩
theorem Gv.fits{V:VS}(h:Ok V.laid){hint AB at_:Int}(j:0<AB)(v:Gv V hint AB at_):PK V.laid at_ AB:=by
 rcases v with ⟨p,r,_,h1,rfl⟩|⟨_,⟨_,h1,d⟩|⟨_,_,h1,d⟩⟩
 ·exact h1
 ·exact h1.fits h j d
 ·exact h1.fits h j d
section
variable{E:Env}{b:Nat}{V:VS}{Rs:List Pr}{w:World}(hE:EnvS E)
include hE
theorem Ts(H:Sat (BR E b V::Rs) w){hint AB:Int}(h0:0<=hint)(h1:hint<18446744073709551616)(p0:0<=AB)(p1:AB<18446744073709551616){K:Int->Int->World->Prop}
  (aT:(AB=0∨AB %512≠0∨134217728<AB)->K 0 1 w)
  (bB: ¬(AB=0∨AB %512≠0∨134217728<AB)-> ∀r,V.rf=true::r-> ∀w',Sat (BR E b {V with rf:=r}::Rs) w'->K 0 13 w')
  (bQ: ¬(AB=0∨AB %512≠0∨134217728<AB)->(∀r,V.rf≠true::r)->Ke V hint AB-> ∀w',Sat (BR E b {V with rf:=V.rf.tail,pl:=V.pl.tail}::Rs) w'->K 0 13 w')
  (bO: ¬(AB=0∨AB %512≠0∨134217728<AB)->(∀r,V.rf≠true::r)-> ∀at_,Gv V hint AB at_-> ∀w',Sat (BR E b {V with rf:=V.rf.tail,pl:=V.pl.tail,laid:=CX V.laid at_ (at_+AB)}::Rs) w'->K at_ 0 w'):
  F.Dt E (some ⟨b,0,none⟩) hint AB K w:=by
 unfold F.Dt T0.Dt;simp only[Nat.mul_one];rw[Int.tmod_eq_emod_of_nonneg p0];refine An (BW (fun e j=>AV rfl (aT (.inl e))) fun n1=>⟨by decide,Cz (fun e j=>AV rfl (aT (.inr (.inl e)))) fun n2 j=>AD (fun e=>aT (.inr (.inr e))) fun n3=> ?_⟩);have aE: ¬(AB=0∨AB %512≠0∨134217728<AB):=by omega
 obtain⟨g,J,H⟩:=Sat.KO.1 H;obtain⟨aN,bY,bX⟩:=L5 H;simp only[AI,add_eq,Nat.zero_add];have aB:(∀r,V.rf≠true::r)-> ∀(sr:AZ) (w7:World),Sat (EK E b {V with rf:=V.rf.tail} {g with sr:=sr}++Rs) w7->
   F.DW E (some ⟨b,0,none⟩) (fun r9 bA aK=>
    Am (Bool×Unit) (fun a3=>
     CND (bA) (
      F.D7 E (some ⟨b,0,none⟩) r9 AB (fun bD aV=>
      a3 (bD,()) aV
      ) aK
     ) (
      a3 (false,()) aK
     )
    ) fun bE _ aG=>
     AL (.cells ⟨[.int .u64 hint,.int .u64 0]⟩ E.AJ) aG fun aF aJ=>
     Ay (Int×Bool×Int×Unit) (r9,bE.1,0,()) aJ fun d _ C y=>
      CND (decide ((d.2.2.1:Int)<2)) (
       ((0:Int)<=d.2.2.1/\(d.2.2.1:Int)<(2:Nat))/\
       ∃aC:Int,C.cell? (Addr.mk aF (Int.toNat d.2.2.1) none)=some (.int .u64 aC)/\
       CND (!d.2.1) (
        F.Dc E (some ⟨b,0,none⟩) aC AB (fun aX aP aI=>
        y (aX,aP,i64 (d.2.2.1+1),()) aI
        ) C
       ) (
        y (d.1,d.2.1,i64 (d.2.2.1+1),()) C
       )
      ) (
       CND (!d.2.1) (
        K 0 13 C
       ) (
        F.A8 E (some ⟨b,3,none⟩) d.1 (u64 (d.1+AB)) (fun aA=>
        K d.1 0 aA
        ) C
       )
      )) w7:=by
  intro a5 sr w7 H7;have aD: ∀(sp:AZ) (pl:List Int) (aU:Int) (XI:Bool) (aG:World),pl=V.pl.tail->(XI=true->Gv V hint AB aU)->(XI=false->M8 V AB)->
    Sat (EK E b {V with rf:=V.rf.tail,pl:=pl} {g with sr:=sr,sp:=sp}++Rs) aG->
    AL (.cells ⟨[.int .u64 hint,.int .u64 0]⟩ E.AJ) aG fun aF aJ=>
     Ay (Int×Bool×Int×Unit) (aU,XI,0,()) aJ fun d _ C y=>
      CND (decide ((d.2.2.1:Int)<2)) (
       ((0:Int)<=d.2.2.1/\(d.2.2.1:Int)<(2:Nat))/\
       ∃aC:Int,C.cell? (Addr.mk aF (Int.toNat d.2.2.1) none)=some (.int .u64 aC)/\
       CND (!d.2.1) (
        F.Dc E (some ⟨b,0,none⟩) aC AB (fun aX aP aI=>
        y (aX,aP,i64 (d.2.2.1+1),()) aI
        ) C
       ) (
        y (d.1,d.2.1,i64 (d.2.2.1+1),()) C
       )
      ) (
       CND (!d.2.1) (
        K 0 13 C
       ) (
        F.A8 E (some ⟨b,3,none⟩) d.1 (u64 (d.1+AB)) (fun aA=>
        K d.1 0 aA
        ) C
       )
      ):=by
   intro sp pl aU XI aG Y bI bP bR;subst Y;have aR:Qw {V with rf:=V.rf.tail,pl:=V.pl.tail} {g with sr:=sr,sp:=sp}:=⟨J.wd,J.pg,J.fi,J.rl,J.el,J.re,J.Gn,fun x hx=>J.Sg x (List.mem_of_mem_tail hx)⟩;refine Ad bR fun aF aJ bS _=> ?_;refine AK (fun st w'=>0<=st.2.2.1/\st.2.2.1<=2/\Sat (Cells aF E.AJ [.int .u64 hint,.int .u64 0]::(EK E b {V with rf:=V.rf.tail,pl:=V.pl.tail} {g with sr:=sr,sp:=sp}++Rs)) w'/\
    (st.2.1=true->Gv V hint AB st.1)/\(st.2.1=false->M8 V AB/\(1<=st.2.2.1->JD V.laid hint AB)/\(2<=st.2.2.1->JD V.laid 0 AB))) (fun st _=>(2-st.2.2.1).toNat)
    ⟨Int.le_refl _,by show(0:Int)<=2;omega,bS,bI,fun h=>⟨bP h,fun h=>by simp only at h;omega,fun h=>by simp only at h;omega⟩⟩ ?_
   rintro⟨at_,ok,k,v⟩ _ C ⟨k0,k1,T,hc,hn⟩;simp only at k0 k1 T hc hn⊢;refine AD (fun b8=> ?_) fun b0=> ?_
   ·rw[AH (n:=k+1)];refine⟨⟨k0,by omega⟩,if k=0 then hint else 0,?_,?_⟩
    ·by_cases e:k=0
     ·subst e;exact T.A2 rfl
     ·have:k=1:=by omega
      subst this;exact T.A2 rfl
    cases ok with
    | true=>exact Ac rfl ⟨⟨by show 0<=k+1;omega,by show k+1<=2;omega,T,hc,fun h=>by cases h⟩,by show(2-(k+1)).toNat<(2-k).toNat;omega⟩
    | false=>
     obtain⟨n1,n2,n3⟩:=hn rfl;have bH:0<=(if k=0 then hint else 0):=by split<;>omega
     have bK:(if k=0 then hint else 0)<18446744073709551616:=by split<;>omega
     have a2:JD V.laid (if k=0 then hint else 0) AB->(1<=k+1->JD V.laid hint AB)/\(2<=k+1->JD V.laid 0 AB):=by
      intro h;by_cases e:k=0
      ·rw[if_pos e]at h;exact⟨fun _=>h,fun h=>by omega⟩
      ·rw[if_neg e]at h;exact⟨fun _=>n2 (by omega),fun _=>h⟩
     refine AV rfl (XH hE aR T.tail bH bK (by omega) (by omega) (fun a9=> ?_) fun hle a r aI Y b1 hr a8=> ?_)
     ·exact⟨⟨by show 0<=k+1;omega,by show k+1<=2;omega,T,fun h=>(by cases h),fun _=>⟨n1,a2 (.inl a9)⟩⟩,by show(2-(k+1)).toNat<(2-k).toNat;omega⟩
     ·refine⟨⟨by show 0<=k+1;omega,by show k+1<=2;omega,T.nothing a8,fun h=> ?_,fun h=>⟨n1,a2 (.inr ⟨a,Y,fun h2=> ?_⟩)⟩⟩,by show(2-(k+1)).toNat<(2-k).toNat;omega⟩
      ·have aL:=hr.1 h;refine .inr ⟨n1,?_⟩;by_cases e:k=0
       ·rw[if_pos e]at Y hle;exact .inl ⟨hle,Y,aL⟩
       ·rw[if_neg e]at Y hle;exact .inr ⟨n2 (by omega),hle,Y,aL⟩
      ·have h':r=false:=h;rw[hr.2 h2]at h';cases h'
   ·have a0:k=2:=by omega
    subst a0;cases ok with
    | false=>
     obtain⟨n1,n2,n3⟩:=hn rfl;exact AV rfl (bQ aE a5 ⟨n1,n2 (by decide),n3 (by decide)⟩ C (Sat.KO.2 ⟨_,aR,T.tail⟩))
    | true=>
     have aQ:=hc rfl;have aY:=aQ.fits aN (by omega);have hmul:=aY.1;have b2:=aY.2.1;have aM:0<=at_:=by
      rcases aQ with ⟨p,r,h1,_,h2⟩|⟨_,⟨_,h1,_⟩|⟨_,_,h1,_⟩⟩
      ·rw[h2];exact(J.Sg p (by rw[h1];simp)).1
      ·have:=h1.low;omega
      ·have:=h1.low;omega
     have bT:=aY.2.2.1;have bW:Lz=4398046511104:=rfl;rw[AM (n:=at_+AB)];refine Ac rfl (Wv hE T.tail (o:=3) rfl rfl aM (by omega) (by omega) fun aA s' bJ=>bO aE a5 at_ aQ aA (Sat.KO.2 ⟨{g with sr:=sr,sp:=sp,s1:=s'},?_,bJ⟩));have hm: ∀p,mem (CX V.laid at_ (at_+AB)) p↔mem V.laid p∨(at_<=p/\p<at_+AB):=fun p=>Ca aN (by omega) aM (by omega) p;refine⟨J.wd,J.pg,J.fi,fun p hp=>(hm p).2 (.inl (J.rl p hp)),fun p hp=>(hm p).2 (.inl (J.el p hp)),J.re,fun p hp=> ?_,aR.Sg⟩;rcases(hm p).1 hp with h|h
     ·exact J.Gn p h
     ·omega
  refine VJ (o:=0) (H7.DR 3 rfl) rfl (fun O=> ?_) fun x r hx aK bL=> ?_
  ·refine An (Ac rfl fun j=>aD g.sp V.pl 0 false w7 ?_ (fun h=>by cases h) (fun _ p r h=> ?_) H7)
   ·have:V.pl=[]:=O;rw[this];rfl
   ·have:V.pl=[]:=O;rw[this]at h;cases h
  ·have aH:V.pl=x::r:=hx;have a1:Sat (EK E b {V with rf:=V.rf.tail,pl:=r} {g with sr:=sr,sp:=⟨Gp g.sp.base g.sp.cap 1 1,g.sp.len-1,g.sp.cap-1⟩}++Rs) aK:=Sat.Ng 3 bL (by simp[EK]);obtain⟨x0,x1⟩:=J.Sg x (by rw[aH];simp);refine An (AV rfl (Sj hE a1 x0 x1 (by omega) (by omega) fun bM aV aO a4 j=>aD _ r x bM aV (by rw[aH];rfl) (fun h=>.inl ⟨x,r,aH,aO.1 h,rfl⟩) (fun h p r' hp hf=> ?_) (a1.nothing a4)));rw[aH]at hp;cases hp;rw[aO.2 hf]at h;cases h
 refine Si H (fun O=>Ac rfl (aB (fun r h=>by rw[O]at h;cases h) g.sr w ?_)) fun x r hx w7 H7=> ?_
 ·rw[O];have:{V with rf:=[]}=V:=by rw[<-O]
  show Sat (EK E b {V with rf:=[]} {g with sr:=g.sr}++Rs) w;rw[this];exact H
 ·refine AQ (fun e=>bB aE r (by rw[hx,e]) w7 (Sat.KO.2 ⟨{g with sr:=⟨Gp g.sr.base g.sr.cap 1 1,g.sr.len-1,g.sr.cap-1⟩},⟨J.wd,J.pg,J.fi,J.rl,J.el,J.re,J.Gn,J.Sg⟩,H7⟩)) fun e=>aB (fun r' h=> ?_) ⟨Gp g.sr.base g.sr.cap 1 1,g.sr.len-1,g.sr.cap-1⟩ w7 ?_
  ·rw[hx,e]at h;cases h
  ·rw[hx];exact H7
end
end Go.Sh
set_option linter.all false
set_option maxRecDepth 4000
set_option maxHeartbeats 1000000
namespace Go.Sh
theorem VK{p:Int×Int}{a b n:Int}:mem (Iw p a b) n↔(p.1<=n/\n<p.2)/\a<=n/\n<b:=by
 unfold Iw;split
 ·constructor
  ·intro h;exact absurd h (A9 n)
  ·intro h;omega
 ·rw[mem_cons];constructor
  ·rintro(h|h)
   ·simp only at h;omega
   ·exact absurd h (A9 n)
  ·intro h;left;simp only;omega
theorem L6{l:Iv}{a b n:Int}:mem (withinL l a b) n↔mem l n/\a<=n/\n<b:=by
 induction l with
 | nil=>exact⟨fun h=>absurd h (A9 n),fun h=>absurd h.1 (A9 n)⟩
 | cons p r ih=>
  rw[withinL,mem_append,VK,ih,mem_cons];constructor
  ·rintro(h|h)
   ·exact⟨.inl h.1,h.2⟩
   ·exact⟨.inr h.1,h.2⟩
  ·rintro⟨h|h,d⟩
   ·exact .inl ⟨h,d⟩
   ·exact .inr ⟨h,d⟩
theorem Qx{l:Iv}(h:Ok l){a b:Int}(y:a<b):Ok (withinL l a b):=by
 induction l with
 | nil=>exact trivial
 | cons p r ih=>
  rw[withinL,EJ];refine⟨?_,ih h.tail,?_⟩
  ·unfold Iw;split
   ·exact trivial
   ·have:=h.1;have:=h.2.1;have:=h.2.2.1;exact⟨by simp only;omega,by simp only;omega,by simp only;omega,by simp,trivial⟩
  ·intro q d v j;obtain⟨h1,C,O⟩:=M5 h.tail y v j;have hm:mem r v.1:=(L6.1 ⟨v,j,Int.le_refl _,C⟩).1;obtain⟨z,hz,J,K⟩:=hm;have:=h.2.2.2.1 z hz;unfold Iw at d;split at d
   ·cases d
   ·rw[List.mem_singleton]at d;subst d;simp only;omega
def I9(l:Iv)(n:Int):Bool:=l.any fun q=>decide (q.1<=n/\n<q.2)
theorem Az{l:Iv}{n:Int}:I9 l n=true↔mem l n:=by
 unfold I9 mem;simp only[List.any_eq_true,decide_eq_true_iff]
section
variable{E:Env}{b:Nat}{V:VS}{Rs:List Pr}{w:World}
theorem Qy{page AB:Int}(h0:0<=page)(v:0<=AB)(y:AB<18446744073709551616){K:Bool->World->Prop}(d:K (decide (AB≠0/\page+AB<=34359738368)) w):F.Il E page AB K w:=by
 unfold F.Il;refine Cz (fun z=>AD (fun hle=> ?_) fun j=> ?_) fun z=> ?_
 ·rw[AM (n:=34359738368-page)];rwa[show decide (AB<=34359738368-page)=decide (AB≠0/\page+AB<=34359738368)from decide_eq_decide.2 (by omega)]
 ·rwa[show decide (AB≠0/\page+AB<=34359738368)=false from decide_eq_false (by omega)]at d
 ·rwa[show decide (AB≠0/\page+AB<=34359738368)=false from decide_eq_false (by omega)]at d
theorem Qz{t o:Nat}{vs:List Value}{s:AZ}{l:Iv}{rest:List Pr}(H:Sat (Cells b t vs::KN E s l::rest) w)(h1:vs[o+1]? =some (.int .u64 (DE l))){K:Int->World->Prop}(d:K (DE l) w):
  F.Dj E (some ⟨b,o,none⟩) K w:=by
 unfold F.Dj;simp only[AI,add_eq];exact⟨_,H.A2 h1,d⟩
variable(hE:EnvS E)
theorem VL(H:Sat (BR E b V::Rs) w){k:Int}{K:Int->World->Prop}
  (j: ∀w',Ext AN w w'->K (if k=2 then DE V.ready else if k=3 then DE V.rel else if k=1 then DE V.laid-DE V.ready-DE V.rel else 0) w')(hle:DE V.ready+DE V.rel<=DE V.laid):
  F.ED E (some ⟨b,0,none⟩) k K w:=by
 obtain⟨g,O,H⟩:=Sat.KO.1 H;obtain⟨JA,KT,MZ⟩:=L5 H;unfold F.ED T0.ED;simp only[AI,add_eq,Nat.zero_add];refine BW (fun e=>Qz (o:=5) (H.DR 1 rfl) rfl ?_) fun e=>BW (fun d=>Qz (o:=7) (H.DR 2 rfl) rfl ?_) fun d=>BW (fun y=> ?_) fun y=> ?_
 ·have:=j w (Ext.refl _ _);rwa[if_pos e]at this
 ·have:=j w (Ext.refl _ _);rwa[if_neg e,if_pos d]at this
 ·have v:=H.drew;refine Qz (o:=3) v rfl (Qz (o:=5) (v.DR 1 rfl) rfl (Qz (o:=7) (v.DR 2 rfl) rfl (AU fun t C=> ?_)));have J:=Ij KT;have T:=Ij MZ;have Y:=TW JA;rw[AM (n:=DE V.laid-DE V.ready),AM]at C;have:=j w.drew (Ext.drew _ w);rw[if_neg e,if_neg d,if_pos y]at this;rw[C];exact this
 ·have:=j w (Ext.refl _ _);rwa[if_neg e,if_neg d,if_neg y]at this
include hE
theorem VM(H:Sat (BR E b V::Rs) w){x:Int}(h0:0<=x){K:Int->World->Prop}
  (O: ∀w',Ext AN w w'->K (if I9 V.laid x then if I9 V.ready x then 2 else if I9 V.rel x then 3 else 1 else 0) w'):F.EE E (some ⟨b,0,none⟩) x K w:=by
 obtain⟨g,hI,H⟩:=Sat.KO.1 H;unfold F.EE T0.EE;simp only[AI,add_eq,Nat.zero_add];refine Tg hE H (o:=3) rfl rfl h0 fun w1 r1 v d=> ?_;have T:r1=I9 V.laid x:=Bool.eq_iff_iff.2 (v.trans Az.symm);refine F5 (AQ (fun h1=> ?_) fun h1=> ?_)
 ·refine Tg hE ((H.nothing d).DR 1 rfl) (o:=5) rfl rfl h0 fun w2 r2 Y j=> ?_;have e2:r2=I9 V.ready x:=Bool.eq_iff_iff.2 (Y.trans Az.symm);refine AQ (fun y=> ?_) fun y=> ?_
  ·have:=O w2 (d.trans' j);rwa[<-T,h1,if_pos rfl,<-e2,y,if_pos rfl]at this
  ·refine Tg hE (((H.nothing d).nothing j).DR 2 rfl) (o:=7) rfl rfl h0 fun w3 r3 C J=> ?_;have e3:r3=I9 V.rel x:=Bool.eq_iff_iff.2 (C.trans Az.symm);have:=O w3 ((d.trans' j).trans' J);rw[<-T,h1,if_pos rfl,<-e2,y,if_neg (by decide),<-e3]at this;refine AQ (fun h3=> ?_) fun h3=> ?_
   ·rwa[h3,if_pos rfl]at this
   ·rwa[h3,if_neg (by decide)]at this
 ·have:=O w1 d;rwa[<-T,h1,if_neg (by decide)]at this
theorem Sk{t o:Nat}{vs:List Value}{s:AZ}{l:Iv}{rest:List Pr}(H:Sat (Cells b t vs::KN E s l::rest) w)(h0:vs[o]? =some (.slice s.base s.len s.cap))(h1:vs[o+1]? =some (.int .u64 (DE l)))
  {x y:Int}(v:0<=x)(O:y<18446744073709551616){K:AZ->World->Prop}
  (C: ∀s' w',Sat (Row E.AF 2 s' (flat (withinL l x y))::Cells b t vs::KN E s l::rest) w'->Ext AN w w'->K s' w'):F.Bl E (some ⟨b,o,none⟩) x y K w:=by
 refine VB hE (H.setAt h0 h1).row v O fun s' w' d j=>C s' w' ?_ j;exact H.new (P:=Row E.AF 2 s' (flat (withinL l x y))) (D:=Nb s') j ⟨fun _=>Iff.rfl,d.lower (Nat.zero_le _)⟩ fun k J=>by
  obtain⟨a,v,rfl⟩:=J;exact(d.lt v).1
end
section
variable{E:Env}{b:Nat}{V:VS}{Rs:List Pr}{w:World}
theorem PL{pb:Nat}{gm:Int->Option Value}{rest:List Pr}(H:Sat (Ef pb .u64 gm::rest) w){x y:Int}(hx:0<=x)(aV:x<=y)(hy:y<18446744073709551616){K:World->Prop}
  (hK: ∀w',Sat (Ef pb .u64 (fun i=>if x<=i/\i<y then none else gm i)::rest) w'->K w'):
  (∃aG:Array MapEntry,O7 w (some pb) aG/\
   CND (decide (((u64 (((aG.size:Nat):Int))):Int)<(u64 (y-x)))) (
    ∃aJ,QL w (some pb) aJ/\
    AL (Km (some pb) aJ) w fun b3 w4=>
    Ay (Unit) (()) w4 fun s5 _ w6 d=>
     Am (Bool×Unit) (fun J8=>
      Um b3 w6 (fun aX=>
       J8 (false,()) aX
      ) fun bD bG aR=>
       J8 (true,()) aR
     ) fun s9 _ aF=>
      Am (Bool×Unit) (fun aY=>
       CND (s9.1) (
        aY (s9.1,()) aF
       ) (
        K aF
       )
      ) fun bI _ T=>
       m8 b3 T fun aN a6 bE=>
       QF .u64 aN fun aA=>
       Am (Bool×Unit) (fun aK=>
        CND (decide ((aA:Int)≥x)) (
         aK (decide ((aA:Int)<y),()) T
        ) (
         aK (false,()) T
        )
       ) fun aU _ aL=>
        CND (aU.1) (
         MDEL .u64 aA (some pb) aL fun aT=>
         d (()) aT
        ) (
         d (()) aL
        )
   ) (
    Ay (Int×Unit) (x,()) w fun aE _ C J=>
     CND (decide ((aE.1:Int)<y)) (
      MDEL .u64 aE.1 (some pb) C fun aH=>
      J (u64 (aE.1+1),()) aH
     ) (
      K C
     )
   )):=by
 obtain⟨es,c,m,h1,h2,h3⟩:=H.Nh;refine⟨es,⟨c,h1⟩,AQ (fun _=> ?_) fun _=> ?_⟩
 ·refine⟨c,⟨es,h1⟩,BK fun w4 aQ a4 O=> ?_⟩;have a7:=FU h1;have H4:=H.nothing O;have aS:w.heap.size≠pb:=by omega
  refine range_del (K:=K) (m0:=m) (m1:=m) (es0:=es) (seen0:= #[]) (mb:=pb) (since:=c) (a:=x) (b:=y) (getm:=fun K' w=>K' (some pb) w) (fun w' K' he hk=>hk)
   ⟨⟨c,aQ,.inl rfl⟩,O.obj h1 fun f=>f,h2,fun _ _=>rfl,fun _ _ h=>h,fun e _ h=>by simp at h⟩ aS (by omega) (by omega) fun w' bH m' aM _ aC aI Y=> ?_
  refine hK w' (H.mapStep (O.trans aM (fun _ _ f=>f.elim) fun i hi hs=> ?_) aC aI fun i=> ?_)
  ·rcases hs with e|e
   ·omega
   ·exact e
  ·rw[Y,h3]
 ·refine AK (fun st w'=>x<=st.1/\st.1<=y/\Sat (Ef pb .u64 (fun i=>if x<=i/\i<st.1 then none else gm i)::rest) w') (fun st _=>(y-st.1).toNat) ⟨Int.le_refl _,aV,?_⟩ ?_
  ·have:(fun i=>if x<=i/\i<x then none else gm i)=gm:=by funext i;rw[if_neg (by omega)]
   simp only[this];exact H
  rintro⟨i,v⟩ _ C ⟨aO,aP,aB⟩;simp only at aO aP aB⊢;refine AD (fun bF=>Tb aB fun aH aW=> ?_) fun a8=>hK C ?_
  ·rw[AM (n:=i+1)];refine⟨⟨by show x<=i+1;omega,by show i+1<=y;omega,?_⟩,by show(y-(i+1)).toNat<(y-i).toNat;omega⟩;have:(fun j=>if x<=j/\j<i+1 then none else gm j)=fun j=>if j=i then none else if x<=j/\j<i then none else gm j:=by
    funext j;by_cases e:j=i
    ·rw[if_pos (by omega),if_pos e]
    ·rw[if_neg e];by_cases e2:x<=j/\j<i
     ·rw[if_pos (by omega),if_pos e2]
     ·rw[if_neg (by omega),if_neg e2]
   simp only[this];exact aW
  ·have:i=y:=by omega
   subst this;exact aB
end
end Go.Sh
set_option linter.all false
set_option maxRecDepth 4000
set_option maxHeartbeats 1000000
namespace Go.Sh
def GQ(V:VS)(page p:Int):Int:=V.fl.getD (cnt V.rel page p).toNat 0
def HK(V:VS)(page AB:Int):VS:=
 {V with rf:=V.rf.tail,ready:=CX V.ready page (page+AB),rel:=Cs V.rel page (page+AB),fl:=V.fl.drop (cnt V.rel page (page+AB)).toNat,wd:=fun p i=>if page<=p/\p<page+AB/\I9 V.rel p=true then GQ V page p else V.wd p i}
def Ga(V:VS)(page AB:Int):VS:=
 {V with ready:=Cs V.ready page (page+AB),rel:=CX V.rel page (page+AB),wd:=fun p i=>if page<=p/\p<page+AB then 0 else V.wd p i}
def FY(page AB:Int):Prop:=AB≠0/\page+AB<=34359738368
theorem VN{l:Iv}(h:Ok l){a x y:Int}(h1:a<=x)(j:x<=y)(d: ∀n,x<=n->n<y-> ¬mem l n):cnt l a y=cnt l a x:=by
 rw[Jt (Ok.Wo h) h1 j,(C4 h j).2 d];omega
theorem Sat.K4{P:Pr}{w:World}(d:List Pr){T:List Pr}(H:Sat (P::(d++T)) w):Sat (d++P::T) w:=H.perm List.perm_middle.symm
theorem Sat.Nt{P:Pr}{w:World}(d:List Pr){T:List Pr}(H:Sat (d++P::T) w):Sat (d++T) w:=(H.perm List.perm_middle).tail
def LW(V:VS)(g:VG)(page x p:Int):Option Int:=
 if page<=p/\p<x/\I9 V.rel p=true then(if GQ V page p=0 then none else some (GQ V page p))else g.f p
theorem Nu{V:VS}{g:VG}{page x y:Int}(v:x<=y)(h: ∀p,x<=p->p<y->mem V.rel p->page<=p->GQ V page p=0/\g.f p=none):LW V g page y=LW V g page x:=by
 funext p;unfold LW;by_cases e:page<=p/\p<x/\I9 V.rel p=true
 ·rw[if_pos e,if_pos ⟨e.1,by omega,e.2.2⟩]
 ·rw[if_neg e];by_cases e2:page<=p/\p<y/\I9 V.rel p=true
  ·rw[if_pos e2];have d:x<=p:=by
    by_cases e3:x<=p
    ·exact e3
    ·exact absurd ⟨e2.1,by omega,e2.2.2⟩ e
   obtain⟨h1,j⟩:=h p d e2.2.1 (Az.1 e2.2.2) e2.1;rw[if_pos h1,j]
  ·rw[if_neg e2]
theorem eK{V:VS}{g:VG}{page p:Int}(hp:page<=p)(hm:mem V.rel p)(q:Int):
  LW V g page (p+1) q=if q=p then(if GQ V page p=0 then none else some (GQ V page p))else LW V g page p q:=by
 unfold LW;by_cases e:q=p
 ·subst e;rw[if_pos ⟨hp,by omega,Az.2 hm⟩,if_pos rfl]
 ·rw[if_neg e];by_cases e2:page<=q/\q<p/\I9 V.rel q=true
  ·rw[if_pos e2,if_pos ⟨e2.1,by omega,e2.2.2⟩]
  ·rw[if_neg e2,if_neg (fun h=>e2 ⟨h.1,by omega,h.2.2⟩)]
section
variable{E:Env}{b:Nat}{V:VS}{Rs:List Pr}{w:World}(hE:EnvS E)
include hE
theorem VO(H:Sat (BR E b V::Rs) w){page AB:Int}(h0:0<=page)(h1:page<18446744073709551616)(p0:0<=AB)(p1:AB<18446744073709551616){K:Int->World->Prop}
  (cK: ¬FY page AB->K 1 w)
  (cG:FY page AB->cnt V.laid page (page+AB)≠AB-> ∀w',Ext AN w w'->K 33 w')
  (aM:FY page AB->cnt V.laid page (page+AB)=AB->cnt V.ready page (page+AB)=AB-> ∀w',Ext AN w w'->K 0 w')
  (dA:FY page AB->cnt V.laid page (page+AB)=AB->cnt V.ready page (page+AB)≠AB-> ∀r,V.rf=true::r-> ∀w',Sat (BR E b {V with rf:=r}::Rs) w'->K 13 w')
  (cZ:FY page AB->cnt V.laid page (page+AB)=AB->cnt V.ready page (page+AB)≠AB->(∀r,V.rf≠true::r)-> ∀w',Sat (BR E b (HK V page AB)::Rs) w'->K 0 w'):
  F.Cn E (some ⟨b,0,none⟩) page AB K w:=by
 obtain⟨g,C,H⟩:=Sat.KO.1 H;obtain⟨JA,KT,MZ⟩:=L5 H;unfold F.Cn T0.Cn;refine Qy h0 p0 p1 (F5 (AD (fun hr=> ?_) fun hr=>cK hr));have dO:=hr.1;have dW:=hr.2;simp only[AI,add_eq,Nat.zero_add];rw[AM (n:=page+AB)];refine No hE H (o:=3) rfl rfl h0 (by omega) (by omega) fun w5 bH=> ?_;refine Cz (fun hl=>cG hr hl w5 bH) fun hl=> ?_;refine No hE ((H.nothing bH).DR 1 rfl) (o:=5) rfl rfl h0 (by omega) (by omega) fun w8 cD=> ?_;have aX:=bH.trans' cD;refine BW (fun hd=>aM hr hl hd w8 aX) fun hd=> ?_;have H8:=H.nothing aX;have a9: ∀p,page<=p->p<page+AB->mem V.laid p:=(DM JA (a:=page) (b:=page+AB) (by omega)).1 (by omega);have aN:(∀r,V.rf≠true::r)-> ∀(sr:AZ) (bB:World),Sat (EK E b {V with rf:=V.rf.tail} {g with sr:=sr}++Rs) bB->
   Am (Unit) (fun b4=>
    F.Bl E (some ⟨b,7,none⟩) page (page+AB) (fun bI a4=>
    Ay (Int×Unit) (0,()) a4 fun aF _ aG aQ=>
     CND (decide ((aF.1:Int)<((bI.len:Nat):Int))) (
      NC bI.base fun bO=>
      ((0:Int)<=aF.1/\(aF.1:Int)<(bI.len:Nat))/\
      ∃bU:Int,aG.cell? ((bO.add (Int.toNat aF.1*2)).add 0)=some (.int .u64 bU)/\
      ∃bQ:Int,aG.cell? ((bO.add (Int.toNat aF.1*2)).add 1)=some (.int .u64 bQ)/\
      AL (.cells #[.int .u64 0,.int .u64 0] E.AF) aG fun aC bY=>
      stCells (Addr.mk aC 0 none) 0 [.int .u64 bU,.int .u64 bQ] bY fun bA=>
      ∃bZ:Int,bA.cell? (Addr.mk aC 0 none)=some (.int .u64 bZ)/\
      Ay (Int×Unit) (bZ,()) bA fun aS _ Y aB=>
       ∃b1:Int,Y.cell? (Addr.mk aC 1 none)=some (.int .u64 b1)/\
       CND (decide ((aS.1:Int)<b1)) (
        ∃aR:AZ,Y.cell? (Addr.mk b 2 none)=some (.slice aR.base aR.len aR.cap)/\
        CND ((((aR.len:Nat):Int):Int)==0) (
         b4 (()) Y
        ) (
         F.DW E (some (Addr.mk b 2 none)) (fun bN dR aE=>
         CND ((bN:Int) !=0) (
          ∃bK:(Option Nat),aE.cell? (Addr.mk b 9 none)=some (.map bK)/\
          R5 .u64 aS.1 (.int .u64 bN) bK aE fun a5=>
          aB (u64 (aS.1+1),()) a5
         ) (
          aB (u64 (aS.1+1),()) aE
         )
         ) Y
        )
       ) (
        aQ (i64 (aF.1+1),()) Y
       )
     ) (
      b4 (()) aG
     )
    ) bB
   ) fun d1 _ b3=>
    F.Bk E (some (Addr.mk b 7 none)) page (page+AB) (fun bX=>
    F.A8 E (some (Addr.mk b 5 none)) page (page+AB) (fun a1=>
    K 0 a1
    ) bX
    ) b3:=by
  intro cO sr bB cF;have aH: ∀p,mem V.rel p->g.f p=none:=fun p hp=>by
   cases hf:g.f p with
   | none=>rfl
   | some v=>exact absurd hp (C.re p (C.fi p (by rw[hf];exact fun h=>by cases h)))
  refine AX (fun _ w'=> ∃sf,Sat (EK E b {V with rf:=V.rf.tail,fl:=V.fl.drop (cnt V.rel page (page+AB)).toNat} {g with sr:=sr,sf:=sf,f:=LW V g page (page+AB)}++Rs) w') ?_ ?_
  ·refine Sk hE (cF.DR 2 rfl) (o:=7) rfl rfl h0 (by omega) fun s' a4 b8 _=> ?_;have aO:Sat (EK E b {V with rf:=V.rf.tail} {g with sr:=sr}++Row E.AF 2 s' (flat (withinL V.rel page (page+AB)))::Rs) a4:=
    Sat.K4 (EK E b {V with rf:=V.rf.tail} {g with sr:=sr}) (b8.perm (.cons _ (.cons _ (Dm (i:=2) rfl).symm)))
   clear b8;have aA:=Qx MZ (a:=page) (b:=page+AB) (by omega);generalize hm:withinL V.rel page (page+AB)=m at aO aA;have aP: ∀n,mem m n↔mem V.rel n/\page<=n/\n<page+AB:=fun n=>by rw[<-hm];exact L6
   have aT: ∀q∈m,page<=q.1/\q.1<q.2/\q.2<=page+AB:=by rw[<-hm];exact M5 MZ (by omega)
   have cM:=Cg V.rel page;have cV: ∀c,V.fl.length<=c->V.fl.getD c 0=0:=fun c hc=>by rw[List.getD_eq_getElem?_getD,List.getElem?_eq_none hc];rfl
   have aY: ∀x,page<=x->x<=page+AB->(cnt V.rel page x).toNat<=V.fl.length->((∀n,x<=n->n<page+AB-> ¬mem V.rel n)∨V.fl.drop (cnt V.rel page x).toNat=[])-> ∀sf (T:List Pr) w',
     Sat (EK E b {V with rf:=V.rf.tail,fl:=V.fl.drop (cnt V.rel page x).toNat} {g with sr:=sr,sf:=sf,f:=LW V g page x}++T) w'->
     Sat (EK E b {V with rf:=V.rf.tail,fl:=V.fl.drop (cnt V.rel page (page+AB)).toNat} {g with sr:=sr,sf:=sf,f:=LW V g page (page+AB)}++T) w':=by
    intro x aK aD bE cQ sf T w' hS;rcases cQ with aJ|d
    ·have e1:=VN MZ aK aD aJ;have e2:LW V g page (page+AB)=LW V g page x:=Nu aD fun p h1 h2 h3 _=>absurd h3 (aJ p h1 h2);rw[e1,e2];exact hS
    ·have hlen:V.fl.length<=(cnt V.rel page x).toNat:=List.drop_eq_nil_iff.1 d;have hle: ∀p,x<=p->cnt V.rel page x<=cnt V.rel page p:=fun p hp=>by
      rw[Jt (Ok.Wo MZ) aK hp];have:=Cg V.rel x p;omega
     have e1:V.fl.drop (cnt V.rel page (page+AB)).toNat=V.fl.drop (cnt V.rel page x).toNat:=by
      rw[d,List.drop_eq_nil_iff];have:=hle _ aD;omega
     have e2:LW V g page (page+AB)=LW V g page x:=Nu aD fun p h1 h2 h3 _=>⟨by
      unfold GQ;exact cV _ (by have:=hle p h1;omega),aH p h3⟩
     rw[e1,e2];exact hS
   have aZ: ∀{T:List Pr} {sf fl f w'},Sat (EK E b {V with rf:=V.rf.tail,fl:=fl} {g with sr:=sr,sf:=sf,f:=f}++Row E.AF 2 s' (flat m)::T) w'->Hp w' 0 E.AF 2 s' (flat m):=fun h=>(h.front 10 rfl).own;have c0:s'.len=m.length:=by
    have:=(aZ (T:=Rs) (sf:=g.sf) (fl:=V.fl) (f:=g.f) aO).len;rw[Ez]at this;omega
   have cX:m.length<=34359738368:=by
    have: ∀(l:Iv) (B:Int),Ok l->(∀q∈l,B<=q.1/\q.2<=34359738368)->B<=34359738368->(l.length:Int)<=34359738368-B:=by
     intro l
     induction l with
     | nil=>intro B _ _ h;simp;omega
     | cons q r ih=>
      intro B ho hb _;have h1:=hb q List.mem_cons_self;have h2:=ho.2.1;have:=ih q.2 ho.tail (fun q' bM=>⟨by have:=ho.2.2.2.1 q' bM;omega,(hb q' (List.mem_cons_of_mem _ bM)).2⟩) h1.2;simp only[List.length_cons];omega
    have:=this m 0 aA (fun q O=>⟨by have:=aT q O;omega,by have:=aT q O;omega⟩) (by decide);omega
   refine AK (fun st w'=> ∃(k:Nat) (x:Int) (sf:AZ),st.1=(k:Int)/\k<=m.length/\page<=x/\x<=page+AB/\(cnt V.rel page x).toNat<=V.fl.length/\(∀q∈m.take k,q.2<=x)/\(∀q∈m.drop k,x<=q.1)/\
     Sat (EK E b {V with rf:=V.rf.tail,fl:=V.fl.drop (cnt V.rel page x).toNat} {g with sr:=sr,sf:=sf,f:=LW V g page x}++Row E.AF 2 s' (flat m)::Rs) w') (fun st _=>(m.length-st.1).toNat)
    ⟨0,page,g.sf,rfl,Nat.zero_le _,Int.le_refl _,by omega,?_,by simp,fun q O=>(aT q (by simpa using O)).1,?_⟩ ?_
   ·have:cnt V.rel page page=0:=(C4 MZ (Int.le_refl _)).2 fun n h1 h2=>by omega
    rw[this];exact Nat.zero_le _
   ·have e1:cnt V.rel page page=0:=(C4 MZ (Int.le_refl _)).2 fun n h1 h2=>by omega
    have e2:LW V g page page=g.f:=by funext p;unfold LW;rw[if_neg (by omega)]
    rw[e1,e2];exact aO
   rintro⟨i,v⟩ _ aG ⟨k,x,sf,hk,dV,aK,aD,bE,a0,cN,bD⟩;simp only at hk⊢;subst hk;refine AD (fun bS=> ?_) fun cE=> ?_
   ·have aM:k<m.length:=by omega
    obtain⟨q,O⟩: ∃q,m[k]? =some q:=⟨_,List.getElem?_eq_getElem aM⟩;have bP:=List.mem_of_getElem? O;obtain⟨g1,g2⟩:=Ly m k q O;obtain⟨q1,q2,q3⟩:=aT q bP;have aL:=aZ bD;obtain⟨bb,hb⟩:=aL.Fe (by omega);have c1:=aL.cell hb g1;have c2:=aL.cell hb g2;rw[add_eq,Nat.zero_add]at c1 c2;rw[hb];simp only[AI,add_eq,Nat.zero_add,Int.toNat_natCast,Nat.add_zero];refine⟨⟨by omega,by omega⟩,q.1,c1,q.2,c2,?_⟩;refine Ad bD fun aC bY dB _=>Jc dB (by rfl) (by simp[Value.oneCell']) fun bA bR=> ?_;refine⟨q.1,bR.A2 rfl,?_⟩;have bL:=Sat.K4 (EK E b {V with rf:=V.rf.tail,fl:=V.fl.drop (cnt V.rel page x).toNat} {g with sr:=sr,sf:=sf,f:=LW V g page x}) bR;have b7:x<=q.1:=cN q (List.mem_of_getElem? (i:=0) (by simpa using O));have aJ: ∀n,x<=n->n<q.1-> ¬mem V.rel n:=by
     intro n h1 h2 hn;obtain⟨z,hz,h3,h4⟩:=(aP n).2 ⟨hn,by omega,by omega⟩;obtain⟨j,hj⟩:=List.mem_iff_getElem?.1 hz;rcases Nat.lt_trichotomy j k with e|e|e
     ·have:=a0 z (List.mem_of_getElem? (i:=j) (by rw[List.getElem?_take,if_pos e];exact hj));omega
     ·subst e;rw[O]at hj;cases hj;omega
     ·have:=aA.lt e O hj;omega
    have ec:cnt V.rel page q.1=cnt V.rel page x:=VN MZ aK b7 aJ;have ef:LW V g page q.1=LW V g page x:=Nu b7 fun p h1 h2 h3 _=>absurd h3 (aJ p h1 h2);refine AK (fun st w'=>q.1<=st.1/\st.1<=q.2/\(cnt V.rel page st.1).toNat<=V.fl.length/\ ∃sf,
      Sat (EK E b {V with rf:=V.rf.tail,fl:=V.fl.drop (cnt V.rel page st.1).toNat} {g with sr:=sr,sf:=sf,f:=LW V g page st.1}++Cells aC E.AF [.int .u64 q.1,.int .u64 q.2]::Row E.AF 2 s' (flat m)::Rs) w')
     (fun st _=>(q.2-st.1).toNat) ⟨Int.le_refl _,by show q.1<=q.2;omega,by rw[ec];exact bE,sf,by rw[ec,ef];exact bL⟩ ?_
    rintro⟨p,v⟩ _ Y ⟨bV,c7,bG,sf,J⟩;simp only at bV c7 bG J⊢;refine⟨q.2,(J.front 10 rfl).A2 rfl,AD (fun bS=> ?_) fun cE=> ?_⟩
    ·have bT:mem V.rel p:=((aP p).1 ⟨q,bP,bV,bS⟩).1;have bC:=(IN MZ (a:=page) (k:=p) (by omega)).1 bT;have dE:=cM p;refine⟨sf,J.A2 rfl,BW (fun hz=> ?_) fun dX=> ?_⟩
     ·have d:V.fl.drop (cnt V.rel page p).toNat=[]:=by
       have:(ints .u64 (V.fl.drop (cnt V.rel page p).toNat)).length=sf.len:=(J.front 6 rfl).Ky.1;have h0:(ints .u64 (V.fl.drop (cnt V.rel page p).toNat)).length=0:=by omega
       rw[List.drop_eq_nil_iff];simp[ints]at h0;omega
      exact⟨sf,Sat.Nt _ (Sat.Nt _ (aY p (by omega) (by omega) bG (.inr d) sf _ Y J))⟩
     ·refine VJ (o:=2) (J.DR 5 rfl) rfl (fun d=> ?_) fun y r hy aE c3=> ?_
      ·exfalso;have:=(J.front 6 rfl).Ky.1;have a8:V.fl.drop (cnt V.rel page p).toNat=[]:=d;rw[a8]at this;simp[ints]at this;omega
      ·have a3:V.fl.drop (cnt V.rel page p).toNat=y::r:=hy;have dJ:(cnt V.rel page p).toNat<V.fl.length:=by
        have:=congrArg List.length a3;simp at this;omega
       have cA:r=V.fl.drop (cnt V.rel page (p+1)).toNat:=by
        rw[bC,show(cnt V.rel page p+1).toNat=(cnt V.rel page p).toNat+1 by omega,<-List.drop_drop,a3];rfl
       have b5:GQ V page p=y:=by
        unfold GQ;rw[List.getD_eq_getElem?_getD,<-Nat.add_zero (cnt V.rel page p).toNat,<-List.getElem?_drop,a3];rfl
       have a7:Sat (EK E b {V with rf:=V.rf.tail,fl:=V.fl.drop (cnt V.rel page (p+1)).toNat} {g with sr:=sr,sf:=⟨Gp sf.base sf.cap 1 1,sf.len-1,sf.cap-1⟩,f:=LW V g page p}++Cells aC E.AF [.int .u64 q.1,.int .u64 q.2]::Row E.AF 2 s' (flat m)::Rs) aE:=by
        rw[<-cA];exact Sat.Ng 5 c3 (by simp[EK])
       rw[AM (n:=p+1)];refine Cz (fun a2=> ?_) fun a2=> ?_
       ·refine⟨some g.fb,a7.A2 rfl,Ta (a7.front 7 rfl) fun a5 c9=> ?_⟩;refine⟨⟨by show q.1<=p+1;omega,by show p+1<=q.2;omega,by show(cnt V.rel page (p+1)).toNat<=_;rw[bC];omega,⟨Gp sf.base sf.cap 1 1,sf.len-1,sf.cap-1⟩,?_⟩,by show(q.2-(p+1)).toNat<(q.2-p).toNat;omega⟩;have cJ:=Sat.back 7 c9 (by simp[EK]);have:Kd {g with f:=LW V g page (p+1)}=fun i=>if i=p then some (.int .u64 y)else Kd {g with f:=LW V g page p} i:=by
         funext i;show(LW V g page (p+1) i).map _=if i=p then _ else(LW V g page p i).map _
         rw[eK (by omega) bT i,b5,if_neg a2];split<;>rfl
        show Sat (EK E b _ {g with sr:=sr,sf:=_,f:=LW V g page (p+1)}++_) a5;unfold EK;have e:Kd {g with sr:=sr,sf:=⟨Gp sf.base sf.cap 1 1,sf.len-1,sf.cap-1⟩,f:=LW V g page (p+1)}=Kd {g with f:=LW V g page (p+1)}:=rfl;rw[e,this];exact cJ
       ·refine⟨⟨by show q.1<=p+1;omega,by show p+1<=q.2;omega,by show(cnt V.rel page (p+1)).toNat<=_;rw[bC];omega,⟨Gp sf.base sf.cap 1 1,sf.len-1,sf.cap-1⟩,?_⟩,by show(q.2-(p+1)).toNat<(q.2-p).toNat;omega⟩;have:LW V g page (p+1)=LW V g page p:=Nu (by omega) fun p' h1 h2 h3 _=>by
         have:p'=p:=by omega
         subst this;exact⟨by rw[b5,a2],aH _ h3⟩
        show Sat (EK E b _ {g with sr:=sr,sf:=_,f:=LW V g page (p+1)}++_) aE;rw[this];exact a7
    ·have dC:p=q.2:=by omega
     subst dC;have ei:i64 ((k:Int)+1)=((k+1:Nat):Int):=by rw[AH];omega
     refine⟨⟨k+1,q.2,sf,ei,by omega,by omega,by omega,bG,fun z hz=> ?_,fun z hz=> ?_,Sat.Nt _ J⟩,by simp only[ei];omega⟩
     ·rw[List.take_succ_eq_append_getElem aM,List.mem_append,List.mem_singleton]at hz;rcases hz with hz|rfl
      ·have:=a0 z hz;omega
      ·have:m[k]=q:=by rw[List.getElem?_eq_getElem aM]at O;exact Option.some.inj O
       rw[this];exact Int.le_refl _
     ·obtain⟨j,hj⟩:=List.mem_iff_getElem?.1 hz;rw[List.getElem?_drop]at hj;have:=aA.lt (i:=k) (j:=k+1+j) (by omega) O hj;omega
   ·have c5:k=m.length:=by omega
    refine⟨sf,Sat.Nt _ (aY x aK aD bE (.inl fun n h1 h2 hn=> ?_) sf _ aG bD)⟩;obtain⟨z,hz,h3,h4⟩:=(aP n).2 ⟨hn,by omega,h2⟩;have:=a0 z (by rw[c5,List.take_length];exact hz);omega
  ·rintro _ _ b3 ⟨sf,cR⟩;have dF:Lz=4398046511104:=rfl;refine cU hE (cR.DR 2 rfl) (o:=7) rfl rfl h0 (by omega) (by omega) fun bX cL cH=> ?_;have cY:=Sat.Ng 2 cH (by simp[EK]);refine Wv hE (cY.DR 1 rfl) (o:=5) rfl rfl h0 (by omega) (by omega) fun a1 c4 c8=> ?_;have cP:=Sat.Ng 1 c8 (by simp[EK]);refine cZ hr hl hd cO a1 (Sat.KO.2 ⟨{g with sr:=sr,sf:=sf,s2:=c4,s3:=cL,f:=LW V g page (page+AB)},?_,cP⟩);have ma: ∀p,mem (CX V.ready page (page+AB)) p↔mem V.ready p∨(page<=p/\p<page+AB):=fun p=>Ca KT (by omega) h0 (by omega) p;have mc: ∀p,mem (Cs V.rel page (page+AB)) p↔mem V.rel p/\ ¬(page<=p/\p<page+AB):=fun p=>Cw (by omega);refine⟨fun p i cB cC=> ?_,fun p hp=>(ma p).2 (.inl (C.pg p hp)),fun p hp=> ?_,fun p hp=> ?_,fun p hp=>C.el p ((mc p).1 hp).1,fun p hp O=> ?_,C.Gn,C.Sg⟩
   ·show(if page<=p/\p<page+AB/\I9 V.rel p=true then GQ V page p else V.wd p i)=match g.G p with|some x=>x.2 i|none=>(LW V g page (page+AB) p).getD 0
    by_cases e:page<=p/\p<page+AB/\I9 V.rel p=true
    ·rw[if_pos e];have b6:=Az.1 e.2.2;have:g.G p=none:=by
      cases hG:g.G p with
      | none=>rfl
      | some x=>exact absurd b6 (C.re p (C.pg p (by rw[hG];exact fun h=>by cases h)))
     rw[this];unfold LW;rw[if_pos e];by_cases e2:GQ V page p=0
     ·rw[if_pos e2,e2];rfl
     ·rw[if_neg e2];rfl
    ·rw[if_neg e,C.wd p i cB cC];unfold wordOf LW;rw[if_neg e]
     try rfl
   ·have bF:LW V g page (page+AB) p≠none:=hp;unfold LW at bF;by_cases e:page<=p/\p<page+AB/\I9 V.rel p=true
    ·exact(ma p).2 (.inr ⟨e.1,e.2.1⟩)
    ·rw[if_neg e]at bF;exact(ma p).2 (.inl (C.fi p bF))
   ·rcases(ma p).1 hp with h|h
    ·exact C.rl p h
    ·exact a9 p h.1 h.2
   ·rcases(ma p).1 hp with h|h
    ·exact C.re p h ((mc p).1 O).1
    ·exact((mc p).1 O).2 h
 refine Si H8 (fun d=>Ac rfl (aN (fun r h=>by rw[d]at h;cases h) g.sr w8 ?_)) fun x r hx w7 H7=> ?_
 ·have:{V with rf:=V.rf.tail}=V:=by
   have:V.rf.tail=V.rf:=by rw[d];rfl
   rw[this]
  show Sat (EK E b {V with rf:=V.rf.tail} {g with sr:=g.sr}++Rs) w8;rw[this];exact H8
 ·refine AQ (fun e=>dA hr hl hd r (by rw[hx,e]) w7 (Sat.KO.2 ⟨{g with sr:=⟨Gp g.sr.base g.sr.cap 1 1,g.sr.len-1,g.sr.cap-1⟩},⟨C.wd,C.pg,C.fi,C.rl,C.el,C.re,C.Gn,C.Sg⟩,H7⟩)) fun e=>aN (fun r' h=> ?_) ⟨Gp g.sr.base g.sr.cap 1 1,g.sr.len-1,g.sr.cap-1⟩ w7 ?_
  ·rw[hx,e]at h;cases h
  ·rw[hx];exact H7
end
end Go.Sh
set_option linter.all false
set_option maxRecDepth 40000
set_option maxHeartbeats 1000000
namespace Go.Sh
theorem l8(n:Nat)(v:Value):Array.replicate n v=⟨List.replicate n v⟩:=by apply Array.ext';simp
section
variable{n:Nat}{G:xH}{Rs:List Pr}{p:Int}
end
def Kf(V:VS)(addr:Int):Int×Int:=if addr %8≠0 then(0,11)else if I9 V.ready (addr/8192)=true then(V.wd (addr/8192) (addr %8192/8),0)else(0,12)
def IC(V:VS)(addr:Int):Int:=if addr %8≠0 then 11 else if I9 V.ready (addr/8192)=true then 0 else 12
def FZ(V:VS)(addr x:Int):VS:=if IC V addr=0 then{V with wd:=fun p i=>if p=addr/8192/\i=addr %8192/8 then x else V.wd p i}else V
section
variable{E:Env}{b:Nat}{V:VS}{Rs:List Pr}{w:World}
theorem JM{b1 t:Nat}{c z:Int}{K:World->Prop}(H:Sat (Cells b1 t [.int .i64 z]::Rs) w)(T: ∀w',Sat (Cells b1 t [.int .i64 c]::Rs) w'->K w'):
  F.Dy E (some ⟨b1,0,none⟩) (.iface E.Eh (.agg ⟨[.int .i64 c]⟩)) K w:=by
 unfold F.Dy;refine⟨rfl,Ac rfl ?_⟩;unfold TAS;simp only[Nat.beq_refl];show CND true (AL (Obj.cells #[Value.int .i64 0] E.Eh) w fun d J=>stCells (Addr.mk d 0 none) 0 [.int .i64 c] J fun v=> ∃y:Int,v.cell? (Addr.mk d 0 none)=some (.int .i64 y)/\NC (some (Addr.mk b1 0 none)) fun O=>stCells O 0 [.int .i64 y] v fun j=>K j) (PAN (.iface E.Eh (.agg ⟨[.int .i64 c]⟩)) False);refine AV rfl (Ad H fun d J Y _=>Jc Y (by rfl) (by simp[Value.oneCell']) fun v C=>⟨c,C.A2 rfl,?_⟩);exact El C.tail rfl (by simp) fun j H9=>T j H9
theorem Q2{a:Option Addr}{K:World->Prop}(d:K w):F.Dy E a .nilIface K w:=by
 unfold F.Dy;exact⟨rfl,AV rfl d⟩
variable(hE:EnvS E)
include hE
theorem VP{g:VG}(H:Sat (EK E b V g++Rs) w){addr:Int}(h0:0<=addr)(h1:addr<18446744073709551616){K:Int->Int->World->Prop}{Kp:Value->World->Prop}
  (v:addr %8≠0->Kp (.iface E.Eh (.agg ⟨[.int .i64 11]⟩)) w)
  (C:addr %8=0-> ¬mem V.ready (addr/8192)-> ∀w',Ext AN w w'->Kp (.iface E.Eh (.agg ⟨[.int .i64 12]⟩)) w')
  (y:addr %8=0->mem V.ready (addr/8192)-> ∀w',Ext AN w w'->K (addr/8192) (addr %8192/8) w'):
  F.ES E (some ⟨b,0,none⟩) addr K Kp w:=by
 unfold F.ES T0.ES;simp only[AI,add_eq,Nat.zero_add];rw[Int.tmod_eq_emod_of_nonneg h0,Int.tmod_eq_emod_of_nonneg h0,Int.tdiv_eq_ediv_of_nonneg h0,Int.tdiv_eq_ediv_of_nonneg (by omega),AM (n:=addr/8192)];refine⟨by decide,by decide,Cz (fun h=>v h) fun h=> ?_⟩;refine Tg hE (H.DR 1 rfl) (o:=5) rfl rfl (by omega) fun J r O d=>F5 (AQ (fun j=>⟨by decide,by decide,AU fun t T=> ?_⟩) fun j=>C h (fun hm=> ?_) J d)
 ·rw[AM]at T;rw[T];exact y h (O.1 j) J d
 ·rw[O.2 hm]at j;cases j
theorem Zv(H:Sat (BR E b V::Rs) w){addr:Int}(h0:0<=addr)(h1:addr<18446744073709551616){K:Int->Int->World->Prop}
  (hK: ∀w',Sat (BR E b V::Rs) w'->K (Kf V addr).1 (Kf V addr).2 w'):F.Ej E (some ⟨b,0,none⟩) addr K w:=by
 obtain⟨g,hI,H⟩:=Sat.KO.1 H;unfold F.Ej T0.Ej;refine Ad H fun b1 w2 H2 _=> ?_;have d: ∀(c:Int) (w':World),Sat (Cells b1 E.CK [.int .i64 c]::(EK E b V g++Rs)) w'->Sat (BR E b V::Rs) w':=fun c w' h=>Sat.KO.2 ⟨g,hI,h.tail⟩;refine VP hE H2.tail h0 h1 (fun h=> ?_) (fun h hm w5 C=> ?_) fun h hm w5 C=> ?_
 ·refine JM H2 fun w' O=>⟨11,O.A2 rfl,?_⟩;have:=hK w' (d 11 w' O);unfold Kf at this;rwa[if_pos h]at this
 ·refine JM (H2.nothing C) fun w' O=>⟨12,O.A2 rfl,?_⟩;have:=hK w' (d 12 w' O);unfold Kf at this;rwa[if_neg (by omega),if_neg (fun e=>hm (Az.1 e))]at this
 ·have J:=H2.nothing C;have T:0<=addr %8192/8:=by omega
  have aD:addr %8192/8<1024:=by omega
  have hl:Kf V addr=(wordOf g (addr/8192) (addr %8192/8),0):=by unfold Kf;rw[if_neg (by omega),if_pos (Az.2 hm),hI.wd _ _ T aD]
  have y: ∀v,v=wordOf g (addr/8192) (addr %8192/8)->stCells (Addr.mk b1 0 none) 0 [.int .i64 0] w5 (fun j=>F.Dy E (some (Addr.mk b1 0 none)) .nilIface (fun aB=> ∃Y:Int,aB.cell? (Addr.mk b1 0 none)=some (.int .i64 Y)/\K v Y aB) j):=by
   intro v hv;refine El J rfl (by simp) fun j aA=>Q2 ⟨0,aA.A2 rfl,?_⟩;have:=hK j (d 0 j aA);rw[hl]at this;rw[hv];exact this
  simp only[AI,add_eq,Nat.zero_add,Nat.mul_one];refine⟨some g.pb,J.tail.A2 rfl,Of (J.front 9 rfl) fun _ _=> ?_⟩;cases hG:g.G (addr/8192)with
  | some x=>
   refine⟨some ⟨x.1,0,none⟩,by simp[KA,hG],AV rfl ?_⟩;simp only[AI,add_eq,Nat.zero_add];refine⟨⟨T,by omega⟩,x.2 ((addr %8192/8).toNat:Nat),(J.front 10 rfl).oJ hG (by omega),?_⟩;refine y _ ?_;unfold wordOf;rw[hG,show(((addr %8192/8).toNat:Nat):Int)=addr %8192/8 by omega]
  | none=>
   refine⟨none,by simp[KA,hG],Ac rfl ⟨some g.fb,J.tail.A2 rfl,Of (J.front 8 rfl) fun _ _=>⟨(g.f (addr/8192)).getD 0,?_,y _ ?_⟩⟩⟩
   ·unfold Kd;cases g.f (addr/8192)<;>rfl
   ·unfold wordOf;rw[hG]
theorem VQ{g:VG}(d:Qw V g)(H:Sat (EK E b V g++Rs) w){p:Int}(hp:mem V.ready p){K:Option Addr->World->Prop}
  (hK: ∀(g':VG) x w',Qw V g'->Sat (EK E b V g'++Rs) w'->g'.G p=some x->K (some ⟨x.1,0,none⟩) w'):F.FB E (some ⟨b,0,none⟩) p K w:=by
 unfold F.FB;simp only[AI,add_eq,Nat.zero_add,Nat.mul_one];refine⟨some g.pb,H.A2 rfl,Of (H.front 8 rfl) fun _ _=> ?_⟩;cases hG:g.G p with
 | some x=>exact⟨some ⟨x.1,0,none⟩,by simp[KA,hG],Ac rfl (hK g x w d H hG)⟩
 | none=>
  refine⟨none,by simp[KA,hG],AV rfl ?_⟩
  let v:Int:=(g.f p).getD 0
  rw[l8];refine Ad H fun C w8 H8 _=> ?_;have J: ∀(i j:Nat),j<1024->(List.replicate i (Value.int .u64 v)++List.replicate (1024-i) (Value.int .u64 0))[j]? =some (.int .u64 (if j<i then v else 0)):=by
   intro i j hj;rw[List.getElem?_append];simp only[List.length_replicate];split
   ·rw[List.getElem?_replicate,if_pos (by assumption)]
   ·rw[List.getElem?_replicate,if_pos (by omega)]
  refine AK (fun st w'=> ∃i:Nat,st.1=(i:Int)/\i<=1024/\Sat (Cells C E.Jf (List.replicate i (.int .u64 v)++List.replicate (1024-i) (.int .u64 0))::(EK E b V g++Rs)) w') (fun st _=>(1024-st.1).toNat)
   ⟨0,rfl,Nat.zero_le _,by simpa using H8⟩ ?_
  rintro⟨i',u⟩ _ aP ⟨i,hi,aR,y⟩;simp only at hi⊢;subst hi;refine AD (fun aN=> ?_) fun aM=> ?_
  ·have Hd:=y.drew;refine⟨some g.fb,Hd.tail.A2 rfl,Of (Hd.front 8 rfl) fun _ _=>⟨v,?_,⟨⟨by omega,by omega⟩,?_⟩⟩⟩
   ·unfold Kd;show((g.f p).map _).getD _=Value.int .u64 ((g.f p).getD 0);cases g.f p<;>rfl
   ·simp only[Int.toNat_natCast];refine El Hd rfl (by simp;omega) fun aO T=> ?_;have ei:i64 ((i:Int)+1)=((i+1:Nat):Int):=by rw[AH];omega
    refine⟨⟨i+1,ei,by omega,?_⟩,by simp only[ei];omega⟩;have:(List.replicate i (Value.int .u64 v)++List.replicate (1024-i) (Value.int .u64 0)).set i (.int .u64 v)=List.replicate (i+1) (.int .u64 v)++List.replicate (1024-(i+1)) (.int .u64 0):=by
     rw[List.set_append_right _ _ (by simp)];simp only[List.length_replicate,Nat.sub_self];rw[show 1024-i=(1024-(i+1))+1 by omega,List.replicate_succ,List.set_cons_zero,List.replicate_succ' (n:=i),List.append_assoc];rfl
    rw[this]at T;exact T
  ·have aA:i=1024:=by omega
   subst aA;refine⟨some g.pb,y.tail.A2 rfl,Ta (y.front 9 rfl) fun aT aH=> ?_⟩;have O:=Sat.back 9 aH (by simp[EK]);refine⟨some g.fb,O.tail.A2 rfl,Tb (O.front 8 rfl) fun aD aB=> ?_⟩;have Y:=Sat.back 8 aB (by simp[EK]);have aI:=Y.DR 9 rfl;have aC:=aI.xJ (p:=p) (ws:=fun _=>v) hG fun j hj=>by rw[J 1024 j hj,if_pos hj]
   have aJ:Qw V {g with G:=fun q=>if q=p then some (C,fun _=>v)else g.G q,f:=fun q=>if q=p then none else g.f q}:=by
    refine⟨fun q i h0 h1=> ?_,fun q hq=> ?_,fun q hq=> ?_,d.rl,d.el,d.re,d.Gn,d.Sg⟩
    ·rw[d.wd q i h0 h1];unfold wordOf;by_cases e:q=p
     ·subst e;simp only[if_true];rw[hG]
     ·simp only[if_neg e]
    ·by_cases e:q=p
     ·rw[e];exact hp
     ·exact d.pg q (by simpa[e]using hq)
    ·by_cases e:q=p
     ·rw[e];exact hp
     ·exact d.fi q (by simpa[e]using hq)
   refine hK _ (C,fun _=>v) aD aJ ?_ (by simp);have e1:KA {g with G:=fun q=>if q=p then some (C,fun _=>v)else g.G q,f:=fun q=>if q=p then none else g.f q}=fun i=>if i=p then some (.pointer (some ⟨C,0,none⟩))else KA g i:=by
    funext q;unfold KA;by_cases e:q=p<;>simp[e]
   have e2:Kd {g with G:=fun q=>if q=p then some (C,fun _=>v)else g.G q,f:=fun q=>if q=p then none else g.f q}=fun i=>if i=p then none else Kd g i:=by
    funext q;unfold Kd;by_cases e:q=p<;>simp[e]
   unfold EK;rw[e1,e2];exact Sat.back 9 aC (by simp[EK])
end
end Go.Sh
set_option linter.all false
set_option maxRecDepth 40000
set_option maxHeartbeats 1000000
namespace Go.Sh
def Mh(pl:List Int)(rf:List Bool)(fl:List Int):VS:=⟨[],[],[],fun _ _=>0,pl,rf,fl⟩
section
variable{E:Env}{b:Nat}{V:VS}{Rs:List Pr}{w:World}
theorem VR{g:VG}(H:Sat (EK E b V g++Rs) w){x y:Int}(hx:0<=x)(J:x<=y)(hy:y<18446744073709551616){K:World->Prop}
  (hK: ∀w',Sat (EK E b V {g with f:=fun p=>if x<=p/\p<y then none else g.f p,G:=fun p=>if x<=p/\p<y then none else g.G p}++Rs) w'->K w'):
  ∃O:(Option Nat),w.cell? (Addr.mk b 9 none)=some (.map O)/\
   F.FF E O x y (fun d=>
   ∃C:(Option Nat),d.cell? (Addr.mk b 10 none)=some (.map C)/\
   F.C8 E C x y (fun j=>K j) d) w:=by
 refine⟨some g.fb,H.A2 rfl,?_⟩;unfold F.FF;refine PL (H.front 7 rfl) hx J hy fun d aA=> ?_;have v:=Sat.back 7 aA (by simp[EK]);refine⟨some g.pb,v.A2 rfl,?_⟩;unfold F.C8;refine PL (v.front 8 rfl) hx J hy fun j Y=>hK j ?_;have aB:=Sat.back 8 Y (by simp[EK]);have T:=Sat.back 9 ((aB.front 9 rfl).oK (G':=fun p=>if x<=p/\p<y then none else g.G p) fun p z hz=>by
  by_cases e:x<=p/\p<y
  ·rw[if_pos e]at hz;cases hz
  ·rw[if_neg e]at hz;exact hz) (by simp[EK])
 have e1:KA {g with f:=fun p=>if x<=p/\p<y then none else g.f p,G:=fun p=>if x<=p/\p<y then none else g.G p}=fun i=>if x<=i/\i<y then none else KA g i:=by
  funext q;unfold KA;by_cases e:x<=q/\q<y<;>simp[e]
 have e2:Kd {g with f:=fun p=>if x<=p/\p<y then none else g.f p,G:=fun p=>if x<=p/\p<y then none else g.G p}=fun i=>if x<=i/\i<y then none else Kd g i:=by
  funext q;unfold Kd;by_cases e:x<=q/\q<y<;>simp[e]
 unfold EK;rw[e1,e2];exact T
theorem XJ{g:VG}(d:Qw V g){x y:Int}{V':VS}(v:V'.laid=V.laid/\V'.pl=V.pl)(C: ∀p i,0<=i->i<1024->V'.wd p i=if x<=p/\p<y then 0 else V.wd p i)
  (j: ∀p,¬(x<=p/\p<y)->mem V.ready p->mem V'.ready p)(h1: ∀p,mem V'.ready p->mem V.laid p)(J: ∀p,mem V'.rel p->mem V.laid p)(K: ∀p,mem V'.ready p-> ¬mem V'.rel p):
  Qw V' {g with f:=fun p=>if x<=p/\p<y then none else g.f p,G:=fun p=>if x<=p/\p<y then none else g.G p}:=by
 refine⟨fun p i h0 hi=> ?_,fun p hp=> ?_,fun p hp=> ?_,fun p hp=>by rw[v.1];exact h1 p hp,fun p hp=>by rw[v.1];exact J p hp,K,by rw[v.1];exact d.Gn,by rw[v.2];exact d.Sg⟩
 ·rw[C p i h0 hi];unfold wordOf;by_cases e:x<=p/\p<y
  ·simp only[if_pos e];try rfl
  ·simp only[if_neg e];rw[d.wd p i h0 hi];try rfl
 ·by_cases e:x<=p/\p<y
  ·simp[e]at hp
  ·exact j p e (d.pg p (by simpa[e]using hp))
 ·by_cases e:x<=p/\p<y
  ·simp[e]at hp
  ·exact j p e (d.fi p (by simpa[e]using hp))
variable(hE:EnvS E)
include hE
theorem Tt(H:Sat (BR E b V::Rs) w){page AB:Int}(h0:0<=page)(h1:page<18446744073709551616)(p0:0<=AB)(p1:AB<18446744073709551616){K:Int->World->Prop}
  (aA: ¬FY page AB->K 1 w)
  (T:FY page AB->cnt V.ready page (page+AB)≠AB-> ∀w',Ext AN w w'->K 33 w')
  (aC:FY page AB->cnt V.ready page (page+AB)=AB-> ∀w',Sat (BR E b (Ga V page AB)::Rs) w'->K 0 w'):
  F.DK E (some ⟨b,0,none⟩) page AB K w:=by
 obtain⟨g,d,H⟩:=Sat.KO.1 H;obtain⟨JA,KT,MZ⟩:=L5 H;unfold F.DK T0.DK;refine Qy h0 p0 p1 (F5 (AD (fun j=> ?_) fun j=>aA j));have aH:=j.1;have aR:=j.2;have aF:Lz=4398046511104:=rfl;simp only[AI,add_eq,Nat.zero_add];rw[AM (n:=page+AB)];refine No hE (H.DR 1 rfl) (o:=5) rfl rfl h0 (by omega) (by omega) fun w5 J=> ?_;refine Cz (fun hl=>T j hl w5 J) fun hl=> ?_;have C: ∀p,page<=p->p<page+AB->mem V.ready p:=(DM KT (a:=page) (b:=page+AB) (by omega)).1 (by omega);refine cU hE ((H.nothing J).DR 1 rfl) (o:=5) rfl rfl h0 (by omega) (by omega) fun w7 y H7=> ?_;have H8:=Sat.Ng 1 H7 (by simp[EK]);refine Wv hE (H8.DR 2 rfl) (o:=7) rfl rfl h0 (by omega) (by omega) fun w9 v H9=> ?_;have Y:Sat (EK E b (Ga V page AB) {g with s2:=y,s3:=v}++Rs) w9:=Sat.Ng 2 H9 (by simp[EK]);refine VR Y h0 (by omega) (by omega) fun aE aB=>aC j hl aE (Sat.KO.2 ⟨_,?_,aB⟩);have O: ∀p,mem (Cs V.ready page (page+AB)) p↔mem V.ready p/\ ¬(page<=p/\p<page+AB):=fun p=>Cw (by omega);have ma: ∀p,mem (CX V.rel page (page+AB)) p↔mem V.rel p∨(page<=p/\p<page+AB):=fun p=>Ca MZ (by omega) h0 (by omega) p;refine XJ (g:={g with s2:=y,s3:=v}) (V:=V) ⟨d.wd,d.pg,d.fi,d.rl,d.el,d.re,d.Gn,d.Sg⟩ ⟨rfl,rfl⟩ (fun p i _ _=>rfl) (fun p h hp=>(O p).2 ⟨hp,h⟩) (fun p hp=>d.rl p ((O p).1 hp).1) (fun p hp=> ?_) fun p hp hq=> ?_
 ·rcases(ma p).1 hp with h|h
  ·exact d.el p h
  ·exact d.rl p (C p h.1 h.2)
 ·obtain⟨h3,h4⟩:=(O p).1 hp;rcases(ma p).1 hq with h|h
  ·exact d.re p h3 h
  ·exact h4 h
theorem Zw{g:VG}(d:Qw V g){p:Int}{x:Nat×(Int->Int)}(hp:g.G p=some x){f:Int->Int}{V':VS}(v:V'={V with wd:=V'.wd})
  (j: ∀q i,0<=i->i<1024->V'.wd q i=if q=p then f i else V.wd q i):Qw V' {g with G:=fun q=>if q=p then some (x.1,f)else g.G q}:=by
 rw[v];refine⟨fun q i h0 h1=> ?_,fun q y=> ?_,d.fi,d.rl,d.el,d.re,d.Gn,d.Sg⟩
 ·show V'.wd q i=_;rw[j q i h0 h1];unfold wordOf;by_cases e:q=p
  ·simp only[if_pos e]
  ·simp only[if_neg e];rw[d.wd q i h0 h1];try rfl
 ·by_cases e:q=p
  ·exact d.pg q (by rw[e,hp];exact fun h=>by cases h)
  ·exact d.pg q (by simpa[e]using y)
theorem eL{g:VG}{p:Int}{x:Nat×(Int->Int)}(hp:g.G p=some x)(f:Int->Int):KA {g with G:=fun q=>if q=p then some (x.1,f)else g.G q}=KA g:=by
 funext q;unfold KA;by_cases e:q=p
 ·simp[e,hp]
 ·simp[e]
theorem XK(H:Sat (BR E b V::Rs) w){addr x:Int}(h0:0<=addr)(h1:addr<18446744073709551616){K:Int->World->Prop}
  (hK: ∀w',Sat (BR E b (FZ V addr x)::Rs) w'->K (IC V addr) w'):F.EB E (some ⟨b,0,none⟩) addr x K w:=by
 obtain⟨g,hI,H⟩:=Sat.KO.1 H;unfold F.EB T0.EB;refine Ad H fun b1 w2 T _=> ?_;have j: ∀(c:Int) (w':World),IC V addr=c->c≠0->Sat (Cells b1 E.CK [.int .i64 c]::(EK E b V g++Rs)) w'->K c w':=fun c w' hc aC h=>by
  have:=hK w' (by unfold FZ;rw[if_neg (by rw[hc];exact aC)];exact Sat.KO.2 ⟨g,hI,h.tail⟩);rwa[hc]at this
 refine VP hE T.tail h0 h1 (fun h=> ?_) (fun h hm w5 v=> ?_) fun h hm w5 v=> ?_
 ·exact JM T fun w' y=>⟨11,y.A2 rfl,j 11 w' (by unfold IC;rw[if_pos h]) (by decide) y⟩
 ·exact JM (T.nothing v) fun w' y=>⟨12,y.A2 rfl,j 12 w' (by unfold IC;rw[if_neg (by omega),if_neg (fun e=>hm (Az.1 e))]) (by decide) y⟩
 ·have Y:0<=addr %8192/8:=by omega
  have aG:addr %8192/8<1024:=by omega
  have d:IC V addr=0:=by unfold IC;rw[if_neg (by omega),if_pos (Az.2 hm)]
  have H5:=Sat.K4 (EK E b V g) (T.nothing v);refine VQ hE hI H5 hm fun g' z w7 O H7 hz=> ?_;simp only[AI,add_eq,Nat.zero_add,Nat.mul_one];refine⟨⟨Y,by omega⟩,iF (H7.front 9 rfl) hz (by omega) fun w9 H9=> ?_⟩;have J:=Sat.back 9 H9 (by simp[EK]);rw[show(((addr %8192/8).toNat:Nat):Int)=addr %8192/8 by omega]at J;have aA:Sat (EK E b (FZ V addr x) {g' with G:=fun q=>if q=addr/8192 then some (z.1,fun i=>if i=addr %8192/8 then x else z.2 i)else g'.G q}++Cells b1 E.CK [.int .i64 0]::Rs) w9:=by
   unfold FZ;rw[if_pos d];unfold EK;rw[eL hE hz];exact J
  refine El (aA.front 10 rfl) rfl (by simp) fun aB C=>Q2 ⟨0,C.A2 rfl,?_⟩;have:=hK aB (Sat.KO.2 ⟨_,?_,C.tail⟩)
  ·rwa[d]at this
  ·refine Zw hE O hz (by unfold FZ;rw[if_pos d]) fun q i g0 g1=> ?_;unfold FZ;rw[if_pos d];show(if q=addr/8192/\i=addr %8192/8 then x else V.wd q i)=_;by_cases e:q=addr/8192
   ·subst e;rw[if_pos rfl];by_cases e2:i=addr %8192/8
    ·rw[if_pos ⟨rfl,e2⟩,if_pos e2]
    ·rw[if_neg (fun h=>e2 h.2),if_neg e2,O.wd _ i g0 g1];unfold wordOf;rw[hz]
   ·rw[if_neg (fun h=>e h.1),if_neg e]
end
end Go.Sh
set_option linter.all false
set_option maxRecDepth 40000
set_option maxHeartbeats 4000000
namespace Go.Sh
section
variable{E:Env}{Ps Rs:List Pr}{w:World}
theorem PM(i:Nat){K:Nat->World->Prop}(H:Sat Ps w)(hi:Ps[i]? =some YB)(j: ∀b w',Sat (Ps.set i (Ef b .u64 fun _=>none)) w'->K b w'):AL (.map #[] 0) w K:=
 cA (H.front i hi).tail .u64 fun b w' d _=>j b w' (Sat.back i d (List.getElem?_eq_some_iff.1 hi).1)
theorem VU{t:Nat}{zs:Array Value}{bytes:Nat}{a:AZ}{vs:List Value}{K:AZ->World->Prop}(H:Sat Rs w)(hz:zs.size=1)(d: ∀w',Sat Rs w'->rowAt w' a.base a.len vs)(hl:vs.length=a.len)(hlen:a.len<=1099511627776)(O:bytes<=8)
  (ho: ∀v∈vs,v.oneCell'=true)(C: ∀s' w',Sat (IJ s' vs::Rs) w'->K s' w'):
  CND (a.base.isNone) (K ⟨none,0,0⟩ w) (AL (.cells ⟨[]⟩ t) w fun b1 j=>APP t 1 bytes zs ⟨(some (Addr.mk b1 0 none)),0,0⟩ a j fun s3 w4=>K s3 w4):=by
 refine AQ (fun e=> ?_) fun e=> ?_
 ·have hb:a.base=none:=by simpa using e
  have:=d w H;rw[hb]at this;have hv:vs=[]:=this;rw[hv]at C;exact C _ w H.iE
 ·refine BK fun j y aB J=> ?_;have T:Sat (Row t 1 ⟨some ⟨w.heap.size,0,none⟩,0,0⟩ []::Rs) j:=H.new (P:=Row t 1 ⟨some ⟨w.heap.size,0,none⟩,0,0⟩ []) (D:=Nb ⟨some ⟨w.heap.size,0,none⟩,0,0⟩) J
   ⟨fun _=>Iff.rfl,TU y rfl (Nat.zero_le _) (by decide)⟩ fun k hk=>by obtain⟨x,hx,rfl⟩:=hk;cases hx;exact Nat.le_refl _
  have hm:(0+a.len)*bytes<=1099511627776*8:=Nat.mul_le_mul (by omega) O;refine F4 T hz (by simpa using d j T.tail) (by simpa using hl) ho (by simp only;omega) (by simp only;omega) fun s' w' Y _=>C s' w' ?_;exact Sat.iD Y
theorem Sl(i:Nat){a:AZ}{l:List Int}{K:AZ->World->Prop}(H:Sat Ps w)(hi:Ps[i]? =some YB)(d: ∀w',Sat (Ps.eraseIdx i) w'->rowAt w' a.base a.len (ints .u64 l))(J:l.length=a.len)(hlen:a.len<=1099511627776)
  (C: ∀s' w',Sat (Ps.set i (IJ s' (ints .u64 l))) w'->K s' w'):F.Cb E a K w:=by
 unfold F.Cb;exact VU (H.front i hi).tail rfl d (by simpa[ints]using J) hlen (Nat.le_refl _) (by intro v j;simp[ints]at j;obtain⟨x,_,rfl⟩:=j;rfl) fun s' w' y=>C s' w' (Sat.back i y (List.getElem?_eq_some_iff.1 hi).1)
theorem XL(i:Nat){a:AZ}{l:List Bool}{K:AZ->World->Prop}(H:Sat Ps w)(hi:Ps[i]? =some YB)(d: ∀w',Sat (Ps.eraseIdx i) w'->rowAt w' a.base a.len (A6 l))(J:l.length=a.len)(hlen:a.len<=1099511627776)
  (C: ∀s' w',Sat (Ps.set i (IJ s' (A6 l))) w'->K s' w'):F.DN E a K w:=by
 unfold F.DN;exact VU (H.front i hi).tail rfl d (by simpa[A6]using J) hlen (by decide) (by intro v j;simp[A6]at j;rcases j with ⟨_,rfl⟩|⟨_,rfl⟩<;>rfl) fun s' w' y=>C s' w' (Sat.back i y (List.getElem?_eq_some_iff.1 hi).1)
theorem Yp{b t1 b1 t2 m1 d:Nat}{r1 j v:AZ}{vs:List Value}{pl:List Int}{rf:List Bool}{fl:List Int}(y: ∀x∈pl,0<=x/\x<18446744073709551616)
  (H:Sat (Cells b t1 [Ie r1,Ie j,Ie v,.slice none 0 0,.int .u64 0,.slice none 0 0,.int .u64 0,.slice none 0 0,.int .u64 0,.map (some m1),.map (some d)]::Cells b1 t2 vs::
   IJ r1 (ints .u64 pl)::IJ j (A6 rf)::IJ v (ints .u64 fl)::Ef m1 .u64 (fun _=>none)::Ef d .u64 (fun _=>none)::Rs) w):Sat (BR E b (Mh pl rf fl)::Rs) w:=by
 have H1:=(H.perm (.swap _ _ _)).tail;have O:=(Sat.K4 [Cells b t1 _,IJ r1 _,IJ j _,IJ v _,Ef m1 _ _,Ef d _ _] (H1.xI 1024));have K:=((O.Ww (E:=E)).perm (.swap _ _ _));have C:=((K.Ww (E:=E)).perm (.swap _ _ _));have J:=((C.Ww (E:=E)).perm (.swap _ _ _));exact Sat.KO.2 ⟨⟨r1,j,v,⟨none,0,0⟩,⟨none,0,0⟩,⟨none,0,0⟩,m1,d,fun _=>none,fun _=>none⟩,
  ⟨fun _ _ _ _=>rfl,fun _ h=>absurd rfl h,fun _ h=>absurd rfl h,fun _ h=>h,fun _ h=>h,fun p h=>absurd h (A9 p),fun p h=>absurd h (A9 p),y⟩,J⟩
theorem Sm(H:Sat Rs w){a0 a1 a2:AZ}{pl:List Int}{rf:List Bool}{fl:List Int}(j: ∀x∈pl,0<=x/\x<18446744073709551616)
  (h0: ∀w',Sat Rs w'->rowAt w' a0.base a0.len (ints .u64 pl))(l0:pl.length=a0.len)(k0:a0.len<=1099511627776)
  (h1: ∀w',Sat Rs w'->rowAt w' a1.base a1.len (A6 rf))(l1:rf.length=a1.len)(O:a1.len<=1099511627776)
  (T: ∀w',Sat Rs w'->rowAt w' a2.base a2.len (ints .u64 fl))(l2:fl.length=a2.len)(k2:a2.len<=1099511627776)
  {K:Option Addr->World->Prop}(C: ∀b w',Sat (BR E b (Mh pl rf fl)::Rs) w'->K (some ⟨b,0,none⟩) w'):F.Hb E a0 a1 a2 K w:=by
 unfold F.Hb T0.Hb;refine Ad H.emp.emp.emp.emp.emp fun b1 w2 J _=> ?_;have y:=J.drew;clear J;have t5: ∀{P0 Y P2 P3 P4:Pr} {w'},Sat (P0::Y::P2::P3::P4::Rs) w'->Sat Rs w':=fun h=>h.tail.tail.tail.tail.tail;refine⟨a0,y.A2 rfl,a1,y.cell rfl,a2,y.cell rfl,?_⟩
 repeat' first
  | (exact Sat.cell (by assumption) (by rfl))
  | (exact Sat.A2 (by assumption) (by rfl))
  | (refine Sl 1 (a:=a0) (l:=pl) (by assumption) (by rfl) (by intro w' h;exact h0 w' (t5 h)) l0 k0 fun s' w' d=> ?_)
  | (refine XL 2 (a:=a1) (l:=rf) (by assumption) (by rfl) (by intro w' h;exact h1 w' (t5 h)) l1 O fun s' w' d=> ?_)
  | (refine Sl 3 (a:=a2) (l:=fl) (by assumption) (by rfl) (by intro w' h;exact T w' (t5 h)) l2 k2 fun s' w' d=> ?_)
  | (refine PM 4 (by assumption) (by rfl) fun v w' d=> ?_)
  | (refine PM 5 (by assumption) (by rfl) fun v w' d=> ?_)
  | (refine Ad (by assumption) fun v w' d _=> ?_;exact C _ _ (Yp j d))
  | (refine Ad (by assumption) fun v w' d _=> ?_;exact C _ _ (Yp j (d.perm (.cons _ (.cons _ (.cons _ (.cons _ (.cons _ (.swap _ _ _)))))))))
  | (refine And.intro ?_ ?_)
theorem Yq: ∀(n:Nat) {l m k:Iv},Ok l->Ok m->Ok k->(∀p,mem m p->mem l p)->(∀p,mem k p->mem l p)->(∀p,mem m p-> ¬mem k p)-> ∀a:Int,cnt m a (a+n)+cnt k a (a+n)<=cnt l a (a+n)
 | 0,l,m,k,hl,hm,hk,_,_,_,a=>by
  have h1:=Ec hm (show a<=a+(0:Nat) by omega);have j:=Ec hk (show a<=a+(0:Nat) by omega);have d:=Cg l a (a+(0:Nat));omega
 | n+1,l,m,k,hl,hm,hk,h1,j,d,a=>by
  have y:=Yq n hl hm hk h1 j d a;have e:a+((n+1:Nat):Int)=(a+n)+1:=by omega
  rw[e];have sl:=IN hl (a:=a) (k:=a+n) (by omega);have sm:=IN hm (a:=a) (k:=a+n) (by omega);have v:=IN hk (a:=a) (k:=a+n) (by omega);by_cases c1:mem m (a+n)
  ·have:=sm.1 c1;have:=v.2 (d _ c1);have:=sl.1 (h1 _ c1);omega
  ·have:=sm.2 c1;by_cases c2:mem k (a+n)
   ·have:=v.1 c2;have:=sl.1 (j _ c2);omega
   ·have:=v.2 c2;by_cases c3:mem l (a+n)
    ·have:=sl.1 c3;omega
    ·have:=sl.2 c3;omega
structure Nv(V:VS):Prop where
 JA:Ok V.laid
 KT:Ok V.ready
 MZ:Ok V.rel
 rl: ∀p,mem V.ready p->mem V.laid p
 el: ∀p,mem V.rel p->mem V.laid p
 re: ∀p,mem V.ready p-> ¬mem V.rel p
 Gn: ∀p,mem V.laid p->512<=p/\p<34359738368
 clean: ∀p i,0<=i->i<1024-> ¬mem V.ready p->V.wd p i=0
 l9:DE V.ready+DE V.rel<=DE V.laid
theorem Sat.vok{b:Nat}{V:VS}(H:Sat (BR E b V::Rs) w):Nv V:=by
 obtain⟨g,d,H⟩:=Sat.KO.1 H;obtain⟨JA,KT,MZ⟩:=L5 H;refine⟨JA,KT,MZ,d.rl,d.el,d.re,d.Gn,fun p i h0 h1 j=> ?_,?_⟩
 ·rw[d.wd p i h0 h1];unfold wordOf;cases hG:g.G p with
  | some x=>exact absurd (d.pg p (by rw[hG];exact fun h=>by cases h)) j
  | none=>
   cases hf:g.f p with
   | none=>rfl
   | some x=>exact absurd (d.fi p (by rw[hf];exact fun h=>by cases h)) j
 ·have h1:=Ju (Ok.Wo JA) (a:=0) (b:=0+(34359738368:Nat)) fun n j=>by have:=d.Gn n j;omega
  have v:=Ju (Ok.Wo KT) (a:=0) (b:=0+(34359738368:Nat)) fun n j=>by have:=d.Gn n (d.rl n j);omega
  have y:=Ju (Ok.Wo MZ) (a:=0) (b:=0+(34359738368:Nat)) fun n j=>by have:=d.Gn n (d.el n j);omega
  have:=Yq 34359738368 JA KT MZ d.rl d.el d.re 0;omega
end
end Go.Sh
set_option linter.all false
set_option maxRecDepth 40000
set_option maxHeartbeats 4000000
namespace Go.Sh
section
variable{E:Env}{b:Nat}{V:VS}{Rs:List Pr}{w:World}
theorem VV(H:Sat (BR E b V::Rs) w){k:Int}{K:Int->World->Prop}
  (j: ∀w',Sat (BR E b V::Rs) w'->K (if k=2 then DE V.ready else if k=3 then DE V.rel else if k=1 then DE V.laid-DE V.ready-DE V.rel else 0) w'):
  F.ED E (some ⟨b,0,none⟩) k K w:=VL H (fun w' d=>j w' (H.nothing d)) H.vok.l9
variable(hE:EnvS E)
include hE
theorem VW(H:Sat (BR E b V::Rs) w){x:Int}(h0:0<=x){K:Int->World->Prop}
  (j: ∀w',Sat (BR E b V::Rs) w'->K (if I9 V.laid x then if I9 V.ready x then 2 else if I9 V.rel x then 3 else 1 else 0) w'):F.EE E (some ⟨b,0,none⟩) x K w:=
 VM hE H h0 fun w' d=>j w' (H.nothing d)
theorem XM(H:Sat (BR E b V::Rs) w){page AB:Int}(h0:0<=page)(J:0<AB)(v:page+AB<=34359738368)(j: ∀p,page<=p->p<page+AB->mem V.ready p)
  {K:Int->World->Prop}(y: ∀w',Sat (BR E b (Ga V page AB)::Rs) w'->K 0 w'):F.DK E (some ⟨b,0,none⟩) page AB K w:=by
 have C:=H.vok;have c2:cnt V.ready page (page+AB)=AB:=by have:=(DM C.KT (a:=page) (b:=page+AB) (by omega)).2 j;omega
 exact Tt hE H h0 (by omega) (by omega) (by omega) (fun h=>absurd ⟨by omega,v⟩ h) (fun _ h=>absurd c2 h) fun _ _ w' d=>y w' d
theorem eM(H:Sat Rs w){K:Option Addr->World->Prop}(d: ∀b w',Sat (BR E b (Mh [] [] [])::Rs) w'->K (some ⟨b,0,none⟩) w'):F.Hb E ⟨none,0,0⟩ ⟨none,0,0⟩ ⟨none,0,0⟩ K w:=
 Sm (a0:=⟨none,0,0⟩) (a1:=⟨none,0,0⟩) (a2:=⟨none,0,0⟩) H (pl:=[]) (rf:=[]) (fl:=[]) (by simp) (fun _ _=>show([]:List Value)=[]from rfl) rfl (by decide) (fun _ _=>show([]:List Value)=[]from rfl) rfl (by decide) (fun _ _=>show([]:List Value)=[]from rfl) rfl (by decide) d
end
end Go.Sh

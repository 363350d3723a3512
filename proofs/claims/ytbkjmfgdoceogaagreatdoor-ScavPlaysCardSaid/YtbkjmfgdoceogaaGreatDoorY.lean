/- The address space does what its pages and words say. No further condition. -/
import Derived.Test.YtbkjmfgdoceogaaGreatDoorS
import Derived.Test.YtbkjmfgdoceogaaGreatDoorA
import Derived.Test.YtbkjmfgdoceogaaGreatDoorM
import Derived.Test.YtbkjmfgdoceogaaGreatDoorV
set_option linter.all false
set_option maxRecDepth 4000
set_option maxHeartbeats 1000000
namespace Go.Sh
structure VS where
  laid:Iv
  ready:Iv
  rel:Iv
  wd:Int->Int->Int
  pl:List Int
  rf:List Bool
  fl:List Int
structure VG where
  sp:AZ
  sr:AZ
  sf:AZ
  s1:AZ
  s2:AZ
  s3:AZ
  fb:Nat
  pb:Nat
  G:jD
  f:Int->Option Int
def HU(s:AZ):Value:=.slice s.base s.len s.cap
def Xx(V:VS)(g:VG):List Value:=
  [HU g.sp,HU g.sr,HU g.sf,HU g.s1,.int .u64 (CK V.laid),HU g.s2,.int .u64 (CK V.ready),HU g.s3,.int .u64 (CK V.rel),.map (some g.fb),.map (some g.pb)]
def Mu(g:VG):Int->Option Value:=fun p=>(g.f p).map fun n=>.int .u64 n
def VB(g:VG):Int->Option Value:=fun p=>(g.G p).map fun x=>.pointer (some ⟨x.1,0,none⟩)
def Ea(E:Env)(b:Nat)(V:VS)(g:VG):List Pr:=
  [Cells b 0 (Xx V g),Ih E g.s1 V.laid,Ih E g.s2 V.ready,Ih E g.s3 V.rel,F4 g.sp (ints .u64 V.pl),F4 g.sr (BS V.rf),F4 g.sf (ints .u64 V.fl),
   Dx g.fb .u64 (Mu g),Dx g.pb .u64 (VB g),OC 1024 g.G]
def wordOf(g:VG)(p i:Int):Int:=match g.G p with
  | some x=>x.2 i
  | none=>(g.f p).getD 0
structure WA(V:VS)(g:VG):Prop where
  wd: ∀p i,0<=i->i<1024->V.wd p i=wordOf g p i
  pg: ∀p,g.G p≠none->mem V.ready p
  fi: ∀p,g.f p≠none->mem V.ready p
  rl: ∀p,mem V.ready p->mem V.laid p
  el: ∀p,mem V.rel p->mem V.laid p
  re: ∀p,mem V.ready p-> ¬mem V.rel p
  Gc: ∀p,mem V.laid p->512<=p/\p<34359738368
  R7: ∀x∈V.pl,0<=x/\x<18446744073709551616
def Bf(E:Env)(b:Nat)(V:VS):Pr:=Ex fun g=>ID (WA V g) (N9 (Ea E b V g))
section
variable{E:Env}{b:Nat}{V:VS}{Rs:List Pr}{w:World}
theorem Sat.K3:Sat (Bf E b V::Rs) w↔ ∃g,WA V g/\Sat (Ea E b V g++Rs) w:=by
  unfold Bf;rw[Sat.ex];constructor
  · rintro⟨g,h⟩;obtain⟨h1,d⟩:=Sat.where.1 h;exact⟨g,h1,Sat.star.1 d⟩
  · rintro⟨g,h1,d⟩;exact⟨g,Sat.where.2 ⟨h1,Sat.star.2 d⟩⟩
theorem Jx{g:VG}(H:Sat (Ea E b V g++Rs) w):Ok V.laid/\Ok V.ready/\Ok V.rel:=
  ⟨(Ih.ok (H.front 1 rfl)).1,(Ih.ok (H.front 2 rfl)).1,(Ih.ok (H.front 3 rfl)).1⟩
theorem Pd{g:VG}(H:Sat (Ea E b V g++Rs) w){K:Bool->Bool->World->Prop}(h0:V.rf=[]->K false false w)
    (h1: ∀x r,V.rf=x::r-> ∀w',Sat (Ea E b {V with rf:=r} {g with sr:=⟨Fe g.sr.base g.sr.cap 1 1,g.sr.len-1,g.sr.cap-1⟩}++Rs) w'->K x true w'):
    F.EO E (some ⟨b,1,none⟩) K w:=by
  unfold F.EO;have d:=(H.front 5 rfl).Iy;have c:=H.BI (o:=1) rfl;simp only[AI];refine⟨g.sr,c,AE (fun T=> ?_) fun N=>h0 ?_⟩
  · cases hr:V.rf with
    | nil=>have:=d.1;rw[hr]at this;simp[BS]at this;omega
    | cons x r=>
      obtain⟨a,J,Y⟩:=(H.front 5 rfl).Ji (j:=0) (v:=.bool x) (by rw[hr];rfl);refine⟨g.sr,c,?_⟩;rw[J];refine⟨⟨by decide,by omega⟩,x,Y,g.sr,c,⟨by decide,by omega⟩,?_⟩;have C:=Sat.back 5 ((H.front 5 rfl).Jj (n:=1) (by omega)) (by simp[Ea]);rw[hr]at C;exact Gs C rfl (by simp[Xx]) fun w' O=>h1 x r hr w' O
  · have:=d.1;have:(BS V.rf).length=0:=by omega
    simpa[BS]using this
theorem R8{o:Nat}{s:AZ}{l:List Int}{rest:List Pr}{vs:List Value}(H:Sat (Cells b 0 vs::F4 s (ints .u64 l)::rest) w)(d:vs[o]? =some (HU s)){K:Int->Bool->World->Prop}
    (h0:l=[]->K 0 false w)
    (h1: ∀x r,l=x::r-> ∀w',Sat (Cells b 0 (vs.set o (HU ⟨Fe s.base s.cap 1 1,s.len-1,s.cap-1⟩))::F4 ⟨Fe s.base s.cap 1 1,s.len-1,s.cap-1⟩ (ints .u64 r)::rest) w'->K x true w'):
    F.Co E (some ⟨b,o,none⟩) K w:=by
  unfold F.Co;have J:=(H.front 1 rfl).Iy;have c:=H.BI d;simp only[AI];refine⟨s,c,AE (fun Y=> ?_) fun O=>h0 ?_⟩
  · cases hr:l with
    | nil=>have:=J.1;rw[hr]at this;simp[ints]at this;omega
    | cons x r=>
      obtain⟨a,N,hc⟩:=(H.front 1 rfl).Ji (j:=0) (v:=.int .u64 x) (by rw[hr];rfl);refine⟨s,c,?_⟩;rw[N];refine⟨⟨by decide,by omega⟩,x,hc,s,c,⟨by decide,by omega⟩,?_⟩;have C:=Sat.Mo 0 (((H.front 1 rfl).Jj (n:=1) (by omega)).perm (.swap _ _ _)) (by simp);rw[hr]at C;exact Gs C rfl (List.getElem?_eq_some_iff.1 d).1 fun w' T=>h1 x r hr w' T
  · have:(ints .u64 l).length=0:=by omega
    simpa[ints]using this
def Mv(l:Iv)(page AA:Int):Prop:=page %512=0/\page≠0/\page+AA<=34359738368/\cnt l page (page+AA)=0
structure IS(l:Iv)(frm AA at_:Int):Prop where
  mul:at_ %512=0
  low:512<=at_
  fr:frm<=at_
  free: ∀m,at_<=m->m<at_+AA-> ¬mem l m
  first: ∀a,a %512=0->512<=a->frm<=a->a<at_-> ∃m,a<=m/\m<a+AA/\mem l m
variable(hE:EnvS E)
include hE
theorem Pe{g:VG}(H:Sat (Ea E b V g++Rs) w){page AA:Int}(h0:0<=page)(h1:page<18446744073709551616)(N:0<=AA)(O:AA<=134217728){K:Bool->World->Prop}
    (d: ∀r w',(r=true↔Mv V.laid page AA)->Ext AK w w'->K r w'):F.DC E (some ⟨b,0,none⟩) page AA K w:=by
  unfold F.DC T0.DC;have j:=Ext.refl AK w;have hm:Int.tmod page 512=page %512:=Int.tmod_eq_emod_of_nonneg h0;rw[hm];refine⟨by decide,CO (fun m0=>DE (fun z=>AE (fun hle=> ?_) fun v=> ?_) fun z=> ?_) fun m0=> ?_⟩
  · rw[AG (n:=34359738368-page)];refine AE (fun J=> ?_) fun v=> ?_
    · rw[AG (n:=page+AA)];simp only[AI,add_eq,Nat.zero_add];refine Lf hE H (o:=3) rfl rfl h0 (by omega) (by omega) fun w' C=>d _ w' ?_ C;unfold Mv;simp only[beq_iff_eq];exact⟨fun h=>⟨m0,z,by omega,h⟩,fun h=>h.2.2.2⟩
    · refine d false w ⟨fun h=>(by cases h),fun h=> ?_⟩ j;have:=h.2.2.1;omega
  · refine d false w ⟨fun h=>(by cases h),fun h=> ?_⟩ j;have:=h.2.2.1;omega
  · exact d false w ⟨fun h=>(by cases h),fun h=>absurd z h.2.1⟩ j
  · exact d false w ⟨fun h=>(by cases h),fun h=>absurd h.1 m0⟩ j
theorem Tq{g:VG}(hI:WA V g)(H:Sat (Ea E b V g++Rs) w){C AA:Int}(h0:0<=C)(h1:C<18446744073709551616)(p0:0<AA)(p1:AA<=134217728){K:Int->Bool->World->Prop}
    (a3:34359738368<C->K 0 false w)
    (aX:C<=34359738368-> ∀at_ r w',IS V.laid C AA at_->at_<=34359738880->(r=true↔at_+AA<=34359738368)->Ext AK w w'->K at_ r w'):
    F.Cs E (some ⟨b,0,none⟩) C AA K w:=by
  unfold F.Cs T0.Cs;refine AE a3 fun hle=>⟨by decide,AY fun bJ aQ=> ?_⟩;have aO: ∀n:Int,0<=n->n<=34359738368->u64 (u64 (Int.tdiv (u64 (u64 (n+512)-1)) 512)*512)=(n+511)/512*512:=by
    intro n h0 h1;rw[AG (n:=n+512),AG (n:=n+512-1),Int.tdiv_eq_ediv_of_nonneg (by omega),AG (n:=(n+512-1)/512),AG];rw[show n+512-1=n+511 by omega]
  rw[aO C h0 (by omega),LP]at aQ;simp only[AI,add_eq,Nat.zero_add];have hr:=(H.setAt (o:=3) rfl rfl).row;have hlen:=hr.len;have bE:=hr.small;have a8:Jr=4398046511104:=rfl;refine Ak (fun st w'=>Ext AK w w'/\IS V.laid C AA st.1/\st.1<=34359738880) ?_ ?_
  · unfold F.DN;simp only[AI];refine⟨g.s1,hr.c0,AM (fun st w'=> ∃k:Nat,st.2.1=(k:Int)/\k<=V.laid.length/\Ext AK w w'/\st.1 %512=0/\512<=st.1/\C<=st.1/\st.1<=34359738880/\(∀q∈V.laid.take k,q.2<=st.1)/\
      ∀a,a %512=0->512<=a->C<=a->a<st.1-> ∃m,a<=m/\m<a+AA/\mem V.laid m) (fun st _=>(V.laid.length-st.2.1).toNat)
      ⟨0,rfl,Nat.zero_le _,Ext.refl _ _,by simp only;omega,by simp only;omega,by simp only;omega,by simp only;omega,by simp,fun a h1 h2 h3 h4=>by simp only at h4;omega⟩ ?_⟩
    rintro⟨at_,i',v⟩ _ w9 ⟨k,hk,bG,aD,m0,m1,m2,m3,J,d⟩;simp only at hk m0 m1 m2 m3 J d⊢;subst hk;refine AE (fun bT=> ?_) fun bH=>⟨aD,⟨m0,m1,m2,fun m h1 h2 hm=> ?_,d⟩,m3⟩
    · have aJ:k<V.laid.length:=by omega
      obtain⟨q,hq⟩: ∃q,V.laid[k]? =some q:=⟨_,List.getElem?_eq_getElem aJ⟩;obtain⟨g1,g2⟩:=Jq V.laid k q hq;have bO:=hr.ok.get hq;have bS:=hI.Gc (q.2-1) ⟨q,List.mem_of_getElem? hq,by omega,by omega⟩;have T:=(hr.own.ext aD fun b hb f=>f);obtain⟨bb,hb⟩:=T.HM (by omega);rw[hb];simp only[AI,add_eq,Nat.zero_add,Int.toNat_natCast,Nat.add_zero];have c1:=T.cell hb g1;have c2:=T.cell hb g2;rw[add_eq,Nat.zero_add]at c1 c2;refine⟨⟨by omega,by omega⟩,q.1,c1,q.2,c2,?_⟩;refine Am (Sat.start w9) fun aM bL aY a7=>Jg aY (by rfl) (by simp[Value.oneCell']) fun aH O=> ?_;have aE:Ext AK w aH:=aD.trans' (O.JT 1 rfl);have ei:i64 ((k:Int)+1)=((k+1:Nat):Int):=by rw[AN];omega
      have aA: ∀x,q.2<=x->(∀p∈V.laid.take k,p.2<=x)-> ∀p∈V.laid.take (k+1),p.2<=x:=by
        intro x h1 h2 p hp;rw[List.take_succ_eq_append_getElem aJ,List.mem_append,List.mem_singleton]at hp;rcases hp with hp|rfl
        · exact h2 p hp
        · have:V.laid[k]=q:=by rw[List.getElem?_eq_getElem aJ]at hq;exact Option.some.inj hq
          rw[this];exact h1
      refine⟨q.2,O.BI rfl,AE (fun hle=>⟨⟨k+1,ei,by omega,aE,m0,m1,m2,m3,aA _ hle J,d⟩,by simp only[ei];omega⟩) fun bF=> ?_⟩;have Y: ∀w',Sat [Cells aM E.AD [.int .u64 q.1,.int .u64 q.2],Old w9] w'-> ¬(at_<=q.1/\AA<=q.1-at_)-> ∀(nx:Int->Prop),
          (∀a,(a %512=0/\512<=a/\C<=a/\a<=34359738880/\(∀p∈V.laid.take (k+1),p.2<=a)/\(∀a',a' %512=0->512<=a'->C<=a'->a'<a-> ∃m,a'<=m/\m<a'+AA/\mem V.laid m))->Ext AK w w'->nx a)->
          ∃aR:Int,w'.cell? ⟨aM,1,none⟩=some (.int .u64 aR)/\512≠(0:Int)/\Gl (u64 ((u64 (Int.tdiv (u64 ((u64 (aR+512))-1)) 512))*512):Int) fun aI=>nx aI:=by
        intro w' H' bM nx a2;refine⟨q.2,H'.BI rfl,by decide,AY fun a ha=> ?_⟩;rw[aO q.2 (by omega) (by omega)]at ha;refine a2 a ⟨by omega,by omega,by omega,by omega,aA a (by omega) fun p hp=>by have:=J p hp;omega,fun a' b1 b2 b3 b4=> ?_⟩ (aD.trans' (H'.JT 1 rfl));by_cases e:a'<at_
        · exact d a' b1 b2 b3 e
        · by_cases e2:q.1<=a'
          · exact⟨a',by omega,by omega,q,List.mem_of_getElem? hq,e2,by omega⟩
          · exact⟨q.1,by omega,by omega,q,List.mem_of_getElem? hq,by omega,by omega⟩
      refine Ax ⟨q.1,O.BI rfl,AE (fun a4=>⟨q.1,O.BI rfl,?_⟩) fun aN j=>Y aH O (fun h=>aN h.1) _ fun a h1 h2=> ?_⟩
      · rw[AG (n:=q.1-at_)];refine AE (fun a6=>⟨aE,⟨m0,m1,m2,fun m h1 h2 hm=> ?_,d⟩,m3⟩) fun bC j=>Y aH O (fun h=>by omega) _ fun a h1 h2=> ?_
        · obtain⟨p,hp,h3,h4⟩:=hm;obtain⟨i,hi⟩:=List.mem_iff_getElem?.1 hp;rcases Nat.lt_trichotomy i k with h|h|h
          · have:=J p (List.mem_of_getElem? (i:=i) (by rw[List.getElem?_take,if_pos h];exact hi));omega
          · subst h;rw[hq]at hi;cases hi;omega
          · have:=hr.ok.lt h hq hi;omega
        · exact⟨⟨k+1,ei,by omega,h2,h1.1,h1.2.1,h1.2.2.1,h1.2.2.2.1,h1.2.2.2.2.1,h1.2.2.2.2.2⟩,by simp only[ei];omega⟩
      · exact⟨⟨k+1,ei,by omega,h2,h1.1,h1.2.1,h1.2.2.1,h1.2.2.2.1,h1.2.2.2.2.1,h1.2.2.2.2.2⟩,by simp only[ei];omega⟩
    · obtain⟨p,hp,h3,h4⟩:=hm;have:=J p (by rw[List.take_of_length_le (by omega)];exact hp);omega
  · rintro⟨at_,v⟩ _ w4 ⟨aP,N,aF⟩;simp only at N aF⊢;refine Pe hE (H.nothing aP) (by have:=N.low;omega) (by omega) (by omega) p1 fun r w' aW aZ=>aX (by omega) at_ r w' N aF ?_ (aP.trans' aZ);rw[aW];have:=N.mul;have:=N.low;constructor
    · intro h;exact h.2.2.1
    · intro h;exact⟨N.mul,by omega,h,(CU hr.ok (by omega)).2 N.free⟩
end
end Go.Sh
set_option linter.all false
set_option maxRecDepth 4000
set_option maxHeartbeats 1000000
namespace Go.Sh
def Qg(l:Iv)(hint AA at_:Int):Prop:=hint<=34359738368/\IS l hint AA at_/\at_+AA<=34359738368
def HI(l:Iv)(hint AA:Int):Prop:=34359738368<hint∨ ∃a,IS l hint AA a/\ ¬a+AA<=34359738368
def K4(V:VS)(AA:Int):Prop:= ∀p r,V.pl=p::r-> ¬Mv V.laid p AA
def FL(V:VS)(hint AA at_:Int):Prop:=
 (∃p r,V.pl=p::r/\Mv V.laid p AA/\at_=p)∨(K4 V AA/\(Qg V.laid hint AA at_∨(HI V.laid hint AA/\Qg V.laid 0 AA at_)))
def Ij(V:VS)(hint AA:Int):Prop:=K4 V AA/\HI V.laid hint AA/\HI V.laid 0 AA
theorem IS.fits{l:Iv}(h:Ok l){hint AA at_:Int}(j:0<AA)(hp:IS l hint AA at_)(d:at_+AA<=34359738368):Mv l at_ AA:=
 ⟨hp.mul,by have:=hp.low;omega,d,(CU h (by omega)).2 hp.free⟩
theorem FL.fits{V:VS}(h:Ok V.laid){hint AA at_:Int}(j:0<AA)(v:FL V hint AA at_):Mv V.laid at_ AA:=by
 rcases v with ⟨p,r,_,h1,rfl⟩|⟨_,⟨_,h1,d⟩|⟨_,_,h1,d⟩⟩
 ·exact h1
 ·exact h1.fits h j d
 ·exact h1.fits h j d
section
variable{E:Env}{b:Nat}{V:VS}{Rs:List Pr}{w:World}(hE:EnvS E)
include hE
theorem Qh(H:Sat (Bf E b V::Rs) w){hint AA:Int}(h0:0<=hint)(h1:hint<18446744073709551616)(p0:0<=AA)(p1:AA<18446744073709551616){K:Int->Int->World->Prop}
  (aY:(AA=0∨AA %512≠0∨134217728<AA)->K 0 1 w)
  (bB: ¬(AA=0∨AA %512≠0∨134217728<AA)-> ∀r,V.rf=true::r-> ∀w',Sat (Bf E b {V with rf:=r}::Rs) w'->K 0 13 w')
  (bO: ¬(AA=0∨AA %512≠0∨134217728<AA)->(∀r,V.rf≠true::r)->Ij V hint AA-> ∀w',Sat (Bf E b {V with rf:=V.rf.tail,pl:=V.pl.tail}::Rs) w'->K 0 13 w')
  (bJ: ¬(AA=0∨AA %512≠0∨134217728<AA)->(∀r,V.rf≠true::r)-> ∀at_,FL V hint AA at_-> ∀w',Sat (Bf E b {V with rf:=V.rf.tail,pl:=V.pl.tail,laid:=Bk V.laid at_ (at_+AA)}::Rs) w'->K at_ 0 w'):
  F.C2 E (some ⟨b,0,none⟩) hint AA K w:=by
 unfold F.C2 T0.C2;simp only[Nat.mul_one];rw[Int.tmod_eq_emod_of_nonneg p0];refine Ax (CO (fun e j=>Ao rfl (aY (.inl e))) fun n1=>⟨by decide,DE (fun e j=>Ao rfl (aY (.inr (.inl e)))) fun n2 j=>AE (fun e=>aY (.inr (.inr e))) fun n3=> ?_⟩);have aB: ¬(AA=0∨AA %512≠0∨134217728<AA):=by omega
 obtain⟨g,N,H⟩:=Sat.K3.1 H;obtain⟨aN,bW,bU⟩:=Jx H;simp only[AI,add_eq,Nat.zero_add];have aG:(∀r,V.rf≠true::r)-> ∀(sr:AZ) (w7:World),Sat (Ea E b {V with rf:=V.rf.tail} {g with sr:=sr}++Rs) w7->
   F.Co E (some ⟨b,0,none⟩) (fun r9 bA aK=>
    Av (Bool×Unit) (fun a0=>
     CND (bA) (
      F.DC E (some ⟨b,0,none⟩) r9 AA (fun bN aR=>
      a0 (bN,()) aR
      ) aK
     ) (
      a0 (false,()) aK
     )
    ) fun bI _ aA=>
     AL (.cells ⟨[.int .u64 hint,.int .u64 0]⟩ E.AH) aA fun aD aI=>
     Be (Int×Bool×Int×Unit) (r9,bI.1,0,()) aI fun d _ J C=>
      CND (decide ((d.2.2.1:Int)<2)) (
       ((0:Int)<=d.2.2.1/\(d.2.2.1:Int)<(2:Nat))/\
       ∃aF:Int,J.cell? (Addr.mk aD (Int.toNat d.2.2.1) none)=some (.int .u64 aF)/\
       CND (!d.2.1) (
        F.Cs E (some ⟨b,0,none⟩) aF AA (fun aU aT aH=>
        C (aU,aT,i64 (d.2.2.1+1),()) aH
        ) J
       ) (
        C (d.1,d.2.1,i64 (d.2.2.1+1),()) J
       )
      ) (
       CND (!d.2.1) (
        K 0 13 J
       ) (
        F.Aq E (some ⟨b,3,none⟩) d.1 (u64 (d.1+AA)) (fun aC=>
        K d.1 0 aC
        ) J
       )
      )) w7:=by
  intro a1 sr w7 H7;have aE: ∀(sp:AZ) (pl:List Int) (aS:Int) (Tr:Bool) (aA:World),pl=V.pl.tail->(Tr=true->FL V hint AA aS)->(Tr=false->K4 V AA)->
    Sat (Ea E b {V with rf:=V.rf.tail,pl:=pl} {g with sr:=sr,sp:=sp}++Rs) aA->
    AL (.cells ⟨[.int .u64 hint,.int .u64 0]⟩ E.AH) aA fun aD aI=>
     Be (Int×Bool×Int×Unit) (aS,Tr,0,()) aI fun d _ J C=>
      CND (decide ((d.2.2.1:Int)<2)) (
       ((0:Int)<=d.2.2.1/\(d.2.2.1:Int)<(2:Nat))/\
       ∃aF:Int,J.cell? (Addr.mk aD (Int.toNat d.2.2.1) none)=some (.int .u64 aF)/\
       CND (!d.2.1) (
        F.Cs E (some ⟨b,0,none⟩) aF AA (fun aU aT aH=>
        C (aU,aT,i64 (d.2.2.1+1),()) aH
        ) J
       ) (
        C (d.1,d.2.1,i64 (d.2.2.1+1),()) J
       )
      ) (
       CND (!d.2.1) (
        K 0 13 J
       ) (
        F.Aq E (some ⟨b,3,none⟩) d.1 (u64 (d.1+AA)) (fun aC=>
        K d.1 0 aC
        ) J
       )
      ):=by
   intro sp pl aS Tr aA Y bF bQ a9;subst Y;have aP:WA {V with rf:=V.rf.tail,pl:=V.pl.tail} {g with sr:=sr,sp:=sp}:=⟨N.wd,N.pg,N.fi,N.rl,N.el,N.re,N.Gc,fun x hx=>N.R7 x (List.mem_of_mem_tail hx)⟩;refine Am a9 fun aD aI bE _=> ?_;refine AM (fun st w'=>0<=st.2.2.1/\st.2.2.1<=2/\Sat (Cells aD E.AH [.int .u64 hint,.int .u64 0]::(Ea E b {V with rf:=V.rf.tail,pl:=V.pl.tail} {g with sr:=sr,sp:=sp}++Rs)) w'/\
    (st.2.1=true->FL V hint AA st.1)/\(st.2.1=false->K4 V AA/\(1<=st.2.2.1->HI V.laid hint AA)/\(2<=st.2.2.1->HI V.laid 0 AA))) (fun st _=>(2-st.2.2.1).toNat)
    ⟨Int.le_refl _,by show(0:Int)<=2;omega,bE,bF,fun h=>⟨bQ h,fun h=>by simp only at h;omega,fun h=>by simp only at h;omega⟩⟩ ?_
   rintro⟨at_,ok,k,v⟩ _ J ⟨k0,k1,T,hc,hn⟩;simp only at k0 k1 T hc hn⊢;refine AE (fun b7=> ?_) fun b1=> ?_
   ·rw[AN (n:=k+1)];refine⟨⟨k0,by omega⟩,if k=0 then hint else 0,?_,?_⟩
    ·by_cases e:k=0
     ·subst e;exact T.BI rfl
     ·have:k=1:=by omega
      subst this;exact T.BI rfl
    cases ok with
    | true=>exact Ab rfl ⟨⟨by show 0<=k+1;omega,by show k+1<=2;omega,T,hc,fun h=>by cases h⟩,by show(2-(k+1)).toNat<(2-k).toNat;omega⟩
    | false=>
     obtain⟨n1,n2,n3⟩:=hn rfl;have bH:0<=(if k=0 then hint else 0):=by split<;>omega
     have bC:(if k=0 then hint else 0)<18446744073709551616:=by split<;>omega
     have a4:HI V.laid (if k=0 then hint else 0) AA->(1<=k+1->HI V.laid hint AA)/\(2<=k+1->HI V.laid 0 AA):=by
      intro h;by_cases e:k=0
      ·rw[if_pos e]at h;exact⟨fun _=>h,fun h=>by omega⟩
      ·rw[if_neg e]at h;exact⟨fun _=>n2 (by omega),fun _=>h⟩
     refine Ao rfl (Tq hE aP T.tail bH bC (by omega) (by omega) (fun bD=> ?_) fun hle a r aH Y b5 hr a5=> ?_)
     ·exact⟨⟨by show 0<=k+1;omega,by show k+1<=2;omega,T,fun h=>(by cases h),fun _=>⟨n1,a4 (.inl bD)⟩⟩,by show(2-(k+1)).toNat<(2-k).toNat;omega⟩
     ·refine⟨⟨by show 0<=k+1;omega,by show k+1<=2;omega,T.nothing a5,fun h=> ?_,fun h=>⟨n1,a4 (.inr ⟨a,Y,fun h2=> ?_⟩)⟩⟩,by show(2-(k+1)).toNat<(2-k).toNat;omega⟩
      ·have aO:=hr.1 h;refine .inr ⟨n1,?_⟩;by_cases e:k=0
       ·rw[if_pos e]at Y hle;exact .inl ⟨hle,Y,aO⟩
       ·rw[if_neg e]at Y hle;exact .inr ⟨n2 (by omega),hle,Y,aO⟩
      ·have h':r=false:=h;rw[hr.2 h2]at h';cases h'
   ·have a6:k=2:=by omega
    subst a6;cases ok with
    | false=>
     obtain⟨n1,n2,n3⟩:=hn rfl;exact Ao rfl (bO aB a1 ⟨n1,n2 (by decide),n3 (by decide)⟩ J (Sat.K3.2 ⟨_,aP,T.tail⟩))
    | true=>
     have aX:=hc rfl;have aQ:=aX.fits aN (by omega);have hmul:=aQ.1;have b4:=aQ.2.1;have aM:0<=at_:=by
      rcases aX with ⟨p,r,h1,_,h2⟩|⟨_,⟨_,h1,_⟩|⟨_,_,h1,_⟩⟩
      ·rw[h2];exact(N.R7 p (by rw[h1];simp)).1
      ·have:=h1.low;omega
      ·have:=h1.low;omega
     have bV:=aQ.2.2.1;have bX:Jr=4398046511104:=rfl;rw[AG (n:=at_+AA)];refine Ab rfl (TZ hE T.tail (o:=3) rfl rfl aM (by omega) (by omega) fun aC s' bR=>bJ aB a1 at_ aX aC (Sat.K3.2 ⟨{g with sr:=sr,sp:=sp,s1:=s'},?_,bR⟩));have hm: ∀p,mem (Bk V.laid at_ (at_+AA)) p↔mem V.laid p∨(at_<=p/\p<at_+AA):=fun p=>Bo aN (by omega) aM (by omega) p;refine⟨N.wd,N.pg,N.fi,fun p hp=>(hm p).2 (.inl (N.rl p hp)),fun p hp=>(hm p).2 (.inl (N.el p hp)),N.re,fun p hp=> ?_,aP.R7⟩;rcases(hm p).1 hp with h|h
     ·exact N.Gc p h
     ·omega
  refine R8 (o:=0) (H7.DF 3 rfl) rfl (fun O=> ?_) fun x r hx aK bL=> ?_
  ·refine Ax (Ab rfl fun j=>aE g.sp V.pl 0 false w7 ?_ (fun h=>by cases h) (fun _ p r h=> ?_) H7)
   ·have:V.pl=[]:=O;rw[this];rfl
   ·have:V.pl=[]:=O;rw[this]at h;cases h
  ·have aJ:V.pl=x::r:=hx;have a8:Sat (Ea E b {V with rf:=V.rf.tail,pl:=r} {g with sr:=sr,sp:=⟨Fe g.sp.base g.sp.cap 1 1,g.sp.len-1,g.sp.cap-1⟩}++Rs) aK:=Sat.Mo 3 bL (by simp[Ea]);obtain⟨x0,x1⟩:=N.R7 x (by rw[aJ];simp);refine Ax (Ao rfl (Pe hE a8 x0 x1 (by omega) (by omega) fun bS aR aL a3 j=>aE _ r x bS aR (by rw[aJ];rfl) (fun h=>.inl ⟨x,r,aJ,aL.1 h,rfl⟩) (fun h p r' hp hf=> ?_) (a8.nothing a3)));rw[aJ]at hp;cases hp;rw[aL.2 hf]at h;cases h
 refine Pd H (fun O=>Ab rfl (aG (fun r h=>by rw[O]at h;cases h) g.sr w ?_)) fun x r hx w7 H7=> ?_
 ·rw[O];have:{V with rf:=[]}=V:=by rw[<-O]
  show Sat (Ea E b {V with rf:=[]} {g with sr:=g.sr}++Rs) w;rw[this];exact H
 ·refine AR (fun e=>bB aB r (by rw[hx,e]) w7 (Sat.K3.2 ⟨{g with sr:=⟨Fe g.sr.base g.sr.cap 1 1,g.sr.len-1,g.sr.cap-1⟩},⟨N.wd,N.pg,N.fi,N.rl,N.el,N.re,N.Gc,N.R7⟩,H7⟩)) fun e=>aG (fun r' h=> ?_) ⟨Fe g.sr.base g.sr.cap 1 1,g.sr.len-1,g.sr.cap-1⟩ w7 ?_
  ·rw[hx,e]at h;cases h
  ·rw[hx];exact H7
end
end Go.Sh
set_option linter.all false
set_option maxRecDepth 4000
set_option maxHeartbeats 1000000
namespace Go.Sh
theorem R9{p:Int×Int}{a b n:Int}:mem (Gj p a b) n↔(p.1<=n/\n<p.2)/\a<=n/\n<b:=by
 unfold Gj;split
 ·constructor
  ·intro h;exact absurd h (Ar n)
  ·intro h;omega
 ·rw[mem_cons];constructor
  ·rintro(h|h)
   ·simp only at h;omega
   ·exact absurd h (Ar n)
  ·intro h;left;simp only;omega
theorem Jy{l:Iv}{a b n:Int}:mem (withinL l a b) n↔mem l n/\a<=n/\n<b:=by
 induction l with
 | nil=>exact⟨fun h=>absurd h (Ar n),fun h=>absurd h.1 (Ar n)⟩
 | cons p r ih=>
  rw[withinL,mem_append,R9,ih,mem_cons];constructor
  ·rintro(h|h)
   ·exact⟨.inl h.1,h.2⟩
   ·exact⟨.inr h.1,h.2⟩
  ·rintro⟨h|h,d⟩
   ·exact .inl ⟨h,d⟩
   ·exact .inr ⟨h,d⟩
theorem OQ{l:Iv}(h:Ok l){a b:Int}(C:a<b):Ok (withinL l a b):=by
 induction l with
 | nil=>exact trivial
 | cons p r ih=>
  rw[withinL,DL];refine⟨?_,ih h.tail,?_⟩
  ·unfold Gj;split
   ·exact trivial
   ·have:=h.1;have:=h.2.1;have:=h.2.2.1;exact⟨by simp only;omega,by simp only;omega,by simp only;omega,by simp,trivial⟩
  ·intro q d v j;obtain⟨h1,J,N⟩:=K0 h.tail C v j;have hm:mem r v.1:=(Jy.1 ⟨v,j,Int.le_refl _,J⟩).1;obtain⟨z,hz,O,K⟩:=hm;have:=h.2.2.2.1 z hz;unfold Gj at d;split at d
   ·cases d
   ·rw[List.mem_singleton]at d;subst d;simp only;omega
def Ik(l:Iv)(n:Int):Bool:=l.any fun q=>decide (q.1<=n/\n<q.2)
theorem A9{l:Iv}{n:Int}:Ik l n=true↔mem l n:=by
 unfold Ik mem;simp only[List.any_eq_true,decide_eq_true_iff]
section
variable{E:Env}{b:Nat}{V:VS}{Rs:List Pr}{w:World}
theorem OR{page AA:Int}(h0:0<=page)(v:0<=AA)(C:AA<18446744073709551616){K:Bool->World->Prop}(d:K (decide (AA≠0/\page+AA<=34359738368)) w):F.Ga E page AA K w:=by
 unfold F.Ga;refine DE (fun z=>AE (fun hle=> ?_) fun j=> ?_) fun z=> ?_
 ·rw[AG (n:=34359738368-page)];rwa[show decide (AA<=34359738368-page)=decide (AA≠0/\page+AA<=34359738368)from decide_eq_decide.2 (by omega)]
 ·rwa[show decide (AA≠0/\page+AA<=34359738368)=false from decide_eq_false (by omega)]at d
 ·rwa[show decide (AA≠0/\page+AA<=34359738368)=false from decide_eq_false (by omega)]at d
theorem OS{t o:Nat}{vs:List Value}{s:AZ}{l:Iv}{rest:List Pr}(H:Sat (Cells b t vs::Ih E s l::rest) w)(h1:vs[o+1]? =some (.int .u64 (CK l))){K:Int->World->Prop}(d:K (CK l) w):
  F.Cv E (some ⟨b,o,none⟩) K w:=by
 unfold F.Cv;simp only[AI,add_eq];exact⟨_,H.BI h1,d⟩
variable(hE:EnvS E)
theorem SA(H:Sat (Bf E b V::Rs) w){k:Int}{K:Int->World->Prop}
  (d: ∀w',Ext AK w w'->K (if k=2 then CK V.ready else if k=3 then CK V.rel else if k=1 then CK V.laid-CK V.ready-CK V.rel else 0) w')(hle:CK V.ready+CK V.rel<=CK V.laid):
  F.DI E (some ⟨b,0,none⟩) k K w:=by
 obtain⟨g,Y,H⟩:=Sat.K3.1 H;obtain⟨Gz,IT,JM⟩:=Jx H;unfold F.DI T0.DI;simp only[AI,add_eq,Nat.zero_add];refine CO (fun e=>OS (o:=5) (H.DF 1 rfl) rfl ?_) fun e=>CO (fun j=>OS (o:=7) (H.DF 2 rfl) rfl ?_) fun j=>CO (fun C=> ?_) fun C=> ?_
 ·have:=d w (Ext.refl _ _);rwa[if_pos e]at this
 ·have:=d w (Ext.refl _ _);rwa[if_neg e,if_pos j]at this
 ·have v:=H.drew;refine OS (o:=3) v rfl (OS (o:=5) (v.DF 1 rfl) rfl (OS (o:=7) (v.DF 2 rfl) rfl (AY fun t J=> ?_)));have N:=GY IT;have T:=GY JM;have O:=QW Gz;rw[AG (n:=CK V.laid-CK V.ready),AG]at J;have:=d w.drew (Ext.drew _ w);rw[if_neg e,if_neg j,if_pos C]at this;rw[J];exact this
 ·have:=d w (Ext.refl _ _);rwa[if_neg e,if_neg j,if_neg C]at this
include hE
theorem Pf{t o:Nat}{vs:List Value}{s:AZ}{l:Iv}{rest:List Pr}(H:Sat (Cells b t vs::Ih E s l::rest) w)(h0:vs[o]? =some (.slice s.base s.len s.cap))(h1:vs[o+1]? =some (.int .u64 (CK l)))
  {x y:Int}(v:0<=x)(J:y<18446744073709551616){K:AZ->World->Prop}
  (C: ∀s' w',Sat (Row E.AD 2 s' (flat (withinL l x y))::Cells b t vs::Ih E s l::rest) w'->Ext AK w w'->K s' w'):F.BK E (some ⟨b,o,none⟩) x y K w:=by
 refine Rz hE (H.setAt h0 h1).row v J fun s' w' d j=>C s' w' ?_ j;exact H.new (P:=Row E.AD 2 s' (flat (withinL l x y))) (D:=LW s') j ⟨fun _=>Iff.rfl,d.lower (Nat.zero_le _)⟩ fun k N=>by
  obtain⟨a,v,rfl⟩:=N;exact(d.lt v).1
end
section
variable{E:Env}{b:Nat}{V:VS}{Rs:List Pr}{w:World}
theorem Mw{pb:Nat}{gm:Int->Option Value}{rest:List Pr}(H:Sat (Dx pb .u64 gm::rest) w){x y:Int}(hx:0<=x)(aU:x<=y)(hy:y<18446744073709551616){K:World->Prop}
  (hK: ∀w',Sat (Dx pb .u64 (fun i=>if x<=i/\i<y then none else gm i)::rest) w'->K w'):
  (∃aJ:Array MapEntry,Mh w (some pb) aJ/\
   CND (decide (((u64 (((aJ.size:Nat):Int))):Int)<(u64 (y-x)))) (
    ∃aE,RW w (some pb) aE/\
    AL (Kr (some pb) aE) w fun b3 w4=>
    Be (Unit) (()) w4 fun s5 _ w6 d=>
     Av (Bool×Unit) (fun J8=>
      Ve b3 w6 (fun aS=>
       J8 (false,()) aS
      ) fun bE a9 aW=>
       J8 (true,()) aW
     ) fun s9 _ aK=>
      Av (Bool×Unit) (fun aX=>
       CND (s9.1) (
        aX (s9.1,()) aK
       ) (
        K aK
       )
      ) fun bA _ N=>
       iK b3 N fun aL bC bD=>
       RQ .u64 aL fun T=>
       Av (Bool×Unit) (fun aF=>
        CND (decide ((T:Int)≥x)) (
         aF (decide ((T:Int)<y),()) N
        ) (
         aF (false,()) N
        )
       ) fun aR _ aH=>
        CND (aR.1) (
         MDEL .u64 T (some pb) aH fun aQ=>
         d (()) aQ
        ) (
         d (()) aH
        )
   ) (
    Be (Int×Unit) (x,()) w fun O _ C J=>
     CND (decide ((O.1:Int)<y)) (
      MDEL .u64 O.1 (some pb) C fun aI=>
      J (u64 (O.1+1),()) aI
     ) (
      K C
     )
   )):=by
 obtain⟨es,c,m,h1,h2,h3⟩:=H.NZ;refine⟨es,⟨c,h1⟩,AR (fun _=> ?_) fun _=> ?_⟩
 ·refine⟨c,⟨es,h1⟩,A7 fun w4 aN a4 aC=> ?_⟩;have a5:=Ff h1;have H4:=H.nothing aC;have aT:w.heap.size≠pb:=by omega
  refine range_del (K:=K) (m0:=m) (m1:=m) (es0:=es) (seen0:= #[]) (mb:=pb) (since:=c) (a:=x) (b:=y) (getm:=fun K' w=>K' (some pb) w) (fun w' K' he hk=>hk)
   ⟨⟨c,aN,.inl rfl⟩,aC.obj h1 fun f=>f,h2,fun _ _=>rfl,fun _ _ h=>h,fun e _ h=>by simp at h⟩ aT (by omega) (by omega) fun w' bH m' aO _ aB aG Y=> ?_
  refine hK w' (H.mapStep (aC.trans aO (fun _ _ f=>f.elim) fun i hi hs=> ?_) aB aG fun i=> ?_)
  ·rcases hs with e|e
   ·omega
   ·exact e
  ·rw[Y,h3]
 ·refine AM (fun st w'=>x<=st.1/\st.1<=y/\Sat (Dx pb .u64 (fun i=>if x<=i/\i<st.1 then none else gm i)::rest) w') (fun st _=>(y-st.1).toNat) ⟨Int.le_refl _,aU,?_⟩ ?_
  ·have:(fun i=>if x<=i/\i<x then none else gm i)=gm:=by funext i;rw[if_neg (by omega)]
   simp only[this];exact H
  rintro⟨i,v⟩ _ C ⟨aP,aV,aD⟩;simp only at aP aV aD⊢;refine AE (fun bG=>Uq aD fun aI aM=> ?_) fun a8=>hK C ?_
  ·rw[AG (n:=i+1)];refine⟨⟨by show x<=i+1;omega,by show i+1<=y;omega,?_⟩,by show(y-(i+1)).toNat<(y-i).toNat;omega⟩;have:(fun j=>if x<=j/\j<i+1 then none else gm j)=fun j=>if j=i then none else if x<=j/\j<i then none else gm j:=by
    funext j;by_cases e:j=i
    ·rw[if_pos (by omega),if_pos e]
    ·rw[if_neg e];by_cases e2:x<=j/\j<i
     ·rw[if_pos (by omega),if_pos e2]
     ·rw[if_neg (by omega),if_neg e2]
   simp only[this];exact aM
  ·have:i=y:=by omega
   subst this;exact aD
end
end Go.Sh
set_option linter.all false
set_option maxRecDepth 4000
set_option maxHeartbeats 1000000
namespace Go.Sh
def Ei(V:VS)(page p:Int):Int:=V.fl.getD (cnt V.rel page p).toNat 0
def FY(V:VS)(page AA:Int):VS:=
 {V with rf:=V.rf.tail,ready:=Bk V.ready page (page+AA),rel:=B6 V.rel page (page+AA),fl:=V.fl.drop (cnt V.rel page (page+AA)).toNat,wd:=fun p i=>if page<=p/\p<page+AA/\Ik V.rel p=true then Ei V page p else V.wd p i}
def E0(V:VS)(page AA:Int):VS:=
 {V with ready:=B6 V.ready page (page+AA),rel:=Bk V.rel page (page+AA),wd:=fun p i=>if page<=p/\p<page+AA then 0 else V.wd p i}
def EI(page AA:Int):Prop:=AA≠0/\page+AA<=34359738368
theorem SB{l:Iv}(h:Ok l){a x y:Int}(h1:a<=x)(j:x<=y)(d: ∀n,x<=n->n<y-> ¬mem l n):cnt l a y=cnt l a x:=by
 rw[IB (Ok.TR h) h1 j,(CU h j).2 d];omega
theorem Sat.Jz{P:Pr}{w:World}(d:List Pr){T:List Pr}(H:Sat (P::(d++T)) w):Sat (d++P::T) w:=H.perm List.perm_middle.symm
theorem Sat.Lm{P:Pr}{w:World}(d:List Pr){T:List Pr}(H:Sat (d++P::T) w):Sat (d++T) w:=(H.perm List.perm_middle).tail
def JI(V:VS)(g:VG)(page x p:Int):Option Int:=
 if page<=p/\p<x/\Ik V.rel p=true then(if Ei V page p=0 then none else some (Ei V page p))else g.f p
theorem Ln{V:VS}{g:VG}{page x y:Int}(j:x<=y)(h: ∀p,x<=p->p<y->mem V.rel p->page<=p->Ei V page p=0/\g.f p=none):JI V g page y=JI V g page x:=by
 funext p;unfold JI;by_cases e:page<=p/\p<x/\Ik V.rel p=true
 ·rw[if_pos e,if_pos ⟨e.1,by omega,e.2.2⟩]
 ·rw[if_neg e];by_cases e2:page<=p/\p<y/\Ik V.rel p=true
  ·rw[if_pos e2];have v:x<=p:=by
    by_cases e3:x<=p
    ·exact e3
    ·exact absurd ⟨e2.1,by omega,e2.2.2⟩ e
   obtain⟨h1,d⟩:=h p v e2.2.1 (A9.1 e2.2.2) e2.1;rw[if_pos h1,d]
  ·rw[if_neg e2]
theorem Xy{V:VS}{g:VG}{page p:Int}(hp:page<=p)(hm:mem V.rel p)(q:Int):
  JI V g page (p+1) q=if q=p then(if Ei V page p=0 then none else some (Ei V page p))else JI V g page p q:=by
 unfold JI;by_cases e:q=p
 ·subst e;rw[if_pos ⟨hp,by omega,A9.2 hm⟩,if_pos rfl]
 ·rw[if_neg e];by_cases e2:page<=q/\q<p/\Ik V.rel q=true
  ·rw[if_pos e2,if_pos ⟨e2.1,by omega,e2.2.2⟩]
  ·rw[if_neg e2,if_neg (fun h=>e2 ⟨h.1,by omega,h.2.2⟩)]
section
variable{E:Env}{b:Nat}{V:VS}{Rs:List Pr}{w:World}(hE:EnvS E)
include hE
theorem SC(H:Sat (Bf E b V::Rs) w){page AA:Int}(h0:0<=page)(h1:page<18446744073709551616)(p0:0<=AA)(p1:AA<18446744073709551616){K:Int->World->Prop}
  (cU: ¬EI page AA->K 1 w)
  (cD:EI page AA->cnt V.laid page (page+AA)≠AA-> ∀w',Ext AK w w'->K 33 w')
  (aN:EI page AA->cnt V.laid page (page+AA)=AA->cnt V.ready page (page+AA)=AA-> ∀w',Ext AK w w'->K 0 w')
  (c4:EI page AA->cnt V.laid page (page+AA)=AA->cnt V.ready page (page+AA)≠AA-> ∀r,V.rf=true::r-> ∀w',Sat (Bf E b {V with rf:=r}::Rs) w'->K 13 w')
  (cB:EI page AA->cnt V.laid page (page+AA)=AA->cnt V.ready page (page+AA)≠AA->(∀r,V.rf≠true::r)-> ∀w',Sat (Bf E b (FY V page AA)::Rs) w'->K 0 w'):
  F.CA E (some ⟨b,0,none⟩) page AA K w:=by
 obtain⟨g,C,H⟩:=Sat.K3.1 H;obtain⟨Gz,IT,JM⟩:=Jx H;unfold F.CA T0.CA;refine OR h0 p0 p1 (LX (AE (fun hr=> ?_) fun hr=>cU hr));have d0:=hr.1;have dT:=hr.2;simp only[AI,add_eq,Nat.zero_add];rw[AG (n:=page+AA)];refine Lf hE H (o:=3) rfl rfl h0 (by omega) (by omega) fun w5 bB=> ?_;refine DE (fun hl=>cD hr hl w5 bB) fun hl=> ?_;refine Lf hE ((H.nothing bB).DF 1 rfl) (o:=5) rfl rfl h0 (by omega) (by omega) fun w8 dA=> ?_;have aV:=bB.trans' dA;refine CO (fun hd=>aN hr hl hd w8 aV) fun hd=> ?_;have H8:=H.nothing aV;have a1: ∀p,page<=p->p<page+AA->mem V.laid p:=(Ci Gz (a:=page) (b:=page+AA) (by omega)).1 (by omega);have aG:(∀r,V.rf≠true::r)-> ∀(sr:AZ) (a9:World),Sat (Ea E b {V with rf:=V.rf.tail} {g with sr:=sr}++Rs) a9->
   Av (Unit) (fun bJ=>
    F.BK E (some ⟨b,7,none⟩) page (page+AA) (fun bF bD=>
    Be (Int×Unit) (0,()) bD fun aF _ aE aQ=>
     CND (decide ((aF.1:Int)<((bF.len:Nat):Int))) (
      NC bF.base fun bR=>
      ((0:Int)<=aF.1/\(aF.1:Int)<(bF.len:Nat))/\
      ∃bX:Int,aE.cell? ((bR.add (Int.toNat aF.1*2)).add 0)=some (.int .u64 bX)/\
      ∃bZ:Int,aE.cell? ((bR.add (Int.toNat aF.1*2)).add 1)=some (.int .u64 bZ)/\
      AL (.cells #[.int .u64 0,.int .u64 0] E.AD) aE fun aC bN=>
      stCells (Addr.mk aC 0 none) 0 [.int .u64 bX,.int .u64 bZ] bN fun a2=>
      ∃b3:Int,a2.cell? (Addr.mk aC 0 none)=some (.int .u64 b3)/\
      Be (Int×Unit) (b3,()) a2 fun aS _ O Y=>
       ∃bS:Int,O.cell? (Addr.mk aC 1 none)=some (.int .u64 bS)/\
       CND (decide ((aS.1:Int)<bS)) (
        ∃aT:AZ,O.cell? (Addr.mk b 2 none)=some (.slice aT.base aT.len aT.cap)/\
        CND ((((aT.len:Nat):Int):Int)==0) (
         bJ (()) O
        ) (
         F.Co E (some (Addr.mk b 2 none)) (fun bY dR aD=>
         CND ((bY:Int) !=0) (
          ∃bT:(Option Nat),aD.cell? (Addr.mk b 9 none)=some (.map bT)/\
          QK .u64 aS.1 (.int .u64 bY) bT aD fun bH=>
          Y (u64 (aS.1+1),()) bH
         ) (
          Y (u64 (aS.1+1),()) aD
         )
         ) O
        )
       ) (
        aQ (i64 (aF.1+1),()) O
       )
     ) (
      bJ (()) aE
     )
    ) a9
   ) fun dZ _ bQ=>
    F.BJ E (some (Addr.mk b 7 none)) page (page+AA) (fun bL=>
    F.Aq E (some (Addr.mk b 5 none)) page (page+AA) (fun a0=>
    K 0 a0
    ) bL
    ) bQ:=by
  intro cG sr a9 cS;have aK: ∀p,mem V.rel p->g.f p=none:=fun p hp=>by
   cases hf:g.f p with
   | none=>rfl
   | some v=>exact absurd hp (C.re p (C.fi p (by rw[hf];exact fun h=>by cases h)))
  refine Ak (fun _ w'=> ∃sf,Sat (Ea E b {V with rf:=V.rf.tail,fl:=V.fl.drop (cnt V.rel page (page+AA)).toNat} {g with sr:=sr,sf:=sf,f:=JI V g page (page+AA)}++Rs) w') ?_ ?_
  ·refine Pf hE (cS.DF 2 rfl) (o:=7) rfl rfl h0 (by omega) fun s' bD bM _=> ?_;have aM:Sat (Ea E b {V with rf:=V.rf.tail} {g with sr:=sr}++Row E.AD 2 s' (flat (withinL V.rel page (page+AA)))::Rs) bD:=
    Sat.Jz (Ea E b {V with rf:=V.rf.tail} {g with sr:=sr}) (bM.perm (.cons _ (.cons _ (DD (i:=2) rfl).symm)))
   clear bM;have aA:=OQ JM (a:=page) (b:=page+AA) (by omega);generalize hm:withinL V.rel page (page+AA)=m at aM aA;have aI: ∀n,mem m n↔mem V.rel n/\page<=n/\n<page+AA:=fun n=>by rw[<-hm];exact Jy
   have aP: ∀q∈m,page<=q.1/\q.1<q.2/\q.2<=page+AA:=by rw[<-hm];exact K0 JM (by omega)
   have cZ:=B1 V.rel page;have cF: ∀c,V.fl.length<=c->V.fl.getD c 0=0:=fun c hc=>by rw[List.getD_eq_getElem?_getD,List.getElem?_eq_none hc];rfl
   have aW: ∀x,page<=x->x<=page+AA->(cnt V.rel page x).toNat<=V.fl.length->((∀n,x<=n->n<page+AA-> ¬mem V.rel n)∨V.fl.drop (cnt V.rel page x).toNat=[])-> ∀sf (T:List Pr) w',
     Sat (Ea E b {V with rf:=V.rf.tail,fl:=V.fl.drop (cnt V.rel page x).toNat} {g with sr:=sr,sf:=sf,f:=JI V g page x}++T) w'->
     Sat (Ea E b {V with rf:=V.rf.tail,fl:=V.fl.drop (cnt V.rel page (page+AA)).toNat} {g with sr:=sr,sf:=sf,f:=JI V g page (page+AA)}++T) w':=by
    intro x aL aB bA cK sf T w' hS;rcases cK with aO|d
    ·have e1:=SB JM aL aB aO;have e2:JI V g page (page+AA)=JI V g page x:=Ln aB fun p h1 h2 h3 _=>absurd h3 (aO p h1 h2);rw[e1,e2];exact hS
    ·have hlen:V.fl.length<=(cnt V.rel page x).toNat:=List.drop_eq_nil_iff.1 d;have hle: ∀p,x<=p->cnt V.rel page x<=cnt V.rel page p:=fun p hp=>by
      rw[IB (Ok.TR JM) aL hp];have:=B1 V.rel x p;omega
     have e1:V.fl.drop (cnt V.rel page (page+AA)).toNat=V.fl.drop (cnt V.rel page x).toNat:=by
      rw[d,List.drop_eq_nil_iff];have:=hle _ aB;omega
     have e2:JI V g page (page+AA)=JI V g page x:=Ln aB fun p h1 h2 h3 _=>⟨by
      unfold Ei;exact cF _ (by have:=hle p h1;omega),aK p h3⟩
     rw[e1,e2];exact hS
   have aX: ∀{T:List Pr} {sf fl f w'},Sat (Ea E b {V with rf:=V.rf.tail,fl:=fl} {g with sr:=sr,sf:=sf,f:=f}++Row E.AD 2 s' (flat m)::T) w'->Fs w' 0 E.AD 2 s' (flat m):=fun h=>(h.front 10 rfl).own;have cW:s'.len=m.length:=by
    have:=(aX (T:=Rs) (sf:=g.sf) (fl:=V.fl) (f:=g.f) aM).len;rw[Dl]at this;omega
   have cJ:m.length<=34359738368:=by
    have: ∀(l:Iv) (B:Int),Ok l->(∀q∈l,B<=q.1/\q.2<=34359738368)->B<=34359738368->(l.length:Int)<=34359738368-B:=by
     intro l
     induction l with
     | nil=>intro B _ _ h;simp;omega
     | cons q r ih=>
      intro B ho hb _;have h1:=hb q List.mem_cons_self;have h2:=ho.2.1;have:=ih q.2 ho.tail (fun q' b7=>⟨by have:=ho.2.2.2.1 q' b7;omega,(hb q' (List.mem_cons_of_mem _ b7)).2⟩) h1.2;simp only[List.length_cons];omega
    have:=this m 0 aA (fun q N=>⟨by have:=aP q N;omega,by have:=aP q N;omega⟩) (by decide);omega
   refine AM (fun st w'=> ∃(k:Nat) (x:Int) (sf:AZ),st.1=(k:Int)/\k<=m.length/\page<=x/\x<=page+AA/\(cnt V.rel page x).toNat<=V.fl.length/\(∀q∈m.take k,q.2<=x)/\(∀q∈m.drop k,x<=q.1)/\
     Sat (Ea E b {V with rf:=V.rf.tail,fl:=V.fl.drop (cnt V.rel page x).toNat} {g with sr:=sr,sf:=sf,f:=JI V g page x}++Row E.AD 2 s' (flat m)::Rs) w') (fun st _=>(m.length-st.1).toNat)
    ⟨0,page,g.sf,rfl,Nat.zero_le _,Int.le_refl _,by omega,?_,by simp,fun q N=>(aP q (by simpa using N)).1,?_⟩ ?_
   ·have:cnt V.rel page page=0:=(CU JM (Int.le_refl _)).2 fun n h1 h2=>by omega
    rw[this];exact Nat.zero_le _
   ·have e1:cnt V.rel page page=0:=(CU JM (Int.le_refl _)).2 fun n h1 h2=>by omega
    have e2:JI V g page page=g.f:=by funext p;unfold JI;rw[if_neg (by omega)]
    rw[e1,e2];exact aM
   rintro⟨i,v⟩ _ aE ⟨k,x,sf,hk,dV,aL,aB,bA,aZ,c7,a3⟩;simp only at hk⊢;subst hk;refine AE (fun bV=> ?_) fun cY=> ?_
   ·have aN:k<m.length:=by omega
    obtain⟨q,N⟩: ∃q,m[k]? =some q:=⟨_,List.getElem?_eq_getElem aN⟩;have bO:=List.mem_of_getElem? N;obtain⟨g1,g2⟩:=Jq m k q N;obtain⟨q1,q2,q3⟩:=aP q bO;have aJ:=aX a3;obtain⟨bb,hb⟩:=aJ.HM (by omega);have c1:=aJ.cell hb g1;have c2:=aJ.cell hb g2;rw[add_eq,Nat.zero_add]at c1 c2;rw[hb];simp only[AI,add_eq,Nat.zero_add,Int.toNat_natCast,Nat.add_zero];refine⟨⟨by omega,by omega⟩,q.1,c1,q.2,c2,?_⟩;refine Am a3 fun aC bN cR _=>Jg cR (by rfl) (by simp[Value.oneCell']) fun a2 bU=> ?_;refine⟨q.1,bU.BI rfl,?_⟩;have b6:=Sat.Jz (Ea E b {V with rf:=V.rf.tail,fl:=V.fl.drop (cnt V.rel page x).toNat} {g with sr:=sr,sf:=sf,f:=JI V g page x}) bU;have b1:x<=q.1:=c7 q (List.mem_of_getElem? (i:=0) (by simpa using N));have aO: ∀n,x<=n->n<q.1-> ¬mem V.rel n:=by
     intro n h1 h2 hn;obtain⟨z,hz,h3,h4⟩:=(aI n).2 ⟨hn,by omega,by omega⟩;obtain⟨j,hj⟩:=List.mem_iff_getElem?.1 hz;rcases Nat.lt_trichotomy j k with e|e|e
     ·have:=aZ z (List.mem_of_getElem? (i:=j) (by rw[List.getElem?_take,if_pos e];exact hj));omega
     ·subst e;rw[N]at hj;cases hj;omega
     ·have:=aA.lt e N hj;omega
    have ec:cnt V.rel page q.1=cnt V.rel page x:=SB JM aL b1 aO;have ef:JI V g page q.1=JI V g page x:=Ln b1 fun p h1 h2 h3 _=>absurd h3 (aO p h1 h2);refine AM (fun st w'=>q.1<=st.1/\st.1<=q.2/\(cnt V.rel page st.1).toNat<=V.fl.length/\ ∃sf,
      Sat (Ea E b {V with rf:=V.rf.tail,fl:=V.fl.drop (cnt V.rel page st.1).toNat} {g with sr:=sr,sf:=sf,f:=JI V g page st.1}++Cells aC E.AD [.int .u64 q.1,.int .u64 q.2]::Row E.AD 2 s' (flat m)::Rs) w')
     (fun st _=>(q.2-st.1).toNat) ⟨Int.le_refl _,by show q.1<=q.2;omega,by rw[ec];exact bA,sf,by rw[ec,ef];exact b6⟩ ?_
    rintro⟨p,v⟩ _ O ⟨bP,cA,a6,sf,J⟩;simp only at bP cA a6 J⊢;refine⟨q.2,(J.front 10 rfl).BI rfl,AE (fun bV=> ?_) fun cY=> ?_⟩
    ·have b5:mem V.rel p:=((aI p).1 ⟨q,bO,bP,bV⟩).1;have bE:=(F9 JM (a:=page) (k:=p) (by omega)).1 b5;have dF:=cZ p;refine⟨sf,J.BI rfl,CO (fun hz=> ?_) fun dU=> ?_⟩
     ·have d:V.fl.drop (cnt V.rel page p).toNat=[]:=by
       have:(ints .u64 (V.fl.drop (cnt V.rel page p).toNat)).length=sf.len:=(J.front 6 rfl).Iy.1;have h0:(ints .u64 (V.fl.drop (cnt V.rel page p).toNat)).length=0:=by omega
       rw[List.drop_eq_nil_iff];simp[ints]at h0;omega
      exact⟨sf,Sat.Lm _ (Sat.Lm _ (aW p (by omega) (by omega) a6 (.inr d) sf _ O J))⟩
     ·refine R8 (o:=2) (J.DF 5 rfl) rfl (fun d=> ?_) fun y r hy aD cH=> ?_
      ·exfalso;have:=(J.front 6 rfl).Iy.1;have a4:V.fl.drop (cnt V.rel page p).toNat=[]:=d;rw[a4]at this;simp[ints]at this;omega
      ·have bG:V.fl.drop (cnt V.rel page p).toNat=y::r:=hy;have dC:(cnt V.rel page p).toNat<V.fl.length:=by
        have:=congrArg List.length bG;simp at this;omega
       have cL:r=V.fl.drop (cnt V.rel page (p+1)).toNat:=by
        rw[bE,show(cnt V.rel page p+1).toNat=(cnt V.rel page p).toNat+1 by omega,<-List.drop_drop,bG];rfl
       have b0:Ei V page p=y:=by
        unfold Ei;rw[List.getD_eq_getElem?_getD,<-Nat.add_zero (cnt V.rel page p).toNat,<-List.getElem?_drop,bG];rfl
       have a7:Sat (Ea E b {V with rf:=V.rf.tail,fl:=V.fl.drop (cnt V.rel page (p+1)).toNat} {g with sr:=sr,sf:=⟨Fe sf.base sf.cap 1 1,sf.len-1,sf.cap-1⟩,f:=JI V g page p}++Cells aC E.AD [.int .u64 q.1,.int .u64 q.2]::Row E.AD 2 s' (flat m)::Rs) aD:=by
        rw[<-cL];exact Sat.Mo 5 cH (by simp[Ea])
       rw[AG (n:=p+1)];refine DE (fun a8=> ?_) fun a8=> ?_
       ·refine⟨some g.fb,a7.BI rfl,Up (a7.front 7 rfl) fun bH cO=> ?_⟩;refine⟨⟨by show q.1<=p+1;omega,by show p+1<=q.2;omega,by show(cnt V.rel page (p+1)).toNat<=_;rw[bE];omega,⟨Fe sf.base sf.cap 1 1,sf.len-1,sf.cap-1⟩,?_⟩,by show(q.2-(p+1)).toNat<(q.2-p).toNat;omega⟩;have c5:=Sat.back 7 cO (by simp[Ea]);have:Mu {g with f:=JI V g page (p+1)}=fun i=>if i=p then some (.int .u64 y)else Mu {g with f:=JI V g page p} i:=by
         funext i;show(JI V g page (p+1) i).map _=if i=p then _ else(JI V g page p i).map _
         rw[Xy (by omega) b5 i,b0,if_neg a8];split<;>rfl
        show Sat (Ea E b _ {g with sr:=sr,sf:=_,f:=JI V g page (p+1)}++_) bH;unfold Ea;have e:Mu {g with sr:=sr,sf:=⟨Fe sf.base sf.cap 1 1,sf.len-1,sf.cap-1⟩,f:=JI V g page (p+1)}=Mu {g with f:=JI V g page (p+1)}:=rfl;rw[e,this];exact c5
       ·refine⟨⟨by show q.1<=p+1;omega,by show p+1<=q.2;omega,by show(cnt V.rel page (p+1)).toNat<=_;rw[bE];omega,⟨Fe sf.base sf.cap 1 1,sf.len-1,sf.cap-1⟩,?_⟩,by show(q.2-(p+1)).toNat<(q.2-p).toNat;omega⟩;have:JI V g page (p+1)=JI V g page p:=Ln (by omega) fun p' h1 h2 h3 _=>by
         have:p'=p:=by omega
         subst this;exact⟨by rw[b0,a8],aK _ h3⟩
        show Sat (Ea E b _ {g with sr:=sr,sf:=_,f:=JI V g page (p+1)}++_) aD;rw[this];exact a7
    ·have b9:p=q.2:=by omega
     subst b9;have ei:i64 ((k:Int)+1)=((k+1:Nat):Int):=by rw[AN];omega
     refine⟨⟨k+1,q.2,sf,ei,by omega,by omega,by omega,a6,fun z hz=> ?_,fun z hz=> ?_,Sat.Lm _ J⟩,by simp only[ei];omega⟩
     ·rw[List.take_succ_eq_append_getElem aN,List.mem_append,List.mem_singleton]at hz;rcases hz with hz|rfl
      ·have:=aZ z hz;omega
      ·have:m[k]=q:=by rw[List.getElem?_eq_getElem aN]at N;exact Option.some.inj N
       rw[this];exact Int.le_refl _
     ·obtain⟨j,hj⟩:=List.mem_iff_getElem?.1 hz;rw[List.getElem?_drop]at hj;have:=aA.lt (i:=k) (j:=k+1+j) (by omega) N hj;omega
   ·have c3:k=m.length:=by omega
    refine⟨sf,Sat.Lm _ (aW x aL aB bA (.inl fun n h1 h2 hn=> ?_) sf _ aE a3)⟩;obtain⟨z,hz,h3,h4⟩:=(aI n).2 ⟨hn,by omega,h2⟩;have:=aZ z (by rw[c3,List.take_length];exact hz);omega
  ·rintro _ _ bQ ⟨sf,cI⟩;have dH:Jr=4398046511104:=rfl;refine XT hE (cI.DF 2 rfl) (o:=7) rfl rfl h0 (by omega) (by omega) fun bL cQ c6=> ?_;have c0:=Sat.Mo 2 c6 (by simp[Ea]);refine TZ hE (c0.DF 1 rfl) (o:=5) rfl rfl h0 (by omega) (by omega) fun a0 cM cX=> ?_;have cV:=Sat.Mo 1 cX (by simp[Ea]);refine cB hr hl hd cG a0 (Sat.K3.2 ⟨{g with sr:=sr,sf:=sf,s2:=cM,s3:=cQ,f:=JI V g page (page+AA)},?_,cV⟩);have ma: ∀p,mem (Bk V.ready page (page+AA)) p↔mem V.ready p∨(page<=p/\p<page+AA):=fun p=>Bo IT (by omega) h0 (by omega) p;have mc: ∀p,mem (B6 V.rel page (page+AA)) p↔mem V.rel p/\ ¬(page<=p/\p<page+AA):=fun p=>B7 (by omega);refine⟨fun p i cC c9=> ?_,fun p hp=>(ma p).2 (.inl (C.pg p hp)),fun p hp=> ?_,fun p hp=> ?_,fun p hp=>C.el p ((mc p).1 hp).1,fun p hp N=> ?_,C.Gc,C.R7⟩
   ·show(if page<=p/\p<page+AA/\Ik V.rel p=true then Ei V page p else V.wd p i)=match g.G p with|some x=>x.2 i|none=>(JI V g page (page+AA) p).getD 0
    by_cases e:page<=p/\p<page+AA/\Ik V.rel p=true
    ·rw[if_pos e];have bK:=A9.1 e.2.2;have:g.G p=none:=by
      cases hG:g.G p with
      | none=>rfl
      | some x=>exact absurd bK (C.re p (C.pg p (by rw[hG];exact fun h=>by cases h)))
     rw[this];unfold JI;rw[if_pos e];by_cases e2:Ei V page p=0
     ·rw[if_pos e2,e2];rfl
     ·rw[if_neg e2];rfl
    ·rw[if_neg e,C.wd p i cC c9];unfold wordOf JI;rw[if_neg e]
     try rfl
   ·have bC:JI V g page (page+AA) p≠none:=hp;unfold JI at bC;by_cases e:page<=p/\p<page+AA/\Ik V.rel p=true
    ·exact(ma p).2 (.inr ⟨e.1,e.2.1⟩)
    ·rw[if_neg e]at bC;exact(ma p).2 (.inl (C.fi p bC))
   ·rcases(ma p).1 hp with h|h
    ·exact C.rl p h
    ·exact a1 p h.1 h.2
   ·rcases(ma p).1 hp with h|h
    ·exact C.re p h ((mc p).1 N).1
    ·exact((mc p).1 N).2 h
 refine Pd H8 (fun d=>Ab rfl (aG (fun r h=>by rw[d]at h;cases h) g.sr w8 ?_)) fun x r hx w7 H7=> ?_
 ·have:{V with rf:=V.rf.tail}=V:=by
   have:V.rf.tail=V.rf:=by rw[d];rfl
   rw[this]
  show Sat (Ea E b {V with rf:=V.rf.tail} {g with sr:=g.sr}++Rs) w8;rw[this];exact H8
 ·refine AR (fun e=>c4 hr hl hd r (by rw[hx,e]) w7 (Sat.K3.2 ⟨{g with sr:=⟨Fe g.sr.base g.sr.cap 1 1,g.sr.len-1,g.sr.cap-1⟩},⟨C.wd,C.pg,C.fi,C.rl,C.el,C.re,C.Gc,C.R7⟩,H7⟩)) fun e=>aG (fun r' h=> ?_) ⟨Fe g.sr.base g.sr.cap 1 1,g.sr.len-1,g.sr.cap-1⟩ w7 ?_
  ·rw[hx,e]at h;cases h
  ·rw[hx];exact H7
end
end Go.Sh
set_option linter.all false
set_option maxRecDepth 40000
set_option maxHeartbeats 1000000
namespace Go.Sh
section
variable{n:Nat}{G:jD}{Rs:List Pr}{p:Int}
end
section
variable{E:Env}{b:Nat}{V:VS}{Rs:List Pr}{w:World}
variable(hE:EnvS E)
include hE
end
end Go.Sh
set_option linter.all false
set_option maxRecDepth 40000
set_option maxHeartbeats 1000000
namespace Go.Sh
def JJ(pl:List Int)(rf:List Bool)(fl:List Int):VS:=⟨[],[],[],fun _ _=>0,pl,rf,fl⟩
section
variable{E:Env}{b:Nat}{V:VS}{Rs:List Pr}{w:World}
theorem SD{g:VG}(H:Sat (Ea E b V g++Rs) w){x y:Int}(hx:0<=x)(J:x<=y)(hy:y<18446744073709551616){K:World->Prop}
  (hK: ∀w',Sat (Ea E b V {g with f:=fun p=>if x<=p/\p<y then none else g.f p,G:=fun p=>if x<=p/\p<y then none else g.G p}++Rs) w'->K w'):
  ∃N:(Option Nat),w.cell? (Addr.mk b 9 none)=some (.map N)/\
   F.Dt E N x y (fun j=>
   ∃v:(Option Nat),j.cell? (Addr.mk b 10 none)=some (.map v)/\
   F.CW E v x y (fun d=>K d) j) w:=by
 refine⟨some g.fb,H.BI rfl,?_⟩;unfold F.Dt;refine Mw (H.front 7 rfl) hx J hy fun j T=> ?_;have C:=Sat.back 7 T (by simp[Ea]);refine⟨some g.pb,C.BI rfl,?_⟩;unfold F.CW;refine Mw (C.front 8 rfl) hx J hy fun d Y=>hK d ?_;have aA:=Sat.back 8 Y (by simp[Ea]);have O:=Sat.back 9 ((aA.front 9 rfl).bY (G':=fun p=>if x<=p/\p<y then none else g.G p) fun p z hz=>by
  by_cases e:x<=p/\p<y
  ·rw[if_pos e]at hz;cases hz
  ·rw[if_neg e]at hz;exact hz) (by simp[Ea])
 have e1:VB {g with f:=fun p=>if x<=p/\p<y then none else g.f p,G:=fun p=>if x<=p/\p<y then none else g.G p}=fun i=>if x<=i/\i<y then none else VB g i:=by
  funext q;unfold VB;by_cases e:x<=q/\q<y<;>simp[e]
 have e2:Mu {g with f:=fun p=>if x<=p/\p<y then none else g.f p,G:=fun p=>if x<=p/\p<y then none else g.G p}=fun i=>if x<=i/\i<y then none else Mu g i:=by
  funext q;unfold Mu;by_cases e:x<=q/\q<y<;>simp[e]
 unfold Ea;rw[e1,e2];exact O
theorem Ts{g:VG}(j:WA V g){x y:Int}{V':VS}(v:V'.laid=V.laid/\V'.pl=V.pl)(C: ∀p i,0<=i->i<1024->V'.wd p i=if x<=p/\p<y then 0 else V.wd p i)
  (d: ∀p,¬(x<=p/\p<y)->mem V.ready p->mem V'.ready p)(h1: ∀p,mem V'.ready p->mem V.laid p)(N: ∀p,mem V'.rel p->mem V.laid p)(K: ∀p,mem V'.ready p-> ¬mem V'.rel p):
  WA V' {g with f:=fun p=>if x<=p/\p<y then none else g.f p,G:=fun p=>if x<=p/\p<y then none else g.G p}:=by
 refine⟨fun p i h0 J=> ?_,fun p hp=> ?_,fun p hp=> ?_,fun p hp=>by rw[v.1];exact h1 p hp,fun p hp=>by rw[v.1];exact N p hp,K,by rw[v.1];exact j.Gc,by rw[v.2];exact j.R7⟩
 ·rw[C p i h0 J];unfold wordOf;by_cases e:x<=p/\p<y
  ·simp only[if_pos e];try rfl
  ·simp only[if_neg e];rw[j.wd p i h0 J];try rfl
 ·by_cases e:x<=p/\p<y
  ·simp[e]at hp
  ·exact d p e (j.pg p (by simpa[e]using hp))
 ·by_cases e:x<=p/\p<y
  ·simp[e]at hp
  ·exact d p e (j.fi p (by simpa[e]using hp))
variable(hE:EnvS E)
include hE
theorem Qi(H:Sat (Bf E b V::Rs) w){page AA:Int}(h0:0<=page)(h1:page<18446744073709551616)(p0:0<=AA)(p1:AA<18446744073709551616){K:Int->World->Prop}
  (aE: ¬EI page AA->K 1 w)
  (Y:EI page AA->cnt V.ready page (page+AA)≠AA-> ∀w',Ext AK w w'->K 33 w')
  (aA:EI page AA->cnt V.ready page (page+AA)=AA-> ∀w',Sat (Bf E b (E0 V page AA)::Rs) w'->K 0 w'):
  F.Cg E (some ⟨b,0,none⟩) page AA K w:=by
 obtain⟨g,d,H⟩:=Sat.K3.1 H;obtain⟨Gz,IT,JM⟩:=Jx H;unfold F.Cg T0.Cg;refine OR h0 p0 p1 (LX (AE (fun j=> ?_) fun j=>aE j));have aR:=j.1;have aL:=j.2;have aG:Jr=4398046511104:=rfl;simp only[AI,add_eq,Nat.zero_add];rw[AG (n:=page+AA)];refine Lf hE (H.DF 1 rfl) (o:=5) rfl rfl h0 (by omega) (by omega) fun w5 C=> ?_;refine DE (fun O=>Y j O w5 C) fun O=> ?_;have N: ∀p,page<=p->p<page+AA->mem V.ready p:=(Ci IT (a:=page) (b:=page+AA) (by omega)).1 (by omega);refine XT hE ((H.nothing C).DF 1 rfl) (o:=5) rfl rfl h0 (by omega) (by omega) fun w7 v H7=> ?_;have H8:=Sat.Mo 1 H7 (by simp[Ea]);refine TZ hE (H8.DF 2 rfl) (o:=7) rfl rfl h0 (by omega) (by omega) fun w9 J H9=> ?_;have T:Sat (Ea E b (E0 V page AA) {g with s2:=v,s3:=J}++Rs) w9:=Sat.Mo 2 H9 (by simp[Ea]);refine SD T h0 (by omega) (by omega) fun aB aD=>aA j O aB (Sat.K3.2 ⟨_,?_,aD⟩);have mc: ∀p,mem (B6 V.ready page (page+AA)) p↔mem V.ready p/\ ¬(page<=p/\p<page+AA):=fun p=>B7 (by omega);have ma: ∀p,mem (Bk V.rel page (page+AA)) p↔mem V.rel p∨(page<=p/\p<page+AA):=fun p=>Bo JM (by omega) h0 (by omega) p;refine Ts (g:={g with s2:=v,s3:=J}) (V:=V) ⟨d.wd,d.pg,d.fi,d.rl,d.el,d.re,d.Gc,d.R7⟩ ⟨rfl,rfl⟩ (fun p i _ _=>rfl) (fun p h hp=>(mc p).2 ⟨hp,h⟩) (fun p hp=>d.rl p ((mc p).1 hp).1) (fun p hp=> ?_) fun p hp hq=> ?_
 ·rcases(ma p).1 hp with h|h
  ·exact d.el p h
  ·exact d.rl p (N p h.1 h.2)
 ·obtain⟨h3,h4⟩:=(mc p).1 hp;rcases(ma p).1 hq with h|h
  ·exact d.re p h3 h
  ·exact h4 h
end
end Go.Sh
set_option linter.all false
set_option maxRecDepth 40000
set_option maxHeartbeats 4000000
namespace Go.Sh
section
variable{E:Env}{Ps Rs:List Pr}{w:World}
theorem Mx(i:Nat){K:Nat->World->Prop}(H:Sat Ps w)(d:Ps[i]? =some Uo)(j: ∀b w',Sat (Ps.set i (Dx b .u64 fun _=>none)) w'->K b w'):AL (.map #[] 0) w K:=
 XL (H.front i d).tail .u64 fun b w' v _=>j b w' (Sat.back i v (List.getElem?_eq_some_iff.1 d).1)
theorem SE{t:Nat}{zs:Array Value}{bytes:Nat}{a:AZ}{vs:List Value}{K:AZ->World->Prop}(H:Sat Rs w)(hz:zs.size=1)(d: ∀w',Sat Rs w'->rowAt w' a.base a.len vs)(Y:vs.length=a.len)(hlen:a.len<=1099511627776)(J:bytes<=8)
  (ho: ∀v∈vs,v.oneCell'=true)(N: ∀s' w',Sat (F4 s' vs::Rs) w'->K s' w'):
  CND (a.base.isNone) (K ⟨none,0,0⟩ w) (AL (.cells ⟨[]⟩ t) w fun b1 j=>APP t 1 bytes zs ⟨(some (Addr.mk b1 0 none)),0,0⟩ a j fun s3 w4=>K s3 w4):=by
 refine AR (fun e=> ?_) fun e=> ?_
 ·have hb:a.base=none:=by simpa using e
  have:=d w H;rw[hb]at this;have hv:vs=[]:=this;rw[hv]at N;exact N _ w H.ZB
 ·refine A7 fun j C aA O=> ?_;have T:Sat (Row t 1 ⟨some ⟨w.heap.size,0,none⟩,0,0⟩ []::Rs) j:=H.new (P:=Row t 1 ⟨some ⟨w.heap.size,0,none⟩,0,0⟩ []) (D:=LW ⟨some ⟨w.heap.size,0,none⟩,0,0⟩) O
   ⟨fun _=>Iff.rfl,QT C rfl (Nat.zero_le _) (by decide)⟩ fun k hk=>by obtain⟨x,hx,rfl⟩:=hk;cases hx;exact Nat.le_refl _
  have hm:(0+a.len)*bytes<=1099511627776*8:=Nat.mul_le_mul (by omega) J;refine FD T hz (by simpa using d j T.tail) (by simpa using Y) ho (by simp only;omega) (by simp only;omega) fun s' w' H' _=>N s' w' ?_;exact Sat.ZA H'
theorem Pg(i:Nat){a:AZ}{l:List Int}{K:AZ->World->Prop}(H:Sat Ps w)(j:Ps[i]? =some Uo)(d: ∀w',Sat (Ps.eraseIdx i) w'->rowAt w' a.base a.len (ints .u64 l))(J:l.length=a.len)(hlen:a.len<=1099511627776)
  (N: ∀s' w',Sat (Ps.set i (F4 s' (ints .u64 l))) w'->K s' w'):F.Bt E a K w:=by
 unfold F.Bt;exact SE (H.front i j).tail rfl d (by simpa[ints]using J) hlen (Nat.le_refl _) (by intro v C;simp[ints]at C;obtain⟨x,_,rfl⟩:=C;rfl) fun s' w' O=>N s' w' (Sat.back i O (List.getElem?_eq_some_iff.1 j).1)
theorem Tt(i:Nat){a:AZ}{l:List Bool}{K:AZ->World->Prop}(H:Sat Ps w)(j:Ps[i]? =some Uo)(d: ∀w',Sat (Ps.eraseIdx i) w'->rowAt w' a.base a.len (BS l))(J:l.length=a.len)(hlen:a.len<=1099511627776)
  (N: ∀s' w',Sat (Ps.set i (F4 s' (BS l))) w'->K s' w'):F.Ck E a K w:=by
 unfold F.Ck;exact SE (H.front i j).tail rfl d (by simpa[BS]using J) hlen (by decide) (by intro v C;simp[BS]at C;rcases C with ⟨_,rfl⟩|⟨_,rfl⟩<;>rfl) fun s' w' O=>N s' w' (Sat.back i O (List.getElem?_eq_some_iff.1 j).1)
theorem VC{b t1 b1 t2 m1 d:Nat}{j C v:AZ}{vs:List Value}{pl:List Int}{rf:List Bool}{fl:List Int}(J: ∀x∈pl,0<=x/\x<18446744073709551616)
  (H:Sat (Cells b t1 [HU j,HU C,HU v,.slice none 0 0,.int .u64 0,.slice none 0 0,.int .u64 0,.slice none 0 0,.int .u64 0,.map (some m1),.map (some d)]::Cells b1 t2 vs::
   F4 j (ints .u64 pl)::F4 C (BS rf)::F4 v (ints .u64 fl)::Dx m1 .u64 (fun _=>none)::Dx d .u64 (fun _=>none)::Rs) w):Sat (Bf E b (JJ pl rf fl)::Rs) w:=by
 have H1:=(H.perm (.swap _ _ _)).tail;have O:=(Sat.Jz [Cells b t1 _,F4 j _,F4 C _,F4 v _,Dx m1 _ _,Dx d _ _] (H1.jE 1024));have N:=((O.Ta (E:=E)).perm (.swap _ _ _));have T:=((N.Ta (E:=E)).perm (.swap _ _ _));have K:=((T.Ta (E:=E)).perm (.swap _ _ _));exact Sat.K3.2 ⟨⟨j,C,v,⟨none,0,0⟩,⟨none,0,0⟩,⟨none,0,0⟩,m1,d,fun _=>none,fun _=>none⟩,
  ⟨fun _ _ _ _=>rfl,fun _ h=>absurd rfl h,fun _ h=>absurd rfl h,fun _ h=>h,fun _ h=>h,fun p h=>absurd h (Ar p),fun p h=>absurd h (Ar p),J⟩,K⟩
theorem WB(H:Sat Rs w){a0 a1 a2:AZ}{pl:List Int}{rf:List Bool}{fl:List Int}(j: ∀x∈pl,0<=x/\x<18446744073709551616)
  (h0: ∀w',Sat Rs w'->rowAt w' a0.base a0.len (ints .u64 pl))(l0:pl.length=a0.len)(k0:a0.len<=1099511627776)
  (h1: ∀w',Sat Rs w'->rowAt w' a1.base a1.len (BS rf))(l1:rf.length=a1.len)(k1:a1.len<=1099511627776)
  (h2: ∀w',Sat Rs w'->rowAt w' a2.base a2.len (ints .u64 fl))(l2:fl.length=a2.len)(k2:a2.len<=1099511627776)
  {K:Option Addr->World->Prop}(J: ∀b w',Sat (Bf E b (JJ pl rf fl)::Rs) w'->K (some ⟨b,0,none⟩) w'):F.GG E a0 a1 a2 K w:=by
 unfold F.GG T0.GG;refine Am H.emp.emp.emp.emp.emp fun b1 w2 N _=> ?_;have C:=N.drew;clear N;have t5: ∀{P0 O T P3 Y:Pr} {w'},Sat (P0::O::T::P3::Y::Rs) w'->Sat Rs w':=fun h=>h.tail.tail.tail.tail.tail;refine⟨a0,C.BI rfl,a1,C.cell rfl,a2,C.cell rfl,?_⟩
 repeat' first
  | (exact Sat.cell (by assumption) (by rfl))
  | (exact Sat.BI (by assumption) (by rfl))
  | (refine Pg 1 (a:=a0) (l:=pl) (by assumption) (by rfl) (by intro w' h;exact h0 w' (t5 h)) l0 k0 fun s' w' d=> ?_)
  | (refine Tt 2 (a:=a1) (l:=rf) (by assumption) (by rfl) (by intro w' h;exact h1 w' (t5 h)) l1 k1 fun s' w' d=> ?_)
  | (refine Pg 3 (a:=a2) (l:=fl) (by assumption) (by rfl) (by intro w' h;exact h2 w' (t5 h)) l2 k2 fun s' w' d=> ?_)
  | (refine Mx 4 (by assumption) (by rfl) fun v w' d=> ?_)
  | (refine Mx 5 (by assumption) (by rfl) fun v w' d=> ?_)
  | (refine Am (by assumption) fun v w' d _=> ?_;exact J _ _ (VC j d))
  | (refine Am (by assumption) fun v w' d _=> ?_;exact J _ _ (VC j (d.perm (.cons _ (.cons _ (.cons _ (.cons _ (.cons _ (.swap _ _ _)))))))))
  | (refine And.intro ?_ ?_)
theorem VD: ∀(n:Nat) {l m k:Iv},Ok l->Ok m->Ok k->(∀p,mem m p->mem l p)->(∀p,mem k p->mem l p)->(∀p,mem m p-> ¬mem k p)-> ∀a:Int,cnt m a (a+n)+cnt k a (a+n)<=cnt l a (a+n)
 | 0,l,m,k,hl,hm,hk,_,_,_,a=>by
  have h1:=DY hm (show a<=a+(0:Nat) by omega);have j:=DY hk (show a<=a+(0:Nat) by omega);have v:=B1 l a (a+(0:Nat));omega
 | n+1,l,m,k,hl,hm,hk,h1,j,v,a=>by
  have C:=VD n hl hm hk h1 j v a;have e:a+((n+1:Nat):Int)=(a+n)+1:=by omega
  rw[e];have sl:=F9 hl (a:=a) (k:=a+n) (by omega);have sm:=F9 hm (a:=a) (k:=a+n) (by omega);have d:=F9 hk (a:=a) (k:=a+n) (by omega);by_cases c1:mem m (a+n)
  ·have:=sm.1 c1;have:=d.2 (v _ c1);have:=sl.1 (h1 _ c1);omega
  ·have:=sm.2 c1;by_cases c2:mem k (a+n)
   ·have:=d.1 c2;have:=sl.1 (j _ c2);omega
   ·have:=d.2 c2;by_cases c3:mem l (a+n)
    ·have:=sl.1 c3;omega
    ·have:=sl.2 c3;omega
structure MX(V:VS):Prop where
 Gz:Ok V.laid
 IT:Ok V.ready
 JM:Ok V.rel
 rl: ∀p,mem V.ready p->mem V.laid p
 el: ∀p,mem V.rel p->mem V.laid p
 re: ∀p,mem V.ready p-> ¬mem V.rel p
 Gc: ∀p,mem V.laid p->512<=p/\p<34359738368
 clean: ∀p i,0<=i->i<1024-> ¬mem V.ready p->V.wd p i=0
 Xz:CK V.ready+CK V.rel<=CK V.laid
theorem Sat.rX{b:Nat}{V:VS}(H:Sat (Bf E b V::Rs) w):MX V:=by
 obtain⟨g,d,H⟩:=Sat.K3.1 H;obtain⟨Gz,IT,JM⟩:=Jx H;refine⟨Gz,IT,JM,d.rl,d.el,d.re,d.Gc,fun p i h0 h1 j=> ?_,?_⟩
 ·rw[d.wd p i h0 h1];unfold wordOf;cases hG:g.G p with
  | some x=>exact absurd (d.pg p (by rw[hG];exact fun h=>by cases h)) j
  | none=>
   cases hf:g.f p with
   | none=>rfl
   | some x=>exact absurd (d.fi p (by rw[hf];exact fun h=>by cases h)) j
 ·have h1:=IC (Ok.TR Gz) (a:=0) (b:=0+(34359738368:Nat)) fun n j=>by have:=d.Gc n j;omega
  have C:=IC (Ok.TR IT) (a:=0) (b:=0+(34359738368:Nat)) fun n j=>by have:=d.Gc n (d.rl n j);omega
  have v:=IC (Ok.TR JM) (a:=0) (b:=0+(34359738368:Nat)) fun n j=>by have:=d.Gc n (d.el n j);omega
  have:=VD 34359738368 Gz IT JM d.rl d.el d.re 0;omega
end
end Go.Sh
set_option linter.all false
set_option maxRecDepth 40000
set_option maxHeartbeats 4000000
namespace Go.Sh
section
variable{E:Env}{b:Nat}{V:VS}{Rs:List Pr}{w:World}
theorem SF(H:Sat (Bf E b V::Rs) w){k:Int}{K:Int->World->Prop}
  (j: ∀w',Sat (Bf E b V::Rs) w'->K (if k=2 then CK V.ready else if k=3 then CK V.rel else if k=1 then CK V.laid-CK V.ready-CK V.rel else 0) w'):
  F.DI E (some ⟨b,0,none⟩) k K w:=SA H (fun w' d=>j w' (H.nothing d)) H.rX.Xz
variable(hE:EnvS E)
include hE
theorem Tu(H:Sat (Bf E b V::Rs) w){page AA:Int}(h0:0<=page)(N:0<AA)(C:page+AA<=34359738368)(j: ∀p,page<=p->p<page+AA->mem V.ready p)
  {K:Int->World->Prop}(d: ∀w',Sat (Bf E b (E0 V page AA)::Rs) w'->K 0 w'):F.Cg E (some ⟨b,0,none⟩) page AA K w:=by
 have J:=H.rX;have c2:cnt V.ready page (page+AA)=AA:=by have:=(Ci J.IT (a:=page) (b:=page+AA) (by omega)).2 j;omega
 exact Qi hE H h0 (by omega) (by omega) (by omega) (fun h=>absurd ⟨by omega,C⟩ h) (fun _ h=>absurd c2 h) fun _ _ w' v=>d w' v
end
end Go.Sh

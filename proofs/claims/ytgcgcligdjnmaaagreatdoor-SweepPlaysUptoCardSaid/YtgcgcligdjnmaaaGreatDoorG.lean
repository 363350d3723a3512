/- What the law's functions do. No further condition. -/
import Derived.Test.YtgcgcligdjnmaaaGreatDoorJ
import Derived.Test.YtgcgcligdjnmaaaGreatDoorL
import Derived.Test.YtgcgcligdjnmaaaGreatDoorK
import Derived.Test.YtgcgcligdjnmaaaGreatDoorQ
import Derived.Test.YtgcgcligdjnmaaaGreatDoorH
import Derived.Test.YtgcgcligdjnmaaaGreatDoorA
set_option linter.all false
set_option maxRecDepth 50000
set_option maxHeartbeats 8000000
namespace Go.Sh
def SI.rs(I:SI):Int×Int×Int×Int×Bool×Int×Int:=(I.base,I.AA,I.state,I.cls,I.FY,I.elem,I.AM)
def Ax.congr{E:Env}{q:Nat}{I J:SI}{U M:Nat->Bool}(h:I.rs=J.rs):Ax E q I U M=Ax E q J U M:=by
 unfold SI.rs at h;injection h with h1 h
 injection h with h2 h
 injection h with h3 h
 injection h with h4 h
 injection h with h5 h
 injection h with h6 h7
 have d:Gb I=Gb J:=by funext s1 s2 lk;unfold Gb;grind
 have j:gZ I U M=gZ J U M:=by
  funext ul ml lk;refine propext ⟨λg=>⟨g.u,g.m,by rw[<-h7];exact g.lu,by rw[<-h7];exact g.lm,by rw[<-h7];exact g.Ja,by rw[<-h7];exact g.lk0,g.lk1⟩,λg=>⟨g.u,g.m,by rw[h7];exact g.lu,by rw[h7];exact g.lm,by rw[h7];exact g.Ja,by rw[h7];exact g.lk0,g.lk1⟩⟩
 have v:Ut E q I=Ut E q J:=by funext ul ml s1 s2 lk;unfold Ut;rw[d]
 unfold Ax;rw[j,v]
section
variable{E:Env}{h:Nat}{S S':HS}{um um':iA}{g:RG}{Z:List Pr}{w:World}
def rsR.congr{x:Int×Nat}(hs:(S'.sp x.1).map (λy=>y.2.rs)=(S.sp x.1).map (λy=>y.2.rs))(hu:um' x.1=um x.1):rsR E S'.sp um' x=rsR E S.sp um x:=by
 unfold rsR;rw[hu];cases h1:S.sp x.1<;>cases h2:S'.sp x.1<;>rw[h1,h2]at hs
 .cases hs
 .cases hs
 .exact Ax.congr (by grind)
def Sat.qN(H:Sat (Kf E h S um::Z) w)(Y:S'.V=S.V)(e2:S'.T=S.T)(j:S'.ca=S.ca)(e4:S'.fx=S.fx)(e5:S'.hint=S.hint)(d: ∀id,(S'.sp id).map (λy=>y.2.rs)=(S.sp id).map λy=>y.2.rs)(v: ∀id,S.sp id≠none->um' id=um id):Sat (Kf E h S' um'::Z) w:=by
 obtain⟨g,hI,H⟩:=Sat.IC.1 H;have J: ∀id,S'.at id=S.at id:=λid=>by
  have:=d id;unfold HS.at;cases h1:S.sp id<;>cases h2:S'.sp id<;>rw[h1,h2]at this
  .cases this
  .cases this
  .simp only[Option.map_some,SI.rs]at this
   grind
 have K: ∀id,S'.sp id≠none↔S.sp id≠none:=λid=>by
  have:=d id;cases h1:S.sp id<;>cases h2:S'.sp id<;>rw[h1,h2]at this
  .cases this
  .cases this
  grind
 refine Sat.IC.2 ⟨g,⟨by rw[j];exact hI.q,λid=>by rw[K];exact hI.mem id,?_⟩,?_⟩
 .have:(g.L.map λx=>S'.at x.1)=g.L.map λx=>S.at x.1:=List.map_congr_left λx _=>J x.1;rw[this];exact hI.so
 .have:Ad (rsR E S'.sp um') g.L=Ad (rsR E S.sp um) g.L:=Ad.congr λx O=>rsR.congr (d x.1) (v x.1 ((hI.mem x.1).1 (List.mem_map.2 ⟨x,O,rfl⟩)));unfold Ee at H⊢
  grind
def TG(H:Sat (Ee E h S um g++Z) w): ∃R,Sat (MM E g.t S.T::R) w/\ ∀{d:TV} {w'},Sat (MM E g.t d::R) w'->Sat (Ee E h {S with T:=d} um g++Z) w':=
 ⟨_,H.front 2 rfl,λ{d w'} H'=>Sat.back (Ps:=Ee E h S um g++Z) 2 H' (by simp[Ee])⟩
def eH(H:Sat (Ee E h S um g++Z) w): ∃R,Sat (Gc E g.m S.V::R) w/\ ∀{V':VS} {w'},Sat (Gc E g.m V'::R) w'->Sat (Ee E h {S with V:=V'} um g++Z) w':=
 ⟨_,H.front 1 rfl,λ{V' w'} H'=>Sat.back (Ps:=Ee E h S um g++Z) 1 H' (by simp[Ee])⟩
def rhM{R:List Pr}(H:Sat (Cells h E.Ac (DV g.m g.t g.f g.sl S.hint g.v)::R) w):w.cell? (Addr.mk h 0 none)=some (.pointer (some ⟨g.m,0,none⟩)):=
 H.Ah (o:=0) (rh_0 g.m g.t g.f g.sl S.hint g.v)
def rhF{R:List Pr}(H:Sat (Cells h E.Ac (DV g.m g.t g.f g.sl S.hint g.v)::R) w):w.cell? ((Addr.mk h 0 none).add 8258)=some (.pointer (some ⟨g.f,0,none⟩)):=
 H.cell (o:=0) (m:=8258) (by rw[Nat.zero_add];exact XX g.m g.t g.f g.sl S.hint g.v 0)
def y7{R:List Pr}(H:Sat (Cells h E.Ac (DV g.m g.t g.f g.sl S.hint g.v)::R) w):w.cell? ((Addr.mk h 0 none).add 8260)=some (.int .u64 S.hint):=
 H.cell (o:=0) (m:=8260) (by rw[Nat.zero_add];exact XX g.m g.t g.f g.sl S.hint g.v 2)
def qO(H:Sat (Ee E h S um g++Z) w){x:Int}{K:World->Prop}(j: ∀w',Sat (Ee E h {S with hint:=x} um g++Z) w'->K w'):stCells ((Addr.mk h 0 none).add 8260) 0 [.int .u64 x] w K:=by
 refine AZ H (o:=0) (m:=8260) rfl (by rw[qH];decide) λw' d=>j w' ?_;rw[Nat.zero_add,qI g.m g.t g.f g.sl S.hint g.v 2 (.int .u64 x) (f':=g.f) (sl':=g.sl) (hint':=x) rfl]at d;exact d
def vX{s:Aa}{R:List Pr}{g:RG}(H:Sat (Cells h E.Ac (DV g.m g.t g.f g.sl S.hint g.v)::R) w){K:World->Prop}(j: ∀w',Sat (Cells h E.Ac (DV g.m g.t g.f s S.hint g.v)::R) w'->K w'):stCells ((Addr.mk h 0 none).add 8259) 0 [.slice s.base s.len s.cap] w K:=by
 refine AZ H (o:=0) (m:=8259) rfl (by rw[qH];decide) λw' d=>j w' ?_;rw[Nat.zero_add,qI g.m g.t g.f g.sl S.hint g.v 1 (.slice s.base s.len s.cap) (f':=g.f) (sl':=s) (hint':=S.hint) rfl]at d;exact d
def K3(hI:aM S g)(H:Sat (Ee E h S' um g++Z) w)(j:S'.ca=S.ca)(d:S'.sp=S.sp):Sat (Kf E h S' um::Z) w:=by
 refine Sat.IC.2 ⟨g,⟨by rw[j];exact hI.q,by rw[d];exact hI.mem,?_⟩,H⟩;have:S'.at=S.at:=by funext id;unfold HS.at;rw[d]
 rw[this];exact hI.so
def SL(H:Sat (Kf E h S um::Z) w){p:Nat}(hp:p<64): ∃(t:Nat) (A D:List Value) (R:List Pr),A.length=2+p*129/\w.cell? ((Addr.mk h 0 none).add 1)=some (.pointer (some ⟨t,0,none⟩))/\Sat (gX h E.Ac A D (S.ca p)::MM E t S.T::R) w/\
  ∀{d:CS} {y:TV} {w'},Sat (gX h E.Ac A D d::MM E t y::R) w'->Sat (Kf E h {S with T:=y,ca:=λj=>if j=p then d else S.ca j} um::Z) w':=by
 obtain⟨g,hI,H1⟩:=Sat.IC.1 H;obtain⟨J,O⟩:=Sat.qJ (R:=Gc E g.m S.V::MM E g.t S.T::KA E g.f S.fx::Row E.Ab 2 g.sl (Al JW g.L)::Ad (rsR E S.sp um) g.L::Z) H1 hI hp;refine⟨g.t,_,_,_,hZ g.m g.t g.v hp,u6 H1,J.DR 1 rfl,λ{d y w'} H3=> ?_⟩;obtain⟨x,hq,K⟩:=O (H3.perm (.cons _ (.swap _ _ _)));refine Sat.IC.2 ⟨{g with v:=RV g.v p x},⟨λi Y=> ?_,hI.mem,hI.so⟩,K⟩;show pV (if i=p then d else S.ca i) (RV g.v p x i).1 (RV g.v p x i).2.1 (RV g.v p x i).2.2;unfold RV;by_cases e:i=p
 .grind
 .rw[if_neg e,if_neg e];exact hI.q i Y
def XZ(H:Sat (Kf E h S um::Z) w)(hI:BN S no)(hk:Jw S){p n:Int}(n0:1<=n)(n1:n<=134217728){K:Int->Int->World->Prop}
  (a4: ∀page S2,Found S p n page S2->BN S2 (inr page n)->Jw S2->0<=page->page+n<=34359738368-> ∀w',Sat (Kf E h S2 um::Z) w'->K page 0 w')(aR: ∀S2,Sg S p n S2-> ∀w',Sat (Kf E h S2 um::Z) w'->K 0 13 w'):F.CV E (some ⟨h,0,none⟩) p n K w:=by
 unfold F.CV T0.CV;refine I3 (λst w'=>(st.2.1=30/\ ∃S0,Ih S p n S0/\Sat (Kf E h S0 um::Z) w')∨(st.2.1=0/\ ∃S1,aI S p n st.1 S1/\Sat (Kf E h S1 um::Z) w')) ?_ ?_
 .refine I3 (λst w'=>st.1=decide (0<=p/\p<64/\n<16)/\w'=w) ?_ ?_
  .refine AB (λa1=>AB (λa2=>⟨?_,rfl⟩) λa2=>⟨?_,rfl⟩) λa1=>⟨?_,rfl⟩
   .grind
   .grind
   grind
  rintro⟨s,u⟩ _ w6 ⟨hs,rfl⟩;dsimp only at hs⊢;subst hs;refine AB (λhp=> ?_) λhp=>.inl ⟨rfl,S,.inl ⟨hp,rfl⟩,H⟩;obtain⟨p0,aS,a9⟩:=hp;have hi:p.toNat<64:=by omega
  have a7:p=((p.toNat:Nat):Int):=by omega
  refine I3 (λ_ w'=> ∃S1,Jr S p.toNat S1/\Sat (Kf E h S1 um::Z) w') ?_ ?_
  .obtain⟨t,A,D,R,hA,O,H1,y⟩:=SL H hi;have ha:((Addr.mk h 0 none).add 2).add (Int.toNat p*129)=Addr.mk h A.length none:=by rw[add_add,add_eq,Nat.zero_add,hA]
   have same: ∀{w'},Sat (gX h E.Ac A D (S.ca p.toNat)::MM E t S.T::R) w'->Sat (Kf E h S um::Z) w':=λ{w'} h'=>by
    have:=y h';rw[gL]at this;exact this
   refine AF ⟨⟨p0,aS⟩,?_⟩;rw[ha];refine Qg H1 (λhe=>AU rfl (AF ⟨⟨p0,aS⟩,AF ⟨some ⟨t,0,none⟩,O,?_⟩⟩)) λhe=>AO rfl ⟨S,.inr ⟨.inl he,rfl⟩,H⟩
   .rw[ha];refine Zr H1.drew hk.tv.fi hk.tv.rf hk.tv.Ja (λh'=>absurd he h') (λ_ j w' v=>⟨S,.inr ⟨.inr j,rfl⟩,same v⟩) λ_ q Y w' v=>⟨_,.inl ⟨he,q,Y,rfl⟩,y v⟩
  rintro _ _ w9 ⟨S1,hf,H9⟩;obtain⟨t,A,D,R,hA,O,bF,y⟩:=SL H9 hi;have ha:((Addr.mk h 0 none).add 2).add (Int.toNat p*129)=Addr.mk h A.length none:=by rw[add_add,add_eq,Nat.zero_add,hA]
  refine AF ⟨⟨p0,aS⟩,?_⟩;rw[ha,AE (n:=n)];refine XR bF (by omega) (by omega) (λc=>by omega) (λ_ _ j=>.inl ⟨rfl,S1,.inr ⟨p.toNat,hi,a7,a9,hf,j⟩,H9⟩) λ_ _ k hr hl bU w' v=>.inr ⟨rfl,S1.JJ p.toNat k n.toNat,.inl ⟨S1,p.toNat,k,hi,a7,a9,hf,hr,hl,bU,rfl,rfl⟩,y v⟩
 rintro⟨pg,e,u⟩ _ w3 J;dsimp only at J⊢;refine I3 (λst w'=>(st.2.1=30/\ ∃S0,Ih S p n S0/\(∀q,¬LO S0.T.fr q n)/\Sat (Kf E h S0 um::Z) w')∨(st.2.1=0/\ ∃S1,aI S p n st.1 S1/\Sat (Kf E h S1 um::Z) w')) ?_ ?_
 .rcases J with ⟨rfl,S0,O,H3⟩|⟨rfl,S1,hg,H3⟩
  .refine AU rfl ?_;obtain⟨g,hR,H4⟩:=Sat.IC.1 H3;obtain⟨R,H5,y⟩:=TG H4;refine AF ⟨some ⟨g.t,0,none⟩,u6 H4,?_⟩;refine Qk H5 (O.ok hk).tv n0 (by omega) (λj w' v=>.inl ⟨rfl,S0,O,j,K3 hR (y v) rfl rfl⟩) λq x Y w' v=>.inr ⟨rfl,S0.Fp q n,.inr ⟨S0,O,Y,rfl⟩,K3 hR (y v) rfl rfl⟩
  .exact AO rfl (.inr ⟨rfl,S1,hg,H3⟩)
 clear J;rintro⟨pg,e,u⟩ _ cF J;dsimp only at J⊢;refine I3 (λst w'=>st.2.1=0/\ ∃S1,UP S p n st.1 S1/\BN S1 (inr st.1 n)/\Jw S1/\0<=st.1/\st.1+n<=34359738368/\Sat (Kf E h S1 um::Z) w') ?_ ?_
 .rcases J with ⟨rfl,S0,O,j,H3⟩|⟨rfl,S1,hg,H3⟩
  .refine AU rfl ⟨by decide,AY λN hN=> ?_⟩;rw[AK (n:=n+511),Int.tdiv_eq_ediv_of_nonneg (by omega),AK (n:=(n+511)/512),AK]at hN;have hN:N=ID n:=by unfold ID;omega
   subst hN;obtain⟨u1,u2,u3,u4⟩:=qM n0 n1;have i0:=O.inv hI hk;have k0:=O.ok hk;obtain⟨g,hR,H4⟩:=Sat.IC.1 H3.drew;obtain⟨R,H5,y⟩:=eH H4;have hh:=i0.h0;have b9:=i0.h1;refine AF ⟨some ⟨g.m,0,none⟩,rhM H4,AF ⟨S0.hint,y7 H4,?_⟩⟩;refine VP H5 hh (by omega) (by omega) (by omega) (λc=>by omega) (λ_ r hr w' v=>AU rfl (aR _ (.inl ⟨S0,O,j,.inl ⟨r,hr,rfl⟩⟩) w' (K3 hR (y v) rfl rfl)))
    (λ_ hr hu w' v=>AU rfl (aR _ (.inl ⟨S0,O,j,.inr ⟨hr,hu,rfl⟩⟩) w' (K3 hR (y v) rfl rfl))) λ_ hr a a0 a1 hc cH bG=>AO rfl ?_
   obtain⟨g1,g2,g3,g4,g5,g6⟩:=lE i0 k0 n0 n1 hc (by omega);have bH:=y (bG g2.vv);rw[AK (n:=a+ID n)];refine AF (qO bH λcI aV=>AF ⟨some ⟨g.t,0,none⟩,u6 aV,by decide,by decide,?_⟩);rw[Int.tdiv_eq_ediv_of_nonneg (by omega),Int.tdiv_eq_ediv_of_nonneg (by omega),AK (n:=a/512),AK (n:=ID n/512)];obtain⟨R2,bI,aP⟩:=TG aV;refine Z4 bI (by omega) (by omega) (by omega) (by omega) (λq q1 q2=>g6 q (by omega) (by omega)) λcJ bJ=> ?_;have aW:=aP bJ;refine AF ⟨some ⟨g.t,0,none⟩,u6 aW,?_⟩;obtain⟨R3,bK,bS⟩:=TG aW;refine Qk bK g2.tv n0 (by omega) (λj w' v=>absurd g3 (j a)) λq x Y w' v=> ?_;have j1:=g1.Fp g2 Y.2.2.1;exact⟨rfl,_,.inr ⟨S0,_,O,j,⟨hr,a,hc,rfl⟩,Y,rfl⟩,j1,g2.Fp (by omega),Y.1,Y.2.1,K3 hR (bS v) rfl rfl⟩
  .obtain⟨j1,j2,j3,j4⟩:=hg.inv hI hk n0;exact AO rfl ⟨rfl,S1,.inl hg,j1,j2,j3,j4,H3⟩
 clear J;rintro⟨pg,e,u⟩ _ cG ⟨e0,S1,O,aF,d,aC,aD,aU⟩;dsimp only at e0 O aF aC aD⊢;subst e0;refine AO rfl ?_;obtain⟨g,hR,H4⟩:=Sat.IC.1 aU;obtain⟨R,H5,y⟩:=eH H4;refine AF ⟨some ⟨g.m,0,none⟩,rhM H4,?_⟩;have hl: ∀q,pg<=q->q<pg+n->mem S1.V.laid q:=λq q1 q2=>(aF.la q).2 (aF.li q (Ai.2 ⟨q1,q2⟩));have bT:cnt S1.V.laid pg (pg+n)=n:=by
  have:=(Eu d.vv.Le (a:=pg) (b:=pg+n) (by omega)).2 hl;omega
 have aQ:cnt S1.V.ready pg (pg+n)=n↔Jt S1 pg n:=by
  have:=Eu d.vv.Ol (a:=pg) (b:=pg+n) (by omega);rw[show pg+n-pg=n by omega]at this;exact this
 have bW:JI pg n:=⟨by omega,aD⟩;refine XV H5 aC (by omega) (by omega) (by omega) (λc=>absurd bW c) (λ_ c=>absurd bT c) (λ_ _ c w' v=>AO rfl (a4 pg S1 ⟨S1,O,.inl ⟨aQ.1 c,rfl⟩⟩ aF d aC aD w' (K3 hR (y v) rfl rfl)))
  (λ_ _ c r hr aT aJ=>AU rfl ?_) λ_ _ c hr aT aJ=>AO rfl (a4 pg _ ⟨S1,O,.inr ⟨λx=>c (aQ.2 x),hr,rfl⟩⟩ (aF.PG d aC (by omega) aD λq q1 q2=>Ai.2 ⟨q1,q2⟩) ⟨d.tv,d.vv.PG aC (by omega) aD hl,d.ci,d.ok,d.fx⟩ aC aD aT (K3 hR (y (aJ (d.vv.PG aC (by omega) aD hl))) rfl rfl))
 have bV: ¬Jt S1 pg n:=λx=>c (aQ.2 x);have bL:Sat (Kf E h {S1 with V:={S1.V with rf:=r}} um::Z) aT:=K3 hR (y aJ) rfl rfl;clear aJ y H5 H4 hR aU R g;have aO:BN {S1 with V:={S1.V with rf:=r}} (inr pg n):=aF.tW rfl rfl;have aH:Jw {S1 with V:={S1.V with rf:=r}}:=⟨d.tv,⟨d.vv.Le,d.vv.Ol,d.vv.Vr,d.vv.rl,d.vv.el,d.vv.re,d.vv.Ja,d.vv.clean,d.vv.xW⟩,d.ci,d.ok,d.fx⟩;have aL:=λw' (v:Sat (Kf E h (({S1 with V:={S1.V with rf:=r}}:HS).E9 pg n) um::Z) w')=>aR _ (.inr ⟨S1,pg,r,O,bV,hr,rfl⟩) w' v;generalize hS2:({S1 with V:={S1.V with rf:=r}}:HS)=S2 at bL aO aH aL;refine AH (λst w'=> ∃i:Int,st.1=pg+i/\0<=i/\i<=n/\Sat (Kf E h (S2.E9 pg i) um::Z) w') (λst _=>(pg+n-st.1).toNat) ⟨0,by omega,Int.le_refl _,by omega,?_⟩ ?_
 .have:S2.E9 pg 0=S2:=by
   have e: ∀q,inr pg 0 q=false:=λq=>by rw[IJ];omega
   unfold HS.E9;simp only[e,Bool.or_false,Bool.false_and]
  grind
 rintro⟨_,u⟩ _ b0 ⟨i,rfl,i0,i1,aX⟩;dsimp only;rw[AK (n:=pg+n)];refine AB (λcA=> ?_) λb7=> ?_
 .obtain⟨g,hR,H4⟩:=Sat.IC.1 aX.drew;obtain⟨R,H5,y⟩:=eH H4;refine AF ⟨some ⟨g.t,0,none⟩,u6 H4,AF ⟨some ⟨g.m,0,none⟩,rhM H4,?_⟩⟩;refine Zx H5 λcK bM=> ?_;have aY:=y bM;refine⟨u6 aY,?_⟩;obtain⟨R2,bN,aP⟩:=TG aY;have a6:=aO.On aH (p:=pg+i) (Ai.2 ⟨by omega,by omega⟩);have a3:=aO.li (pg+i) (Ai.2 ⟨by omega,by omega⟩);refine XQ bN (λq Y=> ?_) (by omega) (by omega) a3 ?_ λcL bO=> ?_
  .have Y:(S2.T.rl q||(inr pg i q&& !M5 S2.V.ready q))=true:=Y;show(S2.T.fr q||inr pg i q)=true;rw[Bool.or_eq_true_iff]at Y⊢;rcases Y with Y|Y
   .exact .inl (aH.tv.rf q Y)
   grind
  .show(S2.T.fr (pg+i)||inr pg i (pg+i))=false;rw[a6.1,Bool.false_or,IJ];omega
  .rw[AK (n:=pg+i+1)];refine⟨⟨i+1,by omega,by omega,by omega,?_⟩,by omega⟩;have aZ:=K3 (S':={S2.E9 pg i with T:=_}) hR (aP bO) rfl rfl;have e:(if((Xq (S2.E9 pg i).V (pg+i)) !=2)=true then(S2.E9 pg i).T.back (pg+i) 1 else(S2.E9 pg i).T.OY (pg+i) 1)=(S2.E9 pg (i+1)).T:=by
    have bX:((Xq (S2.E9 pg i).V (pg+i)) !=2)= !M5 S2.V.ready (pg+i):=by
     show(Xq S2.V (pg+i) !=2)=_;cases hr:M5 S2.V.ready (pg+i)with
     | true=>rw[qF aH.vv (Bl.1 hr)];rfl
     | false=>
      have:Xq S2.V (pg+i)≠2:=by
       rcases OU aH.vv (pg+i)with c|c|c|c
       .omega
       .omega
       .rw[Bl.2 c.2.2.1]at hr;cases hr
       omega
      grind
    rw[bX];have aM: ∀q,inr pg (i+1) q=(inr pg i q||inr (pg+i) 1 q):=λq=>by
     rw[Bool.eq_iff_iff,Bool.or_eq_true_iff,Ai,Ai,Ai];omega
    cases hr:M5 S2.V.ready (pg+i)with
    | true=>
     rw[if_neg (by simp)];unfold TV.OY HS.E9;dsimp only;congr 1
     .grind
     .funext q;rw[aM];by_cases e:q=pg+i
      .grind
      .have:inr (pg+i) 1 q=false:=by rw[IJ];omega
       grind
    | false=>
     rw[if_pos (by simp)];unfold TV.back HS.E9;dsimp only;congr 1
     .grind
     .funext q;rw[aM];by_cases e:q=pg+i
      .grind
      .have:inr (pg+i) 1 q=false:=by rw[IJ];omega
       grind
   rw[e]at aZ;exact aZ
 .obtain rfl:i=n:=by omega
  exact aL b0 aX
end
def KB(um:iA)(id:Int)(U M:Nat->Bool):iA:=λi=>if i=id then(U,M)else um i
section
variable{E:Env}{h:Nat}{S S':HS}{um um':iA}{g:RG}{Z:List Pr}{w:World}
def atK(S:HS)(x:Int×Nat):Int:=S.at x.1
def aM.HT(hI:aM S g):Ik (atK S) g.L:=List.pairwise_map.1 hI.so
def aM.nd(hI:aM S g):(g.L.map (·.1)).Nodup:=List.pairwise_map.2 (List.Pairwise.imp (λ{a b} hab e=>by unfold atK at hab;grind) hI.HT)
def aM.KY{fl:Int->Bool}(hI:aM S g)(d:BN S fl):g.L.length<1099511627776:=by
 have:=d.KY _ hI.nd λn j=>(hI.mem n).1 j
 grind
def rhadd_spec{q:Nat}{I:SI}{page n:Int}{U M:Nat->Bool}(H:Sat (Ax E q I U M::Kf E h S um::Z) w)(d:BN S (inr page n))(hk:Jw S)(n0:0<n)(i1:I.base=page*8192){K:Int->World->Prop}
  (hK: ∀id X,Next S id X-> ∀w',(∀b,Sat (Kf E h (S.Cv id (b,I) page n X) (KB um id U M)::Z) w')->K id w'):F.Cz E (some ⟨h,0,none⟩) (some ⟨q,0,none⟩) K w:=by
 obtain⟨g,hI,H1⟩:=Sat.IC.1 (H.perm (.swap _ _ _));unfold F.Cz T0.Cz;have bZ:=hI.KY d;have cI:=d.fb;have key: ∀id X,Next S id X-> ∀w4,Sat (Ee E h {S with fx:=X} um g++Ax E q I U M::Z) w4->
   Af (Int×Unit) (λJ5=>
  At (Int×Unit) (0,()) w4 λs8 _ w9 aF=>
   NC (some (Addr.mk h 0 none)) λbL=>
   ∃aI:Aa,w9.drew.cell? (bL.add 8259)=some (.slice aI.base aI.len aI.cap)/\
   CND (decide ((s8.1:Int)<((aI.len:Nat):Int))) (
    NC (some (Addr.mk h 0 none)) λbM=>
    ∃aD:Aa,w9.drew.cell? (bM.add 8259)=some (.slice aD.base aD.len aD.cap)/\
    NC aD.base λbN=>
    ((0:Int)<=s8.1/\(s8.1:Int)<(aD.len:Nat))/\
    ∃a5:(Option Addr),w9.drew.cell? ((bN.add (Int.toNat s8.1*2)).add 1)=some (.pointer a5)/\
    NC a5 λbO=>
    ∃a6:Int,w9.drew.cell? bO=some (.int .u64 a6)/\
    NC (some (Addr.mk q 0 none)) λbP=>
    ∃a7:Int,w9.drew.cell? bP=some (.int .u64 a7)/\
    CND (decide ((a6:Int)<a7)) (
     aF (i64 (s8.1+1),()) w9.drew
    ) (
     J5 (s8.1,()) w9.drew
    )
   ) (
    J5 (s8.1,()) w9.drew
   )
 ) λs6 _ w7=>
  AL (.cells ⟨[]⟩ E.Ab) w7 λaW aQ=>
  NC (some (Addr.mk h 0 none)) λbQ=>
  ∃Y:Aa,aQ.cell? (bQ.add 8259)=some (.slice Y.base Y.len Y.cap)/\
  ((0:Int)<=s6.1/\(s6.1:Int)<=(Y.cap:Nat))/\
  APP E.Ab 2 16 #[.int .i64 0,.pointer none] ⟨(some (Addr.mk aW 0 none)),0,0⟩ ⟨(F2 Y.base Y.cap 0 2),(Int.toNat s6.1),Y.cap⟩ aQ λQ5 a2=>
  AL (.cells ⟨[.int .i64 id,.pointer (some (Addr.mk q 0 none))]⟩ E.Ab) a2 λaX a3=>
  APP E.Ab 2 16 #[.int .i64 0,.pointer none] Q5 ⟨(some (Addr.mk aX 0 none)),1,1⟩ a3 λJR aR=>
  NC (some (Addr.mk h 0 none)) λbR=>
  ∃O:Aa,aR.cell? (bR.add 8259)=some (.slice O.base O.len O.cap)/\
  ((0:Int)<=s6.1/\(s6.1:Int)<=(O.len:Nat))/\
  APP E.Ab 2 16 #[.int .i64 0,.pointer none] JR ⟨(F2 O.base O.cap (Int.toNat s6.1) 2),(O.len-(Int.toNat s6.1)),(O.cap-(Int.toNat s6.1))⟩ aR λPW a4=>
  NC (some (Addr.mk h 0 none)) λbS=>
  stCells (bS.add 8259) 0 [.slice PW.base PW.len PW.cap] a4 λaG=>
  K id aG:=by
  intro id X hX w4 H4;obtain⟨O1,bI,_⟩:=hX.live hk d;have aP: ∀x∈g.L,∃y,S.sp x.1=some y/\x.1≠id/\0<=y.2.base/\S.at x.1=y.2.base/\y.2.base %8192=0/\y.2.base/8192≠page:=λx J=>by
   obtain⟨y,hy⟩:=Option.ne_none_iff_exists'.1 ((hI.mem x.1).1 (List.mem_map.2 ⟨x,J,rfl⟩));have hs:=d.sp x.1 y hy;have h1:=hs.2.2.2.2 (y.2.base/8192) (Int.le_refl _) (by omega);have cK:=hk.tv.Ja _ (d.ow _ (by omega:0<S.own (y.2.base/8192))).1;refine⟨y,hy,λe=>(by grind),by omega,HS.gU hy,hs.2.1,λe=> ?_⟩;have:=(d.On hk (p:=page) (Ai.2 ⟨Int.le_refl _,by omega⟩)).2.2.1
   grind
  refine I3 (λst w'=> ∃i:Nat,st.1=(i:Int)/\i<=g.L.length/\(∀(j:Nat) x,g.L[j]? =some x->j<i->S.at x.1<page*8192)/\(∀x,g.L[i]? =some x->page*8192<S.at x.1)/\Sat (Ee E h {S with fx:=X} um g++Ax E q I U M::Z) w') ?_ ?_
  .refine AH (λst w'=>Sat (Ee E h {S with fx:=X} um g++Ax E q I U M::Z) w'/\ ∃i:Nat,st.1=(i:Int)/\i<=g.L.length/\(∀(j:Nat) x,g.L[j]? =some x->j<i->S.at x.1<page*8192)) (λst _=>((g.L.length:Int)-st.1).toNat) ⟨H4,0,rfl,Nat.zero_le _,λj q _ hj=>by omega⟩ ?_;rintro⟨i',u⟩ _ w9 ⟨H9,i,hi,aB,aA⟩;dsimp only at hi⊢;subst hi;have Hd:=H9.drew;have hl:=Mt (Hd.front 4 rfl);refine AF ⟨g.sl,aN Hd,AB (λbJ=>AF ⟨g.sl,aN Hd,?_⟩) λcJ=>⟨i,rfl,aB,aA,λx J=> ?_,Hd⟩⟩
   .obtain⟨x,J⟩: ∃x,g.L[i]? =some x:=⟨_,List.getElem?_eq_getElem (by omega)⟩;obtain⟨b,hb⟩:=(Hd.front 4 rfl).FW (by decide) Bs (i:=i) (by omega);rw[hb];obtain⟨y,hy,aO,yb,cH,hm,cN⟩:=aP x (List.mem_of_getElem? J);obtain⟨y',R',bK,h1⟩:=qL (S:={S with fx:=X}) (Hd.front 5 rfl) ⟨hI.q,hI.mem,hI.so⟩ J;have e:y'=y:=by
     have:S.sp x.1=some y':=bK
     grind
    subst e;obtain⟨ul,ml,s1,s2,lk,cG,h2⟩:=Sat.Gx.1 h1;obtain⟨cU,cR,cS,cT,cQ,_,h3⟩:=Sat.Gx.1 (Hd.front 6 rfl);refine AF ⟨⟨by omega,bJ⟩,some ⟨x.2,0,none⟩,?_,AF ⟨_,h2.Ah rfl,AF ⟨_,h3.Ah rfl,?_⟩⟩⟩
    .have:=(Hd.front 4 rfl).Bh Bs hb J (j:=1) rfl;rw[add_add];exact this
    have eI:I.base/8192=page:=by omega
    rw[eI];refine AB (λb3=> ?_) λb0=>⟨i,rfl,aB,aA,λz hz=> ?_,Hd⟩
    .rw[AE (n:=(i:Int)+1)];refine⟨⟨Hd,i+1,by omega,by omega,λj z hz hj=> ?_⟩,by omega⟩
     grind
    grind
   grind
  rintro⟨i',u⟩ _ w7 ⟨i,hi,aB,aA,aZ,H7⟩;dsimp only at hi⊢;subst hi;have cM:=(H7.front 4 rfl).Gv (by decide) Bs;refine HI (n:=0) (z:=2) H7 rfl (by decide) λaW aQ H8=>AF ⟨g.sl,aN (H8.front 1 rfl),⟨by omega,by omega⟩,?_⟩;rw[Int.toNat_natCast];have aC: ∀(x:Int×Nat),∀v∈JW x,v.oneCell'=true:=λx v hv=>by
   simp only[JW,List.mem_cons,List.not_mem_nil,or_false]at hv;rcases hv with rfl|rfl<;>rfl
  refine Ep (x:=⟨F2 g.sl.base g.sl.cap 0 2,i,g.sl.cap⟩) (news:=Al JW (g.L.take i)) H8 rfl ((H8.front 5 rfl).OL (by decide) Bs aB) (by rw[DQ Bs,List.length_take];grind) (GA aC _) (by grind) (by grind) λQ5 a2 aT a1=> ?_;rw[List.nil_append]at aT;dsimp only at a1;refine AR (vs:=[.int .i64 id,.pointer (some (Addr.mk q 0 none))]) aT λaX a3 a9 _=>EX (news:=[.int .i64 id,.pointer (some (Addr.mk q 0 none))]) a9 rfl rfl (aC (id,q)) (by omega) (by omega) λJR aR aL b1=> ?_;refine AF ⟨g.sl,aN (aL.front 1 rfl),⟨by omega,by omega⟩,?_⟩;refine Ep (x:=⟨F2 g.sl.base g.sl.cap i 2,g.sl.len-i,g.sl.cap-i⟩) (news:=Al JW (g.L.drop i)) aL rfl ((aL.front 5 rfl).OM (by decide) Bs aB) (by rw[DQ Bs,List.length_drop];grind) (GA aC _) (by grind) (by grind) λPW a4 aU _=> ?_;have e3:Al JW (g.L.take i)++[Value.int .i64 id,.pointer (some (Addr.mk q 0 none))]++Al JW (g.L.drop i)=Al JW (g.L.take i++[(id,q)]++g.L.drop i):=by
   rw[FN,FN];rfl
  rw[e3]at aU;refine AF (vX (s:=PW) (aU.front 1 rfl) λaG bA=>hK id X hX aG λb=> ?_);have aY:(g.L.take i++[(id,q)]++g.L.drop i).Perm ((id,q)::g.L):=by
   have h1:(g.L.take i++[(id,q)]++g.L.drop i).Perm ([(id,q)]++(g.L.take i++g.L.drop i)):=by grind
   rw[List.take_append_drop]at h1;exact h1
  have bB:=(bA.front 5 rfl).tail;have bC:=(bB.front 5 rfl).DR 5 rfl;have bD:=bC.perm (.swap _ _ _);have e4:Ad (rsR E S.sp um) g.L=Ad (rsR E (S.Cv id (b,I) page n X).sp (KB um id U M)) g.L:=Ad.congr λx J=>by
   obtain⟨y,hy,aO,_⟩:=aP x J;refine(rsR.congr (S:=S) (S':=S.Cv id (b,I) page n X) (um:=um) (um':=KB um id U M) ?_ ?_).symm
   .show Option.map _ (if x.1=id then some (b,I)else S.sp x.1)=_
    grind
   .unfold KB;rw[if_neg aO]
  have e5:Ax E q I U M=rsR E (S.Cv id (b,I) page n X).sp (KB um id U M) (id,q):=by
   unfold rsR KB;have:(S.Cv id (b,I) page n X).sp id=some (b,I):=if_pos rfl
   grind
  have aV:Sat (Ax E q I U M::Ad (rsR E S.sp um) g.L::Cells h E.Ac (DV g.m g.t g.f PW S.hint g.v)::Row E.Ab 2 PW (Al JW (g.L.take i++[(id,q)]++g.L.drop i))::Gc E g.m S.V::MM E g.t S.T::KA E g.f X::Z) aG:=bD;rw[e4,e5]at aV;have bE:=(Sat.Jf.2 aV).Je aY.symm;have bF:=((((bE.front 2 rfl).front 5 rfl).front 5 rfl).front 5 rfl).front 5 rfl;refine Sat.IC.2 ⟨{g with sl:=PW,L:=g.L.take i++[(id,q)]++g.L.drop i},⟨hI.q,λj=> ?_,?_⟩,bF⟩
  .show j∈(g.L.take i++[(id,q)]++g.L.drop i).map (·.1)↔(if j=id then some (b,I)else S.sp j)≠none;rw[(aY.map (·.1)).mem_iff,List.map_cons,List.mem_cons,hI.mem]
   grind
  .have aJ: ∀x∈g.L,(S.Cv id (b,I) page n X).at x.1=S.at x.1:=λx J=>by
    obtain⟨y,hy,aO,_⟩:=aP x J;unfold HS.at;show(match(if x.1=id then some (b,I)else S.sp x.1)with|some x=>x.2.base|none=>0)=_
    grind
   have bY:(S.Cv id (b,I) page n X).at id=page*8192:=by
    have:(S.Cv id (b,I) page n X).sp id=some (b,I):=if_pos rfl;rw[HS.gU this];exact i1
   have ht: ∀x∈g.L.take i,x∈g.L/\S.at x.1<page*8192:=λx J=>by
    obtain⟨j,hj⟩:=List.mem_iff_getElem?.1 J
    grind
   have hd: ∀x∈g.L.drop i,x∈g.L/\page*8192<S.at x.1:=λx J=>by
    obtain⟨j,hj⟩:=List.mem_iff_getElem?.1 J;rw[List.getElem?_drop]at hj;refine⟨List.mem_of_getElem? hj,?_⟩;have cL:=(List.getElem?_eq_some_iff.1 hj).1;obtain⟨z,hz⟩: ∃z,g.L[i]? =some z:=⟨_,List.getElem?_eq_getElem (by omega)⟩;have:=aZ z hz;by_cases e:j=0
    .grind
    .have:=hI.HT.lt hz hj (by omega);unfold atK at this;omega
   show((g.L.take i++[(id,q)]++g.L.drop i).map λx=>(S.Cv id (b,I) page n X).at x.1).Pairwise (· < ·);have e6:((g.L.take i++[(id,q)]++g.L.drop i).map λx=>(S.Cv id (b,I) page n X).at x.1)=(g.L.take i).map (λx=>S.at x.1)++[page*8192]++(g.L.drop i).map λx=>S.at x.1:=by
    rw[List.map_append,List.map_append,List.map_congr_left (l:=g.L.take i) (g:=λx=>S.at x.1) λx J=>aJ x (ht x J).1,List.map_congr_left (l:=g.L.drop i) (g:=λx=>S.at x.1) λx J=>aJ x (hd x J).1]
    grind
   rw[e6,List.pairwise_append,List.pairwise_append];refine⟨⟨?_,List.pairwise_singleton _ _,λa ha c hc=> ?_⟩,?_,λa ha c hc=> ?_⟩
   .exact List.pairwise_map.2 (hI.HT.take i)
   .obtain⟨x,J,rfl⟩:=List.mem_map.1 ha;rw[List.mem_singleton.1 hc];grind
   .exact List.pairwise_map.2 (hI.HT.drop i)
   .obtain⟨y,hy,rfl⟩:=List.mem_map.1 hc;have h2:=(hd y hy).2
    grind
 refine AF ⟨some ⟨g.f,0,none⟩,rhF H1,?_⟩;have bk: ∀{X:FX} {w'},Sat (KA E g.f X::(Ee E h S um g++Ax E q I U M::Z).eraseIdx 3) w'->Sat (Ee E h {S with fx:=X} um g++Ax E q I U M::Z) w':=λ{X w'} h'=>Sat.back (Ps:=Ee E h S um g++Ax E q I U M::Z) 3 h' (by simp[Ee]);exact Zs (H1.front 3 rfl) (by omega) (λhb w' H'=>key _ _ (.inl ⟨hb,rfl,rfl⟩) w' (bk H')) λa r hb w' H'=>key _ _ (.inr ⟨a,r,hb,rfl,rfl⟩) w' (bk H')
def Mw(H:Sat (Kf E h S um::Z) w)(hI:BN S no)(hk:Jw S){p n c:Int}{np:Bool}(n0:0<=n)(n1:n<18446744073709551616){K:Int->Int->World->Prop}
  (aA:GB 0 n c-> ∀w',Sat (Kf E h S um::Z) w'->K 0 1 w')
  (aB: ¬GB 0 n c-> ∀S2,Sg S p n S2-> ∀w',Sat (Kf E h S2 um::Z) w'->K 0 13 w')
  (aC: ¬GB 0 n c-> ∀page S2 id X,Found S p n page S2->Next S2 id X-> ∀w',(∀b,Sat (Kf E h (S2.Cv id (b,IZ page n c np) page n X) (KB um id uW uW)::Z) w')->K id 0 w'):
  F.Bu E (some ⟨h,0,none⟩) p n c np K w:=by
 unfold F.Bu T0.Bu;refine Uu H (by decide) n0 n1 (λd w3 J=>AU rfl (aA d w3 J)) λd b w3 J=>AO rfl ?_;have Y:=d;unfold GB at Y;have hn:n<=134217728:=by
  by_cases c0:c=0
  .omega
  .have:=(Li (c:=c) (by omega) (by omega)).2;omega
 refine XZ J.tail hI hk (by omega) hn (λpage S2 hF T v p0 p1 w6 O=>AO rfl ?_) λS2 hL w6 O=>AU rfl (aB d S2 hL w6 O);refine Uu O p0 n0 n1 (λj=> ?_) λ_ b2 w9 H9=> ?_
 .unfold GB at j;omega
 .exact rhadd_spec H9 T v (by omega) rfl λid X hX aD y=>aC d page S2 id X hF hX aD y
end
section
variable{E:Env}{h:Nat}{S S':HS}{um um':iA}{g:RG}{Z:List Pr}{w:World}
def Yl.len{X:FX}(h:Yl X):X.bk.length<=X.n:=by
 have:=UR X.n (X.bk.map λa:Nat=>(a:Int)+1) (List.pairwise_map.2 (List.Pairwise.imp (λ{a b} hab e=>hab (by omega)) h.nd)) λn j=>by
  obtain⟨a,d,rfl⟩:=List.mem_map.1 j;have:=h.lt a d;omega
 grind
def Z5(H:Sat (Kf E h S um::Z) w)(d:BN S no)(hk:Jw S){id:Int}{K:Int->World->Prop}(aV:S.sp id=none-> ∀w',Sat (Kf E h S um::Z) w'->K 35 w')
  (aW: ∀x,S.sp id=some x->0<cN (um id).1 x.2.AM.toNat-> ∀w',Sat (Kf E h S um::Z) w'->K 33 w')
  (aX: ∀x,∀a:Nat,S.sp id=some x->cN (um id).1 x.2.AM.toNat=0->id=(a:Int)+1-> ∀w',Sat (Kf E h (S.free a (x.2.base/8192) x.2.AA) um::Z) w'->K 0 w'):F.CD E (some ⟨h,0,none⟩) id K w:=by
 have H0:=H;obtain⟨g,hI,H⟩:=Sat.IC.1 H;have aF:=hI.KY d;unfold F.CD T0.CD;refine SJ H hI aF (λhs=>AU rfl (aV hs w H0)) λi q hi=> ?_;have hl:=Mt (H.front 4 rfl);have bB:=(H.front 4 rfl).Gv (by decide) Bs;have aB:=(List.getElem?_eq_some_iff.1 hi).1;obtain⟨b,hb⟩:=(H.front 4 rfl).FW (by decide) Bs (i:=i) aB;refine AO (decide_eq_false (by omega)) (AF ⟨g.sl,aN H,?_⟩)
 try dsimp only
 rw[hb];have hc:w.cell? ((((Addr.mk b 0 none).add (Int.toNat (i:Int)*2))).add 1)=some (.pointer (some ⟨q,0,none⟩)):=by
  have:=(H.front 4 rfl).Bh Bs hb hi (j:=1) rfl;rw[add_add];exact this
 refine AF ⟨⟨by omega,by omega⟩,some ⟨q,0,none⟩,hc,?_⟩;have hm:id∈g.L.map (·.1):=List.mem_map.2 ⟨(id,q),List.mem_of_getElem? hi,rfl⟩;obtain⟨x,hx⟩:=Option.ne_none_iff_exists'.1 ((hI.mem id).1 hm);have aH:=d.sp id x hx;have h1:=(H.front 5 rfl).GG hi;have e:rsR E S.sp um (id,q)=Ax E q x.2 (um id).1 (um id).2:=by unfold rsR;grind
 rw[e]at h1;refine eC h1 aH.2.2.2.1 (λhu=>AU rfl (aW x hx hu w H0)) λhu w8 c0 c1 H8=>AO rfl ?_;obtain⟨a,ha,aT,aU⟩:=(d.sf id).1 (by grind);generalize hP:x.2.base/8192=P at *
 generalize hN:x.2.AA=N at *
 have J: ∀r,P<=r->r<P+N->S.T.KW r=true/\S.T.fr r=false:=λr r1 r2=>by
  have:=d.ow r (by grind)
  grind
 have aY:=hk.tv.Ja P (J P (Int.le_refl _) (by omega)).1;have bD:=hk.tv.Ja (P+N-1) (J (P+N-1) (by omega) (by omega)).1;have bC: ∀y∈g.L.eraseIdx i,y.1≠id:=λy hy e=>by
  have h2:=(DX hi).map (·.1);have h3:=h2.nodup_iff.1 hI.nd
  grind
 generalize hS1:S.free a P N=S1;have s1:S1.T=S.T.OY P N:=by rw[<-hS1];rfl
 have s2:S1.fx=⟨S.fx.n,a::S.fx.bk⟩:=by rw[<-hS1];rfl
 have s3: ∀j,S1.sp j=if j=id then none else S.sp j:=λj=>by rw[<-hS1,ha];rfl
 have s4:S1.V=S.V/\S1.ca=S.ca/\S1.hint=S.hint:=by rw[<-hS1];exact⟨rfl,rfl,rfl⟩
 have e2:Ad (rsR E S.sp um) (g.L.eraseIdx i)=Ad (rsR E S1.sp um) (g.L.eraseIdx i):=Ad.congr λy hy=>by
  refine(rsR.congr ?_ rfl).symm
  grind
 have H9:=Sat.back (Ps:=[Cells h E.Ac (DV g.m g.t g.f g.sl S.hint g.v),Gc E g.m S.V,MM E g.t S.T,KA E g.f S.fx,Row E.Ab 2 g.sl (Al JW g.L),qY]++Z) 5 (P':=Ad (rsR E S1.sp um) (g.L.eraseIdx i)) (by rw[<-e2];exact H8) (by simp);have H9:Sat (Cells h E.Ac (DV g.m g.t g.f g.sl S.hint g.v)::Gc E g.m S.V::MM E g.t S.T::KA E g.f S.fx::Row E.Ab 2 g.sl (Al JW g.L)::Ad (rsR E S1.sp um) (g.L.eraseIdx i)::Z) w8.drew:=H9.drew;refine AF ⟨some ⟨g.t,0,none⟩,u6 H9,AF ⟨_,c0,AF ⟨_,c1,?_⟩⟩⟩;refine XY (H9.front 2 rfl) hk.tv.rf aY.1 aH.2.2.1 (by omega) (λr r1 r2=>(J r r1 r2).1) (λr r1 r2=>(J r r1 r2).2) λbE aK=> ?_;have aD:=aK.front 1 rfl;refine AF ⟨some ⟨g.f,0,none⟩,rhF aD,?_⟩;rw[ha];have bA:=d.fb;have a8:=hk.fx.len;refine Zt (aD.front 3 rfl) aT aU (by omega) λbF aL=> ?_;have aM:=aL.front 1 rfl;refine HI (n:=0) (z:=2) aM rfl (by decide) λa6 bG aA=>AF ⟨g.sl,aN (aA.front 1 rfl),⟨by omega,by omega⟩,?_⟩;rw[Int.toNat_natCast];have Y: ∀(x:Int×Nat),∀v∈JW x,v.oneCell'=true:=λx v hv=>by
  simp only[JW,List.mem_cons,List.not_mem_nil,or_false]at hv;rcases hv with rfl|rfl<;>rfl
 refine Ep (x:=⟨F2 g.sl.base g.sl.cap 0 2,i,g.sl.cap⟩) (news:=Al JW (g.L.take i)) aA rfl ((aA.front 5 rfl).OL (by decide) Bs (Nat.le_of_lt aB)) (by rw[DQ Bs,List.length_take];grind) (GA Y _) (by grind) (by grind) λQ5 bH O aG=> ?_;rw[List.nil_append]at O;dsimp only at aG;rw[AE (n:=(i:Int)+1)];refine AF ⟨g.sl,aN (O.front 1 rfl),⟨by omega,by omega⟩,?_⟩;rw[show Int.toNat ((i:Int)+1)=i+1 by omega];refine Ep (x:=⟨F2 g.sl.base g.sl.cap (i+1) 2,g.sl.len-(i+1),g.sl.cap-(i+1)⟩) (news:=Al JW (g.L.drop (i+1))) O rfl ((O.front 5 rfl).OM (by decide) Bs aB) (by rw[DQ Bs,List.length_drop];grind) (GA Y _) (by grind) (by grind) λJR bI aE _=> ?_;rw[<-FN,<-List.eraseIdx_eq_take_drop_succ]at aE;refine AF (vX (s:=JR) (aE.front 1 rfl) λaI aO=> ?_);have aP:=(aO.front 5 rfl).tail;have aQ:Sat (Cells h E.Ac (DV g.m g.t g.f JR S.hint g.v)::Row E.Ab 2 JR (Al JW (g.L.eraseIdx i))::KA E g.f ⟨S.fx.n,a::S.fx.bk⟩::MM E g.t (S.T.OY P N)::Gc E g.m S.V::Ad (rsR E S1.sp um) (g.L.eraseIdx i)::Z) aI:=aP;have aR:=((((aQ.front 1 rfl).front 2 rfl).front 3 rfl).front 4 rfl).front 4 rfl;refine aX x a hx hu ha aI ?_;rw[hP,hN,hS1];refine Sat.IC.2 ⟨{g with sl:=JR,L:=g.L.eraseIdx i},⟨by rw[s4.2.1];exact hI.q,λj=> ?_,?_⟩,?_⟩
 .rw[s3];by_cases e:j=id
  .rw[if_pos e];exact⟨λc=>by obtain⟨y,hy,e2⟩:=List.mem_map.1 c;grind,λc=>absurd rfl c⟩
  .rw[if_neg e,<-hI.mem j,((DX hi).map (·.1)).mem_iff,List.map_cons,List.mem_cons]
   grind
 .have e6:((g.L.eraseIdx i).map λx=>S1.at x.1)=(g.L.eraseIdx i).map λx=>S.at x.1:=List.map_congr_left λy hy=>by
   unfold HS.at;grind
  show((g.L.eraseIdx i).map λx=>S1.at x.1).Pairwise (· < ·);rw[e6];exact List.Pairwise.sublist ((List.eraseIdx_sublist g.L i).map _) hI.so
 .unfold Ee;dsimp only;rw[s4.1,s4.2.2,s1,s2];exact aR
def eJ{l:Nat->Iv}{L:CL}{U G:Int->Bool}(d:Um l L U G)(v:LV l S.T)(hI:BN S no)(hk:Jw S):((512*L.length:Nat):Int)=cP S.T.KW:=by
 have h1: ∀q,mem S.ks q↔ ∃c∈L,c.1=q:=λq=>by
  have a1:=hI.ks (q*512);have a2:=d.l0 (q*512);rw[Int.mul_ediv_cancel q (by decide)]at a1 a2;rw[a1,<-v.i,a2]
 have hlen:=tT (key:=λc:Int×Nat=>c.1) (L:=L) d.HT hk.ok h1 (a:=0) (n:=67108864) λq y=>by
  obtain⟨c,j,rfl⟩:=(h1 q).1 y;have:=d.Xp c j;omega
 have:=(hI.counts hk).1;omega
def VQ(H:Sat (Kf E h S um::Z) w)(d:BN S no)(hk:Jw S){K:Int->Int->Int->World->Prop}(hK: ∀w',Sat (Kf E h S um::Z) w'->K (cP S.T.KW) S.AA (cP S.gone) w'):F.CZ E (some ⟨h,0,none⟩) K w:=by
 obtain⟨g,hI,H⟩:=Sat.IC.1 H;unfold F.CZ T0.CZ;have a6:=Mt (H.front 4 rfl);have a7:=hI.KY d;have bO:=d.pgs;have aF:=d.Ls hk;have aP:=Lr S.gone;have aQ:=Lr S.T.KW;generalize hci:cP S.T.KW=CI at hK aQ;generalize hcg:cP S.gone=CG at hK aP aF;refine AF ⟨some ⟨g.t,0,none⟩,u6 H,So (H.front 2 rfl) ?_⟩;have aI: ∀n,n∈g.L.map (·.1)↔S.sp n≠none:=hI.mem;refine AH (λst w'=>Sat (Ee E h S um g++Z) w'/\ ∃i:Nat,st.2.1=(i:Int)/\i<=g.L.length/\st.1=Uy S ((g.L.take i).map (·.1))) (λst _=>((g.L.length:Int)-st.2.1).toNat) ⟨H,0,rfl,Nat.zero_le _,?_⟩ ?_
 .show(0:Int)=Uy S [];unfold Uy;rw[QL];intro p;simp
 clear H;rintro⟨us,i',u⟩ _ w6 ⟨H,i,hi,bL,aA⟩;dsimp only at hi aA⊢;subst hi;refine AF ⟨g.sl,aN H,AB (λaC=>AF ⟨g.sl,aN H,?_⟩) λaT=> ?_⟩
 .obtain⟨x,hx⟩: ∃x,g.L[i]? =some x:=⟨_,List.getElem?_eq_getElem (by omega)⟩;obtain⟨b,hb⟩:=(H.front 4 rfl).FW (by decide) Bs (i:=i) (by omega);rw[hb];obtain⟨y,R',hy,h1⟩:=qL (H.front 5 rfl) hI hx;obtain⟨ul,ml,s1,s2,lk,bJ,h2⟩:=Sat.Gx.1 h1;refine AF ⟨⟨by omega,aC⟩,some ⟨x.2,0,none⟩,?_,AF ⟨_,h2.cell rfl,?_⟩⟩
  .have:=(H.front 4 rfl).Bh Bs hb hx (j:=1) rfl;rw[add_add];exact this
  have aV:x.1∉(g.L.take i).map (·.1):=λc=>by
   have h3:=hI.nd;have e:g.L=g.L.take i++x::g.L.drop (i+1):=by
    have a0:=(List.getElem?_eq_some_iff.1 hx);rw[<-a0.2,List.getElem_cons_drop,List.take_append_drop]
   rw[e,List.map_append,List.nodup_append]at h3;exact h3.2.2 x.1 c x.1 (by simp) rfl
  have O:=lC d hk hy aV;have e2:(g.L.take i).map (·.1)++[x.1]=(g.L.take (i+1)).map (·.1):=by rw[List.take_succ,hx];simp
  rw[e2]at O;have aJ: ∀l,0<=Uy S l/\Uy S l<=34359738368:=λl=>Lr _;have b1:=aJ ((g.L.take (i+1)).map (·.1));have b2:=aJ ((g.L.take i).map (·.1));have bP:=(d.sp x.1 y hy).2.2.1;have Y:=O.1;clear O;generalize hA:Uy S ((g.L.take i).map (·.1))=A at aA b2 Y;generalize hB:Uy S ((g.L.take (i+1)).map (·.1))=B at b1 Y
  try dsimp only
  rw[aA,AK (n:=A+y.2.AA),AE (n:=(i:Int)+1)];exact⟨⟨H,i+1,by omega,by omega,by rw[hB];exact Y.symm⟩,by omega⟩
 .obtain rfl:i=g.L.length:=by omega
  rw[List.take_length,qK d aI]at aA;subst aA;have bN:0<=NT S.T.rl:=by
   obtain⟨l,o,hl⟩:=hk.tv.cr;rw[YT o hl];exact MS o
  refine AH (λst w'=>Sat (Ee E h S um g++Z) w'/\ ∃i:Nat,st.2.1=(i:Int)/\i<=64/\st.1=NT S.T.rl+Go.Sh.Ls S.ca i) (λst _=>(64-st.2.1).toNat) ⟨H,0,rfl,by decide,by show NT S.T.rl=NT S.T.rl+0;omega⟩ ?_;clear H;rintro⟨gn,p',u⟩ _ a1 ⟨H,p,hp,bB,aB⟩;dsimp only at hp aB⊢;subst hp;have aX:=OO S.ca p (64-p);rw[show p+(64-p)=64 by omega]at aX;refine AB (λaC=> ?_) λaT=> ?_
  .have aY:=OO S.ca (p+1) (64-(p+1));rw[show p+1+(64-(p+1))=64 by omega]at aY;have aZ:Go.Sh.Ls S.ca (p+1)=Go.Sh.Ls S.ca p+cN (S.ca p).rel 64:=rfl;have aW:=OO S.ca 0 p;rw[Nat.zero_add]at aW;have bD:Go.Sh.Ls S.ca 0=0:=rfl;have hq:=hI.q p (by omega);refine AH (λst w'=>Sat (Ee E h S um g++Z) w'/\ ∃k:Nat,st.2.1=(k:Int)/\k<=64/\st.1=NT S.T.rl+Go.Sh.Ls S.ca p+cN (S.ca p).rel k) (λst _=>(64-st.2.1).toNat) ⟨H,0,rfl,by decide,by rw[aB];show _=_+((0:Nat):Int);omega⟩ ?_;clear H;rintro⟨aR,k',u⟩ _ a2 ⟨H,k,aL,a9,J⟩;dsimp only at aL J⊢;subst aL;refine AB (λaM=> ?_) λbM=> ?_
   .have Hq:Sat (Cells h E.Ac (qW (lT g.m g.t g.v p) (uZ g.f g.sl S.hint g.v p) (g.v p).1 (g.v p).2.1 (g.v p).2.2)::(Gc E g.m S.V::MM E g.t S.T::KA E g.f S.fx::Row E.Ab 2 g.sl (Al JW g.L)::Ad (rsR E S.sp um) g.L::Z)) a2:=by
     rw[<-XW g.m g.t g.f g.sl S.hint g.v (by omega:p<64)];exact H
    have ha:((Addr.mk h 0 none).add 2).add (Int.toNat (p:Int)*129)=Addr.mk h (lT g.m g.t g.v p).length none:=by
     rw[add_add,add_eq,Nat.zero_add,hZ _ _ _ (by omega),Int.toNat_natCast]
    have c1:=pX Hq (i:=(k:Int)) (by omega) (by omega);have c2:=pY Hq (i:=(k:Int)) (by omega) (by omega);rw[<-ha]at c1 c2;have aE:=hq.rl k (by omega);have aD:=hq.hs k (by omega);have O:cN (S.ca p).rel (k+1)=cN (S.ca p).rel k+((S.ca p).rel k).toNat:=rfl;have hle:cN (S.ca p).rel (k+1)<=k+1:=Oh _ _;have bA:cN (S.ca p).rel k<=k:=Oh _ _;refine I3 (λst w'=>st.1=(S.ca p).rel k/\Sat (Ee E h S um g++Z) w') ?_ ?_
    .refine AF ⟨⟨by omega,aC⟩,⟨by omega,aM⟩,_,c1,AQ (λe=>AF ⟨⟨by omega,aC⟩,⟨by omega,aM⟩,_,c2,?_,H⟩) λe=>⟨?_,H⟩⟩
     .show(g.v p).2.2 k=_;rw[aE,<-aD,e];rfl
     .show false=_;rw[aE,<-aD,e];rfl
    rintro⟨b,u⟩ _ bQ ⟨hb,aH⟩;dsimp only at hb⊢;rw[AE (n:=(k:Int)+1)];refine AQ (λe=>⟨⟨aH,k+1,by omega,by omega,?_⟩,by omega⟩) λe=>⟨⟨aH,k+1,by omega,by omega,?_⟩,by omega⟩
    .rw[hb]at e;rw[AK (n:=aR+1),O,e,J];show _=_+((_+1:Nat):Int);omega
    .rw[hb]at e;rw[O,e,J];show _=_+((_+0:Nat):Int);omega
   .obtain rfl:k=64:=by omega
    rw[AE (n:=(p:Int)+1)];exact⟨⟨H,p+1,by omega,by omega,by rw[J,aZ];omega⟩,by omega⟩
  .obtain rfl:p=64:=by omega
   rw[aF]at aB;subst aB;obtain⟨l,⟨hl,A2⟩,Ht⟩:=Sat.kV.1 (H.front 2 rfl);obtain⟨s,L,U,G,hR,Hr⟩:=Sat.J0.1 Ht;have hlen:=LL Hr;have aK:=eJ hR hl d hk;rw[hci]at aK;refine AF ⟨some ⟨g.t,0,none⟩,u6 H,AF ⟨s,Ey Hr,AY λt ht=> ?_⟩⟩;rw[hlen,AE (n:=512*((L.length:Nat):Int)),AK (n:=512*((L.length:Nat):Int)),show 512*((L.length:Nat):Int)=((512*L.length:Nat):Int) by omega,aK]at ht;rw[ht];exact hK a1 (Sat.IC.2 ⟨g,hI,H⟩)
def lF:(List.range 64).flatMap (qc λ_=>(0,(λ_=>false),λ_=>false))=Qz:=by
 unfold Qz;refine Ms λi _=> ?_;unfold qc IQ;rw[<-Sn];rfl
def eK{m:Nat}{V:VS}(H:Sat (Gc E m V::Z) w){K:Option Addr->World->Prop}(hK: ∀b w',Sat (Kf E b (HS.new V) um::Z) w'->K (some ⟨b,0,none⟩) w'):F.Eg E (some ⟨m,0,none⟩) K w:=by
 unfold F.Eg T0.Eg;refine eB H λf w3 v=>AR (vs:=[.slice none 0 0]) v λd w5 y _=> ?_;have J:Sat (MM E d TV.nil::KA E f ⟨0,[]⟩::Gc E m V::Z) w5:=PR (l:=λ_=>[]) ⟨λp=>⟨λc=>absurd c (Bt p),λc=>by cases c⟩,λp=>⟨λc=>absurd c (Bt p),λc=>by cases c⟩,λp=>⟨λc=>absurd c (Bt p),λc=>by cases c⟩⟩ (λ_ _=>trivial) λl' a0 a1 a2=>(Sat.pU (l:=λ_=>[]) y λ_=>rfl).yX a0 a1 a2;rw[<-lF];refine AR (vs:=DV m d f ⟨none,0,0⟩ 0 λ_=>(0,(λ_=>false),λ_=>false)) J λb j O _=>hK b j (Sat.IC.2 ⟨⟨m,d,f,⟨none,0,0⟩,λ_=>(0,(λ_=>false),λ_=>false),[]⟩,⟨λi hi=>⟨Int.le_refl _,by grind,λc=>absurd (λ_=>rfl) c,λ_ _=>rfl,λ_ _=>rfl,λ_ _=>rfl⟩,λid=>⟨λc=>(by cases c),λc=>absurd rfl c⟩,List.Pairwise.nil⟩,?_⟩);have T:=((Sat.LY (O.nil E.Ab 2) (rsR E (HS.new V).sp um)));have Y:Sat (Ad (rsR E (HS.new V).sp um) []::Row E.Ab 2 ⟨none,0,0⟩ []::Cells b E.Ac (DV m d f ⟨none,0,0⟩ 0 λ_=>(0,(λ_=>false),λ_=>false))::MM E d TV.nil::KA E f ⟨0,[]⟩::Gc E m V::Z) j:=T;exact((((Y.front 1 rfl).front 4 rfl).front 4 rfl).front 5 rfl).front 5 rfl
end
section
variable{E:Env}{h r:Nat}{S S':HS}{um um':iA}{g:RG}{Z:List Pr}{w:World}
def WG(H:Sat (Ee E h S um g++Z) w)(hI:aM S g){i q:Nat}{id:Int}{x:Nat×SI}(d:g.L[i]? =some (id,q))(hx:S.sp id=some x):
  ∃R,Sat (Ax E q x.2 (um id).1 (um id).2::(R++Z)) w/\ ∀{Y:List Pr} {U M:Nat->Bool} {w'},Sat (Ax E q x.2 U M::(R++Y)) w'->Sat (Kf E h S (KB um id U M)::Y) w':=by
 have h1:=(H.front 5 rfl).GG d;have e:rsR E S.sp um (id,q)=Ax E q x.2 (um id).1 (um id).2:=by unfold rsR;grind
 rw[e]at h1;refine⟨Ad (rsR E S.sp um) (g.L.eraseIdx i)::(Ee E h S um g).eraseIdx 5,h1,λ{Y U M w'} H'=> ?_⟩;have v:Ax E q x.2 U M=rsR E S.sp (KB um id U M) (id,q):=by unfold rsR KB;grind
 have K: ∀y∈g.L.eraseIdx i,y.1≠id:=λy O e=>by
  have T:=((DX d).map (·.1)).nodup_iff.1 hI.nd
  grind
 have J:Ad (rsR E S.sp um) (g.L.eraseIdx i)=Ad (rsR E S.sp (KB um id U M)) (g.L.eraseIdx i):=Ad.congr λy O=>by
  unfold rsR KB;grind
 rw[v,J]at H';have j:=Sat.HW (F:=(Ee E h S um g).eraseIdx 5++Y) H' d;exact Sat.IC.2 ⟨g,⟨hI.q,hI.mem,hI.so⟩,Sat.back (Ps:=Ee E h S (KB um id U M) g++Y) 5 j (by simp[Ee])⟩
end
def el(l:List Int)(i:Int):Int:=if i<0 then 0 else l.getD i.toNat 0
def sw(l:List Int)(i j:Int):List Int:=(l.set j.toNat (el l i)).set i.toNat (el l j)
def SO(E:Env)(s:Aa)(Z:List Pr)(l0 l:List Int)(w:World):Prop:=l.Perm l0/\Sat (Row E.Bx 1 s (ints .i64 l)::Z) w
def y8(E:Env)(cmp:Value)(s:Aa)(Z:List Pr)(key:Int->Int)(l0:List Int):Prop:= ∀x y l w (R:Value->World->Prop),x∈l0->y∈l0->SO E s Z l0 l w->(∀r w',(r<0↔key x<key y)->SO E s Z l0 l w'->R (.int .i64 r) w')->DYN E.call cmp #[.int .i64 x,.int .i64 y] w R
section
variable{E:Env}{cmp:Value}{s:Aa}{Z:List Pr}{key:Int->Int}{l0 l:List Int}{w:World}
variable(hC:y8 E cmp s Z key l0)(hsm:s.len<1099511627776)
include hC hsm
end
section
variable{E:Env}{cmp:Value}{s:Aa}{Z:List Pr}{key:Int->Int}{l0 l:List Int}{w:World}
variable(hC:y8 E cmp s Z key l0)(hsm:s.len<1099511627776)
include hC hsm
end
section
variable{E:Env}{cmp:Value}{s:Aa}{Z:List Pr}{key:Int->Int}{l0 l:List Int}{w:World}
section
variable(hC:y8 E cmp s Z key l0)(hsm:s.len<1099511627776)
include hC hsm
end
end
section
variable{E:Env}{w:World}{Z:List Pr}{h:Nat}{S:HS}(hE:dC E)
include hE
end
section
variable{E:Env}{w:World}(hE:dC E)
include hE
end
section
variable{E:Env}{h r:Nat}{S S':HS}{um um':iA}{g:RG}{Z:List Pr}{w:World}
def eL{id:Int}:KB um id (um id).1 (um id).2=um:=by
 funext j;unfold KB;by_cases c:j=id
 .rw[if_pos c,c]
 .rw[if_neg c]
def Sat.vY{id:Int}{x:Nat×SI}{I:SI}{um:iA}(H:Sat (Kf E r S um::Z) w)(d:S.sp id=some x)(he:I.rs=x.2.rs):Sat (Kf E r (S.put id (x.1,I)) um::Z) w:=by
 refine H.qN rfl rfl rfl rfl rfl (λj=> ?_) λ_ _=>rfl;show Option.map _ (if j=id then some (x.1,I)else S.sp j)=_
 grind
variable(hE:dC E)
include hE
end
def Ef(h s r:Nat)(em:Aa)(W:SW):List Value:=[.pointer (some ⟨h,0,none⟩),.pointer (some ⟨s,0,none⟩),.pointer (some ⟨r,0,none⟩),Fo em,.int .u64 W.Ny,.int .u64 W.Bq,.int .u64 W.En,.int .u64 W.M8]
def SM(U M:Az):iA:=λid=>(U id,M id)
def Gy(E:Env)(b h s r:Nat)(W:SW)(em:Aa):List Pr:=[HA E s W.L,Cells b E.Ak (Ef h s r em W),E5 E r W.R,Row E.AI 3 em (Al HU W.em)]
def Ds(E:Env)(b h s r:Nat)(W:SW)(U M:Az):Pr:=Ex λem:Aa=>NB (Kf E h W.S (SM U M)::Gy E b h s r W em)
section
variable{E:Env}{b h s r:Nat}{W:SW}{U M:Az}{Z:List Pr}{w:World}
def Sat.N7:Sat (Ds E b h s r W U M::Z) w↔ ∃em,Sat (Kf E h W.S (SM U M)::(Gy E b h s r W em++Z)) w:=by
 unfold Ds;rw[Sat.ex];constructor
 .rintro⟨em,h⟩;rw[Sat.star]at h
  grind
 .rintro⟨em,h⟩;refine⟨em,?_⟩;rw[Sat.star];exact h
def Sat.mid2{P Q:Pr}{R Y:List Pr}:Sat (P::(R++Q::Y)) w↔Sat (Q::P::(R++Y)) w:=
 ⟨λh=>h.perm (((List.perm_middle (l₁:=R)).cons _).trans (List.Perm.swap _ _ _)),λh=>h.perm ((List.Perm.swap _ _ _).trans ((List.perm_middle (l₁:=R)).symm.cons _))⟩
def iC{id:Int}{u m:Nat->Bool}:KB (SM U M) id u m=SM (U.set id u) (M.set id m):=by
 funext j;unfold KB SM Az.set
 grind
def Mx(H:Sat (Ds E b h s r W U M::Z) w)(hI:Ck W U M){id:Int}{sw:Bool}(Fz:Nat)(hf:W.L.length<1099511627776){K:Int->World->Prop}
  (aB:W.S.sp id=none-> ∀w',Sat (Ds E b h s r W U M::Z) w'->K 35 w')(aC:W.S.sp id≠none->(∃x∈W.L,x.id=id)-> ∀w',Sat (Ds E b h s r W U M::Z) w'->K 34 w')
  (aD: ∀x,W.S.sp id=some x->(∀y∈W.L,y.id≠id)-> ∀w',Sat (Ds E b h s r {W with L:=IM W.L ⟨Fz,id,x.2.base,(x.2.cls,x.2.FY,x.2.used==x.2.AM,sw)⟩} U M::Z) w'->K 0 w'):
  F.A4 E (some ⟨b,0,none⟩) id sw K w:=by
 unfold F.A4 T0.A4;obtain⟨em,H1⟩:=Sat.N7.1 H;obtain⟨g,J,H2⟩:=Sat.IC.1 H1;refine AF ⟨some ⟨h,0,none⟩,(H1.front 2 rfl).Ah rfl,SK H2 J (J.KY hI.hI) (λhs=>AU rfl (aB hs w H)) λi q hi=>AO rfl (AF ?_)⟩;obtain⟨x,v⟩: ∃x,W.S.sp id=some x:=Option.ne_none_iff_exists'.1 ((J.mem id).1 (List.mem_map.2 ⟨(id,q),List.mem_of_getElem? hi,rfl⟩));obtain⟨A2,hg⟩:=hI.sp id x v;obtain⟨R,H3,b3⟩:=WG H2 J hi v;have rd:=λ{w':World} {Y:List Pr} {u m:Nat->Bool} (h':Sat (Ax E q x.2 u m::Y) w')=>show w'.cell? (Addr.mk q 0 none)=some (.int .u64 (x.2.base/8192))/\w'.cell? ((Addr.mk q 0 none).add 2)=some (.int .i64 x.2.state)/\w'.cell? ((Addr.mk q 0 none).add 3)=some (.int .i64 x.2.cls)/\w'.cell? ((Addr.mk q 0 none).add 4)=some (.bool x.2.FY)/\w'.cell? ((Addr.mk q 0 none).add 6)=some (.int .i64 x.2.AM) by
  obtain⟨ul,ml,s1,s2,lk,_,h2⟩:=Sat.Gx.1 h';exact⟨h2.Ah rfl,h2.cell rfl,h2.cell rfl,h2.cell rfl,h2.cell rfl⟩
 have aT:=A2.st;have aP:=A2.ba;have aS:=A2.pg.1;have T:=H3.drew;have c:=rd T;have j:=(H1.front 2 rfl).drew;refine⟨_,(rd H3).2.1,AO (by grind) (AF ⟨some ⟨s,0,none⟩,j.cell rfl,AF ⟨_,c.1,AF ⟨_,c.2.2.1,AF ⟨_,c.2.2.2.1,AF ⟨_,c.2.2.2.2,Ie T ⟨c.2.2.2.2,c.2.2.2.1,c.2.2.1,c.1,j.cell rfl,?_⟩⟩⟩⟩⟩⟩)⟩;have hc:=hg.cnt;rw[AK (n:=x.2.base/8192*8192),show x.2.base/8192*8192=x.2.base by omega,show((cN (SM U M id).1 x.2.AM.toNat:Nat):Int)=x.2.used from hc.symm];have H6:=Sat.mid2.1 T;have aL:=(hI.hI.sp id x v).1;have aJ:=A2.cls;have fin: ∀{L':List DG} {w':World},Sat (HA E s L'::Ax E q x.2 (SM U M id).1 (SM U M id).2::(R++(Cells b E.Ak (Ef h s r em W)::E5 E r W.R::Row E.AI 3 em (Al HU W.em)::Z))) w'->Sat (Ds E b h s r {W with L:=L'} U M::Z) w':=λ{L' w'} h'=>by
  have h2:=b3 (Y:=HA E s L'::Cells b E.Ak (Ef h s r em W)::E5 E r W.R::Row E.AI 3 em (Al HU W.em)::Z) (Sat.mid2.2 h');rw[eL]at h2;exact Sat.N7.2 ⟨em,h2⟩
 refine dU H6 ⟨Fz,id,x.2.base,(x.2.cls,x.2.FY,x.2.used==x.2.AM,sw)⟩ hf (λhb=> ?_) (λ_ hex w' d=> ?_) λ_ aE w' d=> ?_
 .unfold M7 at hb;grind
 .have c:=rd (d.front 1 rfl);refine⟨c.2.2.2.2,c.2.2.2.1,c.2.2.1,c.1,aC (by grind) ?_ w' (fin d)⟩;obtain⟨y,O,e⟩:=hex;refine⟨y,O,?_⟩;rcases e with e|e
  .exact e
  .obtain⟨z,aF,aG⟩:=hI.it y O;exact ZW hI.hI aF v (by rw[aG,e])
 .have c:=rd (d.front 1 rfl);exact⟨c.2.2.2.2,c.2.2.2.1,c.2.2.1,c.1,aD x v (λy O=>(aE y O).1) w' (fin d)⟩
def N8(H:Sat (Ds E b h s r W U M::Z) w)(J:Kt W.L){K:Int->Bool->World->Prop}(j:(∀x∈W.L,x.FZ=true)-> ∀w',Sat (Ds E b h s r W U M::Z) w'->K 0 false w')
  (v: ∀x,Lv W.L x-> ∀w',Sat (Ds E b h s r {W with L:=GZ W.L x.id} U M::Z) w'->K x.id true w'):F.A8 E (some ⟨b,0,none⟩) K w:=by
 unfold F.A8 T0.A8;obtain⟨em,H1⟩:=Sat.N7.1 H;have y:=λ{w':World} {L':List DG} (h':Sat (HA E s L'::Kf E h W.S (SM U M)::Cells b E.Ak (Ef h s r em W)::E5 E r W.R::Row E.AI 3 em (Al HU W.em)::Z) w')=>show Sat (Ds E b h s r {W with L:=L'} U M::Z) w' from Sat.N7.2 ⟨em,h'.front 1 rfl⟩
 refine AF ⟨some ⟨s,0,none⟩,(H1.front 2 rfl).cell rfl,XL (H1.front 1 rfl) J (λhs T d=>AO rfl (j hs T (y d))) λx O T d=>AU rfl (AF ⟨some ⟨s,0,none⟩,(d.front 2 rfl).cell rfl,?_⟩)⟩;exact dW d J (λhn=>absurd rfl (hn x O.1)) λ_ _ _ w9 Y=>v x O w9 (y Y)
end
section
variable{E:Env}{q:Nat}{S:SI}{U M:Nat->Bool}{Z:List Pr}{w:World}
def SN(H:Sat (Ax E q S U M::Z) w){n:Nat}{K:Bool->World->Prop}(d:K (U n) w):F.BJ E (some ⟨q,0,none⟩) n K w:=by
 obtain⟨ul,ml,s1,s2,j,hI,H⟩:=Sat.Gx.1 H;rw[hI.u]at d;unfold F.BJ T0.BJ;exact AF ⟨s1,H.cell rfl,N5 (H.front 1 rfl) d⟩
def Oy(H:Sat (Ax E q S U M::Z) w){n:Nat}{K:Bool->World->Prop}(d:K (M n) w):F.BI E (some ⟨q,0,none⟩) n K w:=by
 obtain⟨ul,ml,s1,s2,j,hI,H⟩:=Sat.Gx.1 H;rw[hI.m]at d;unfold F.BI T0.BI;exact AF ⟨s2,H.cell rfl,N5 (H.front 2 rfl) d⟩
def N9(H:Sat (Ax E q S U M::Z) w)(J:S.state=1){n:Nat}(hn:(n:Int)<S.AM){K:Int->World->Prop}(Y: ∀w',Sat (Ax E q S U (λi=>M i||i==n)::Z) w'->K 0 w'):F.A7 E (some ⟨q,0,none⟩) n K w:=by
 obtain⟨ul,ml,s1,s2,lk,hI,H⟩:=Sat.Gx.1 H;have T:=hI.Ja;unfold F.A7 T0.A7;refine AF ⟨S.state,H.cell rfl,AO (by rw[J];rfl) (AV (AO (by simp) (AF ⟨S.AM,H.cell rfl,λj=>AO (decide_eq_false (by omega)) (AF ⟨s2,H.cell rfl,?_⟩)⟩)))⟩;refine Qh (H.front 2 rfl) (by omega) λs' l' aB y hlen d=>AF ?_;refine AZ (d.front 1 rfl) (o:=0) (m:=8) rfl (by simp[Gb]) λO v=>Y O (Sat.Gx.2 ⟨ul,l',s1,s',lk,⟨hI.u,λi=> ?_,hI.lu,?_,hI.Ja,hI.lk0,hI.lk1⟩,(v.DR 1 rfl)⟩)
 .rw[y i,hI.m];by_cases e:i=n
  .rw[if_pos e,e];simp
  .rw[if_neg e];simp[e]
 .have:=hI.lm;omega
def qP(H:Sat (Ax E q S U M::Z) w)(T:0<=S.base/\S.base %8192=0){n:Nat}(Y:(n:Int)<S.AM)(he:0<=S.elem/\S.elem<9223372036854775808)(hr:S.base+n*S.elem<18446744073709551616){K:Int->Int->World->Prop}
  (O:K (S.base+n*S.elem) 0 w.drew):F.CC E (some ⟨q,0,none⟩) n K w:=by
 have J:=H.drew;obtain⟨ul,ml,s1,s2,lk,hI,H1⟩:=Sat.Gx.1 H;obtain⟨_,_,_,_,_,_,v⟩:=Sat.Gx.1 J;have y:=hI.Ja;have d:0<=(n:Int)*S.elem:=Int.mul_nonneg (by omega) he.1;unfold F.CC;refine AV (AO (by simp) (AF ⟨S.AM,H1.cell rfl,λj=>AO (decide_eq_false (by omega)) (AF ⟨S.base/8192,v.Ah rfl,AF ⟨S.elem,v.cell rfl,?_⟩⟩)⟩));have e:u64 (u64 (S.base/8192*8192)+u64 (u64 (n:Int)*u64 S.elem))=S.base+n*S.elem:=by
  rw[AK (n:=S.base/8192*8192),AK (n:=(n:Int)),AK (n:=S.elem),AK (n:=(n:Int)*S.elem) d (by omega),AK];omega
 unfold Hk
 try dsimp only
 rw[e];exact O
def SQ(H:Sat (Ax E q S U M::Z) w)(j:0<=S.base/\S.base %8192=0){n:Nat}(v:(n:Int)<S.AM)(he:0<=S.elem/\S.elem<9223372036854775808)(y:S.base+n*S.elem<18446744073709551616){K:Int->Int->World->Prop}
  (d: ∀w',Sat (Ax E q S U M::Z) w'->K (S.base+n*S.elem) 0 w'):F.CC E (some ⟨q,0,none⟩) n K w:=qP H j v he y (d _ H.drew)
def Xa(H:Sat (Ax E q S U M::Z) w)(he:0<S.elem)(aA:S.elem<=2199023255552)(hs:0<=S.AM/\S.AM<=1048576)(hb:0<=S.base/\S.base<=281474976710656/\S.base %8192=0){a:Int}(ha:0<=a/\a<18446744073709551616){K:Int->Int->World->Prop}
  (d: ¬(S.base<=a/\a<S.base+S.AM*S.elem)-> ∀w',Sat (Ax E q S U M::Z) w'->K 0 10 w')(O:S.base<=a->a<S.base+S.AM*S.elem-> ∀w',Sat (Ax E q S U M::Z) w'->K ((a-S.base)/S.elem) 0 w'):
  F.Fk E (some ⟨q,0,none⟩) a K w:=by
 have v:=H.drew;obtain⟨ul,ml,s1,s2,lk,hI,H1⟩:=Sat.Gx.1 H;obtain⟨_,_,_,_,_,_,y⟩:=Sat.Gx.1 v;unfold F.Fk;have Y:u64 (S.base/8192*8192)=S.base:=by rw[AK];omega
 have J:u64 S.elem=S.elem:=AK;have es:u64 S.AM=S.AM:=AK;refine AF ⟨S.base/8192,H1.Ah rfl,AV ?_⟩;rw[Y];refine AB (λg j=>AU rfl (d (by omega) _ v)) λg=>AF ⟨S.elem,y.cell rfl,by rw[J];omega,AF ⟨S.AM,y.cell rfl,λj=> ?_⟩⟩;have T:u64 (Int.tdiv (u64 (a-S.base)) (u64 S.elem))=(a-S.base)/S.elem:=by
  rw[J,AK (n:=a-S.base),Int.tdiv_eq_ediv_of_nonneg (by omega)];have h1:(a-S.base)/S.elem<=a-S.base:=Int.ediv_le_self _ (by omega);have h2:0<=(a-S.base)/S.elem:=Int.ediv_nonneg (by omega) (by omega);exact AK
 rw[T,es];refine AB (λh=>d (λc=> ?_) _ v) λh=>AF ⟨S.elem,y.cell rfl,by rw[J];omega,?_⟩
 .have:(a-S.base)/S.elem<S.AM:=Int.ediv_lt_of_lt_mul he (by omega);omega
 .have h2:0<=(a-S.base)/S.elem:=Int.ediv_nonneg (by omega) (by omega);unfold Hk;rw[T,AE (n:=(a-S.base)/S.elem)];refine O (by omega) ?_ _ v;have:=(Int.ediv_lt_iff_lt_mul he).1 (show(a-S.base)/S.elem<S.AM by omega);omega
end
section
variable{E:Env}{b h s r:Nat}{W:SW}{U M:Az}{Z:List Pr}{w:World}
def PT(H:Sat (Kf E h W.S (SM U M)::Z) w)(hI:BN W.S no){id:Int}{K:Option Addr->World->Prop}(j:W.S.sp id=none->K none w)
  (v: ∀(x:Nat×SI) (q:Nat) (R:List Pr),W.S.sp id=some x->Sat (Ax E q x.2 (U id) (M id)::(R++Z)) w->(∀{Y:List Pr} {u m:Nat->Bool} {w'},Sat (Ax E q x.2 u m::(R++Y)) w'->Sat (Kf E h W.S (SM (U.set id u) (M.set id m))::Y) w')->K (some ⟨q,0,none⟩) w):
  F.An E (some ⟨h,0,none⟩) id K w:=by
 obtain⟨g,d,y⟩:=Sat.IC.1 H;refine SK y d (d.KY hI) j λi q J=> ?_;obtain⟨x,O⟩: ∃x,W.S.sp id=some x:=Option.ne_none_iff_exists'.1 ((d.mem id).1 (List.mem_map.2 ⟨(id,q),List.mem_of_getElem? J,rfl⟩));obtain⟨R,T,b3⟩:=WG y d J O;refine v x q R O T λ{Y u m w'} h'=> ?_;have:=b3 h';rwa[iC]at this
def Az.lG{S:HS}{as_:List Int}{i:Nat}{a:Int}(d:as_[i]? =some a)(v:mkOf S a=none):M.mark S (as_.take (i+1))=M.mark S (as_.take i):=by
 funext j k;unfold Az.mark;rw[E8 d,List.any_append];simp[v]
def Az.qQ{S:HS}{as_:List Int}{i n:Nat}{a id:Int}(d:as_[i]? =some a)(hm:mkOf S a=some (id,n)):M.mark S (as_.take (i+1))=(M.mark S (as_.take i)).set id λk=>M.mark S (as_.take i) id k||k==n:=by
 funext j k;have e:M.mark S (as_.take (i+1)) j k=(M.mark S (as_.take i) j k||decide (mkOf S a=some (j,k))):=by
  unfold Az.mark;rw[E8 d,List.any_append,<-Bool.or_assoc];simp only[List.any_cons,List.any_nil,Bool.or_false]
 rw[e,hm];unfold Az.set;by_cases c:j=id
 .subst c;rw[if_pos rfl];congr 1;rw[Bool.eq_iff_iff,decide_eq_true_eq,beq_iff_eq,Option.some.injEq,Prod.mk.injEq];exact⟨λh=>h.2.symm,λh=>⟨rfl,h.symm⟩⟩
 .rw[if_neg c,decide_eq_false (λh=>c (by cases h;rfl)),Bool.or_false]
def SR(H:Sat (Ds E b h s r W U M::Z) w)(hI:Ck W U M)(hk:Jw W.S)(hL:Kt W.L){a1:Aa}{as_:List Int}(hA: ∀w',Sat Z w'->rowAt w' a1.base a1.len (ints .u64 as_))(hl:as_.length=a1.len)(a7:a1.len<=1099511627776)(has: ∀a∈as_,0<=a/\a<18446744073709551616)
  {K:Int->World->Prop}(aP:0<Km W.L false->K 33 w)(aO:(∀x∈W.L,x.FZ=true)-> ∀w',Sat (Ds E b h s r {W with L:=Gh W.L} U (M.mark W.S as_)::Z) w'->K 0 w'):
  F.BX E (some ⟨b,0,none⟩) a1 K w:=by
 unfold F.BX T0.BX;obtain⟨em,H1⟩:=Sat.N7.1 H;refine AF ⟨some ⟨s,0,none⟩,(H1.front 2 rfl).cell rfl,PO (H1.front 1 rfl) hL.KY (AB (λg=>aP (by omega)) λg=> ?_)⟩;have e0:M.mark W.S (as_.take 0)=M:=by funext i k;simp[Az.mark]
 refine AH (λst w'=> ∃i:Nat,st.1=(i:Int)/\i<=as_.length/\Sat (Kf E h W.S (SM U (M.mark W.S (as_.take i)))::(Gy E b h s r W em++Z)) w') (λst _=>((as_.length:Int)-st.1).toNat) ⟨0,rfl,Nat.zero_le _,by rw[e0];exact H1⟩ ?_;rintro⟨i',u⟩ _ w6 ⟨i,hi,a6,H6⟩;dsimp only at hi⊢;subst hi;have Hz: ∀{P:Pr} {w':World},Sat (P::(Gy E b h s r W em++Z)) w'->Sat Z w':=λv=>v.tail.tail.tail.tail.tail;have Hp: ∀{P:Pr} {w':World},Sat (P::(Gy E b h s r W em++Z)) w'->w'.cell? (Addr.mk b 0 none)=some (.pointer (some ⟨h,0,none⟩)):=λv=>(v.front 2 rfl).Ah rfl;refine AB (λa8=> ?_) λa5=> ?_
 .obtain⟨a,T⟩: ∃a,as_[i]? =some a:=⟨_,List.getElem?_eq_getElem (by omega)⟩;have y:=has a (List.mem_of_getElem? T);have ra: ∀{w'},Sat Z w'-> ∃q,a1.base=some q/\w'.cell? (q.add (Int.toNat (i:Int)*1))=some (.int .u64 a):=λ{w'} v=>by
   have hr:=hA w' v;cases hb1:a1.base with
   | none=>rw[hb1]at hr;have:ints .u64 as_=[]:=hr;simp[ints]at this;subst this;simp at T
   | some q=>rw[hb1]at hr;exact⟨q,rfl,by rw[Int.toNat_natCast,Nat.mul_one];exact hr.2 i _ (IF T)⟩
  have Hd:=H6.drew;obtain⟨q,hq,aR⟩:=ra (Hz Hd);rw[hq];rw[AE (n:=(i:Int)+1)];have skip:mkOf W.S a=none-> ∀w',Sat (Kf E h W.S (SM U (M.mark W.S (as_.take i)))::(Gy E b h s r W em++Z)) w'->(∃j:Nat,(i:Int)+1=(j:Int)/\j<=as_.length/\Sat (Kf E h W.S (SM U (M.mark W.S (as_.take j)))::(Gy E b h s r W em++Z)) w')/\((as_.length:Int)-((i:Int)+1)).toNat<((as_.length:Int)-(i:Int)).toNat:=
   λJ w' v=>⟨⟨i+1,by omega,by omega,by rw[Az.lG T J];exact v⟩,by omega⟩
  refine AF ⟨some ⟨h,0,none⟩,Hp Hd,AF ⟨some ⟨h,0,none⟩,Hp Hd,AF ⟨⟨by omega,by omega⟩,a,aR,lD Hd hI.hI hk y.1 y.2 λaU d=>⟨Hp d,?_⟩⟩⟩⟩;refine PT d hI.hI (λJ=>AU rfl (skip ?_ aU d)) λx p R hx aJ O=>AO rfl (AF ?_)
  .unfold mkOf;rw[J]
  .obtain⟨q',aB,aD⟩:=ra (Hz d);rw[hq]at aB;cases aB;obtain⟨A2,hg⟩:=hI.sp _ x hx;have aE:=A2.size;have a4:=A2.ba;have a9:=A2.pg;refine⟨⟨by omega,by omega⟩,a,aD,Xa aJ aE.1 (by omega) (by omega) (by omega) y (λY w' H'=>AO rfl (skip ?_ w' ?_)) λh1 h2 w' H'=>AU rfl ?_⟩
   .unfold mkOf;rw[hx];simp only;rw[if_neg Y]
   .have:=O H';rwa[Az.Kb,Az.Kb]at this
   .have aQ:0<=(a-x.2.base)/x.2.elem:=Int.ediv_nonneg (by omega) (by omega);have aC:(a-x.2.base)/x.2.elem<x.2.AM:=Int.ediv_lt_of_lt_mul aE.1 (by omega);obtain⟨n,J⟩:=Int.eq_ofNat_of_zero_le aQ;rw[J]at aC⊢;refine N9 H' A2.st aC λbA aK=>⟨⟨i+1,by omega,by omega,?_⟩,by omega⟩;have:=O aK;rw[Az.Kb]at this;rw[Az.qQ T (id:=W.S.own (a/8192)) (n:=n)]
    .exact this
    .unfold mkOf;rw[hx];simp only;rw[if_pos ⟨h1,h2⟩,J,Int.toNat_natCast]
 .have aN:i=as_.length:=by omega
  rw[aN,List.take_length]at H6;refine AF ⟨some ⟨s,0,none⟩,(H6.front 2 rfl).cell rfl,Zi (H6.front 1 rfl) hL.KY (λaA=>absurd aA (by omega)) λaS aV aL=>aO aS aV (Sat.N7.2 ⟨em,aL.front 1 rfl⟩)⟩
end
section
variable{E:Env}{b h s r:Nat}{W:SW}{U M:Az}{Z:List Pr}{w:World}
def Kv(E:Env)(b h s r:Nat)(W:SW)(em:Aa)(R e:List Rc)(Z:List Pr):List Pr:=HA E s W.L::Cells b E.Ak (Ef h s r em W)::E5 E r R::Row E.AI 3 em (Al HU e)::Z
def iD{α:Type}(X S C P T:α)(R Z:List α):(X::(R++S::C::P::T::Z)).Perm (P::T::C::X::(R++S::Z)):=by
 classical
 exact List.perm_iff_count.2 λa=>by grind
def eM{q:Nat}{x:Nat×SI}{R:List Pr}{em:Aa}(A2:Sk x.2){u m:Nat->Bool}(bX:W.em.length+W.R.length<=1099511627776)(H:Sat (Ax E q x.2 u m::(R++Kv E b h s r W em W.R W.em Z)) w){K:World->Prop}{J:Int×Unit->(Int×Unit->World->Prop)->World->Prop}
  (aI: ∀(k:Nat) (next:Int×Unit->World->Prop) w',J ((k:Int),()) next w'=(
       F.BJ E (some ⟨q,0,none⟩) k (λbP a0=>
       CND (!bP) (
        next (i64 ((k:Int)+1),()) a0
       ) (
        F.BI E (some ⟨q,0,none⟩) k (λbQ a1=>
        CND (bQ) (
         next (i64 ((k:Int)+1),()) a1
        ) (
         F.CC E (some ⟨q,0,none⟩) k (λaK b1 aM=>
         NC (some ⟨b,0,none⟩) λbK=>
         ∃a8:(Option Addr),aM.cell? (bK.add 2)=some (.pointer a8)/\
         F.Av E a8 aK 1 (λbR bS d=>
         CND ((bS:Int)==0) (
          NC (some ⟨b,0,none⟩) λbL=>
          ∃aD:Aa,d.cell? (bL.add 3)=some (.slice aD.base aD.len aD.cap)/\
          AL (.cells ⟨[.int .u64 aK,.int .i64 1,.int .u64 bR]⟩ E.AI) d λaT a2=>
          APP E.AI 3 24 #[.int .u64 0,.int .i64 0,.int .u64 0] aD ⟨(some (Addr.mk aT 0 none)),1,1⟩ a2 λaE a3=>
          NC (some ⟨b,0,none⟩) λbM=>
          stCells (bM.add 3) 0 [.slice aE.base aE.len aE.cap] a3 λaN=>
          F.A7 E (some ⟨q,0,none⟩) k (λb3 a4=>
          next (i64 ((k:Int)+1),()) a4
          ) aN
         ) (
          NC (some ⟨b,0,none⟩) λaZ=>
          ∃j:Aa,d.drew.cell? (aZ.add 3)=some (.slice j.base j.len j.cap)/\
          NC (some ⟨b,0,none⟩) λbN=>
          ∃a9:(Option Addr),d.drew.cell? (bN.add 2)=some (.pointer a9)/\
          F.BK E a9 aK (λbT aO=>
          aO.cell? (aZ.add 3)=some (.slice j.base j.len j.cap)/\
          APP E.AI 3 24 #[.int .u64 0,.int .i64 0,.int .u64 0] j bT aO λSb a5=>
          NC (some ⟨b,0,none⟩) λbO=>
          stCells (bO.add 3) 0 [.slice Sb.base Sb.len Sb.cap] a5 λa6=>
          next (i64 ((k:Int)+1),()) a6
          ) d.drew
         )
         ) aM
         ) a1
        )
        ) a0
       )
       ) w'))
  (hK: ∀em' w',Sat (Ax E q x.2 u (spRun u x.2.base x.2.elem x.2.AM.toNat ⟨W.R,m,W.em⟩).m::(R++Kv E b h s r W em' (spRun u x.2.base x.2.elem x.2.AM.toNat ⟨W.R,m,W.em⟩).R (spRun u x.2.base x.2.elem x.2.AM.toNat ⟨W.R,m,W.em⟩).em Z)) w'->K w'):
  At (Int×Unit) (0,()) w λFA _ T aC=>
   NC (some ⟨q,0,none⟩) λbJ=> ∃a7:Int,T.cell? (bJ.add 6)=some (.int .i64 a7)/\CND (decide ((FA.1:Int)<a7)) (J FA aC T) (K T):=by
 have bG:=A2.size;have aV:=A2.ba;have b0:=A2.pg
 let tk:Nat->aL:=λk=>spRun u x.2.base x.2.elem k ⟨W.R,m,W.em⟩
 refine AH (λst w'=> ∃(k:Nat) (em:Aa),st.1=(k:Int)/\k<=x.2.AM.toNat/\Sat (Ax E q x.2 u (tk k).m::(R++Kv E b h s r W em (tk k).R (tk k).em Z)) w') (λst _=>(x.2.AM-st.1).toNat) ⟨0,em,rfl,Nat.zero_le _,H⟩ ?_;rintro⟨k',u'⟩ _ T ⟨k,em,aW,bZ,v⟩;dsimp only at aW⊢;subst aW;refine AF ⟨x.2.AM,by obtain⟨ul,ml,s1,s2,lk,_,h2⟩:=Sat.Gx.1 v;exact h2.cell rfl,AB (λaX=> ?_) λbY=> ?_⟩
 .rw[aI,AE (n:=(k:Int)+1)];have O:=OS (u:=u) (base:=x.2.base) (elem:=x.2.elem) (t:=⟨W.R,m,W.em⟩) k;have O:(tk k).em.length+(tk k).R.length<=W.em.length+W.R.length:=O;have aJ: ∀{t':aL} {em':Aa} {w'},spStep u x.2.base x.2.elem k (tk k)=t'->Sat (Ax E q x.2 u t'.m::(R++Kv E b h s r W em' t'.R t'.em Z)) w'->
    (∃(k1:Nat) (em:Aa),(k:Int)+1=(k1:Int)/\k1<=x.2.AM.toNat/\Sat (Ax E q x.2 u (tk k1).m::(R++Kv E b h s r W em (tk k1).R (tk k1).em Z)) w')/\(x.2.AM-((k:Int)+1)).toNat<(x.2.AM-(k:Int)).toNat:=λ{t' em' w'} ht hS=>by
   refine⟨⟨k+1,em',by omega,by omega,?_⟩,by omega⟩;have e:tk (k+1)=t':=ht
   grind
  have same:=λaH: ¬(u k=true/\(tk k).m k=false)=>aJ (em':=em) (w':=T) (show spStep u x.2.base x.2.elem k (tk k)=tk k by unfold spStep;rw[if_neg aH]) v;refine SN v ?_;cases hu:u k with
  | false=>exact AU rfl (same (by grind))
  | true=>
  refine AO rfl (Oy v ?_);cases hm:(tk k).m k with
  | true=>exact AU rfl (same (by grind))
  | false=>
  have aG:u k=true/\(tk k).m k=false:=⟨hu,hm⟩;have h1:0<=(k:Int)*x.2.elem:=Int.mul_nonneg (by omega) (by omega);have h2:((k:Int)+1)*x.2.elem<=x.2.AM*x.2.elem:=Int.mul_le_mul_of_nonneg_right (by omega) (by omega);have h3:((k:Int)+1)*x.2.elem=k*x.2.elem+x.2.elem:=by grind
  have h4:=bG.2.2.2.2;rw[Int.mul_comm x.2.elem]at h4;refine AO rfl (SQ v ⟨aV.1,aV.2.1⟩ aX ⟨by omega,by omega⟩ (by omega) λaM bA=> ?_);have P1: ∀{em':Aa} {R' e':List Rc} {m':Nat->Bool} {w'},Sat (Ax E q x.2 u m'::(R++Kv E b h s r W em' R' e' Z)) w'-> ∃Y,Sat (E5 E r R'::Row E.AI 3 em' (Al HU e')::Cells b E.Ak (Ef h s r em' W)::Y) w'/\
    ∀{em'' R'' e'' w''},Sat (E5 E r R''::Row E.AI 3 em'' (Al HU e'')::Cells b E.Ak (Ef h s r em'' W)::Y) w''->Sat (Ax E q x.2 u m'::(R++Kv E b h s r W em'' R'' e'' Z)) w'':=λ{em' R' e' m' w'} h'=>by
   refine⟨Ax E q x.2 u m'::(R++HA E s W.L::Z),?_,λ{em'' R'' e'' w''} h''=> ?_⟩
   .refine h'.perm ?_;unfold Kv;exact iD _ _ _ _ _ _ _
   .refine h''.perm ?_;unfold Kv;exact(iD _ _ _ _ _ _ _).symm
  obtain⟨Y,aF,aS⟩:=P1 bA;refine AF ⟨some ⟨r,0,none⟩,(aF.front 2 rfl).cell rfl,Ow aF (λaH d aA=>AO rfl (AF ?_)) λA y B hR bH bI d aA=>AU rfl (AF ?_)⟩
  .have Hd:=aA.drew;refine⟨em,(Hd.front 2 rfl).cell rfl,AF ⟨some ⟨r,0,none⟩,(Hd.front 2 rfl).cell rfl,Zk Hd λz3 aO aB=>⟨(aB.front 3 rfl).cell rfl,?_⟩⟩⟩;have l1:=Ov aB;have l2:=Ov (aB.front 2 rfl);have l3:=dO (tk k).R (x.2.base+k*x.2.elem);refine ZY (aB.front 2 rfl) rfl (GA Ic _) (by omega) (by omega) λSb a5 aR=>AF ?_;rw[<-FN]at aR;refine AZ (aR.front 3 rfl) (o:=0) (m:=3) rfl (by simp[Ef]) λa6 bE=>aJ (t':=⟨Oa (tk k).R (x.2.base+k*x.2.elem),(tk k).m,(tk k).em++PJ (tk k).R (x.2.base+k*x.2.elem)⟩) (em':=Sb) ?_ (aS ?_)
   .unfold spStep;rw[if_pos aG,rcN aH]
   .exact((((bE.front 2 rfl).tail).front 1 rfl).front 2 rfl)
  .refine⟨em,(aA.front 2 rfl).cell rfl,AR (vs:=[.int .u64 (x.2.base+k*x.2.elem),.int .i64 1,.int .u64 y.data]) aA λaT a2 aP _=> ?_⟩;have l2:=Ov (aP.front 2 rfl);refine EX (news:=HU ⟨0,x.2.base+k*x.2.elem,1,y.data⟩) (aP.DR 1 rfl) rfl rfl (Ic _) (by omega) (by omega) λaE a3 aQ _=>AF ?_;have e:Al HU (tk k).em++HU ⟨0,x.2.base+k*x.2.elem,1,y.data⟩=Al HU ((tk k).em++[⟨0,x.2.base+k*x.2.elem,1,y.data⟩]):=by rw[FN];simp[Al]
   rw[e]at aQ;have aU:=(Sat.RP.1 aF).1;refine AZ (aQ.front 2 rfl) (o:=0) (m:=3) rfl (by simp[Ef]) λaN bB=> ?_;have bC:Sat (Ax E q x.2 u (tk k).m::(R++Kv E b h s r W aE (A++B) ((tk k).em++[(⟨0,x.2.base+k*x.2.elem,1,y.data⟩:Rc)]) Z)) aN:=aS ((bB.front 1 rfl).front 2 rfl);refine N9 bC A2.st aX λa4 bD=>aJ (t':=⟨A++B,λi=>(tk k).m i||i==k,(tk k).em++[⟨0,x.2.base+k*x.2.elem,1,y.data⟩]⟩) (em':=aE) ?_ bD;rw[hR]at aU;obtain⟨e1,e2⟩:=rcF aU bH bI;unfold spStep
   grind
 .have e:k=x.2.AM.toNat:=by omega
  grind
end
section
variable{E:Env}{b h s r:Nat}{W:SW}{U M:Az}{Z:List Pr}{w:World}
def qR{α:Type}(X S C:α)(R Z:List α):(X::(R++S::C::Z)).Perm (C::X::(R++S::Z)):=by
 classical
 exact List.perm_iff_count.2 λa=>by grind
def Sat.y9{S':HS}(H:Sat (Ds E b h s r W U M::Z) w)(d:S'.V=W.S.V)(j:S'.T=W.S.T)(v:S'.ca=W.S.ca)(J:S'.fx=W.S.fx)(K:S'.hint=W.S.hint)(O: ∀id,(S'.sp id).map (λy=>y.2.rs)=(W.S.sp id).map λy=>y.2.rs):Sat (Ds E b h s r {W with S:=S'} U M::Z) w:=by
 obtain⟨em,H1⟩:=Sat.N7.1 H;exact Sat.N7.2 ⟨em,H1.qN d j v J K O λ_ _=>rfl⟩
def lH{q:Nat}{x:SI}{u m:Nat->Bool}(H:Sat (Ax E q x u m::Z) w)(hs:0<=x.AM)(aJ:x.AM<=1099511627776){K:World->Prop}{Kz:World->Prop}
  (hz:(∃i,m i=true/\u i=false)->Kz w)(hk:(∀i:Nat,(i:Int)<x.AM->m i=true->u i=true)->K w):
  At (Int×Unit) (0,()) w λs7 _ v d=>
    NC (some ⟨q,0,none⟩) λaC=>
    ∃Y:Int,v.cell? (aC.add 6)=some (.int .i64 Y)/\
    CND (decide ((s7.1:Int)<Y)) (
     Af (Bool×Unit) (λy=>
      F.BI E (some ⟨q,0,none⟩) s7.1 (λaD T=>
      CND (aD) (
       F.BJ E (some ⟨q,0,none⟩) s7.1 (λaE aF=>
       y (!aE,()) aF
       ) T
      ) (
       y (false,()) T
      )
      ) v
     ) λKk _ O=>
      CND (Kk.1) (
       Kz O
      ) (
       d (i64 (s7.1+1),()) O
      )
    ) (K v):=by
 refine AH (λst w'=>w'=w/\ ∃i:Nat,st.1=(i:Int)/\(i:Int)<=x.AM/\ ∀j,j<i->m j=true->u j=true) (λst _=>(x.AM-st.1).toNat) ⟨rfl,0,rfl,hs,λj hj=>by omega⟩ ?_;rintro⟨i',u'⟩ _ v ⟨rfl,i,hi,aL,aA⟩;dsimp only at hi⊢;subst hi;have J:(m i=true->u i=true)->(v=v/\ ∃j:Nat,i64 ((i:Int)+1)=(j:Int)/\(j:Int)<=x.AM/\ ∀j',j'<j->m j'=true->u j'=true)/\(x.AM-i64 ((i:Int)+1)).toNat<(x.AM-(i:Int)).toNat∨ ¬(i:Int)<x.AM:=λh=>by
  by_cases g:(i:Int)<x.AM
  .rw[AE (n:=(i:Int)+1)];refine .inl ⟨⟨rfl,i+1,by omega,by omega,λj hj=> ?_⟩,by omega⟩
   grind
  omega
 refine AF ⟨x.AM,by obtain⟨ul,ml,s1,s2,lk,_,h2⟩:=Sat.Gx.1 H;exact h2.cell rfl,AB (λaM=>AV (Oy H ?_)) λaK=>hk λj hj=>aA j (by omega)⟩;cases hm:m i with
 | false=>exact AO rfl λj=>AO rfl ((J λh=>by rw[hm]at h;cases h).resolve_right (by omega))
 | true=>
  refine AU rfl (SN H ?_);cases hu:u i with
  | false=>exact λj=>AU rfl (hz ⟨i,hm,hu⟩)
  | true=>exact λj=>AO rfl ((J λ_=>hu).resolve_right (by omega))
def Jw.put{S:HS}(h:Jw S)(id:Int)(y:Nat×SI):Jw (S.put id y):=⟨h.tv,h.vv,h.ci,h.ok,h.fx⟩
def My(H:Sat (Ds E b h s r W U M::Z) w)(hI:Ck W U M)(hk:Jw W.S){id:Int}{Cv:Bool}(hf:W.L.length<1099511627776)(bB:W.em.length+W.R.length<=1099511627776)(hL: ∀y∈W.L,y.id≠id)
  {K:Int->Bool->Int->World->Prop}(bC:W.S.sp id=none-> ∀w',Sat (Ds E b h s r W U M::Z) w'->K 0 false 35 w')
  (bE: ∀x,W.S.sp id=some x->(∃i,M id i=true/\U id i=false)-> ∀w',Sat (Ds E b h s r W U M::Z) w'->K 0 false 40 w')
  (hK: ∀x,W.S.sp id=some x->(∀i,M id i=true->U id i=true)-> ∃(n:Nat) (gone:Bool) (W':SW) (U' M':Az),RN W U M id Cv n gone W' U' M'/\Ck W' U' M'/\ ∀w',Sat (Ds E b h s r W' U' M'::Z) w'->K n gone 0 w'):
  F.Bj E (some ⟨b,0,none⟩) id Cv K w:=by
 unfold F.Bj T0.Bj;obtain⟨em,H1⟩:=Sat.N7.1 H;refine AF ⟨some ⟨h,0,none⟩,(H1.front 2 rfl).Ah rfl,PT (Z:=Gy E b h s r W em++Z) H1 hI.hI (λhs=>AU rfl (bC hs w H)) λx q R hx H3 b3=>AO rfl (AF ?_)⟩;obtain⟨A2,hg⟩:=hI.sp id x hx;have bY:=A2.size;have bX:=A2.pg;refine⟨x.2.state,by obtain⟨ul,ml,s1,s2,lk,_,h2⟩:=Sat.Gx.1 H3;exact h2.cell rfl,AO (by rw[A2.st];rfl) ?_⟩;refine lH H3 (by omega) (by omega) (λhz=>bE x hx hz w H) λaV=> ?_;have aU: ∀i,M id i=true->U id i=true:=λi hi=>aV i (hg.yP i hi) hi;obtain⟨n,gone,W',U',M',hO,a6,T⟩:=hK x hx aU;refine eM (W:=W) (em:=em) A2 bB H3 (λk next w'=>rfl) λem' b6 aM=> ?_;obtain⟨x',t,uw,aX,-,ht,hn,aS,bA,v,d,J⟩:=hO;rw[hx]at aX;cases aX;rw[<-ht]at aM;have bG:=A2.st;refine XS aM (by omega) (λc=>absurd bG c) (λ_ hz=> ?_) λ_ b0 qX b7 aN=> ?_
 .obtain⟨i,h1,h2⟩:=hz;have:=XH (u:=U id) (base:=x.2.base) (elem:=x.2.elem) (t:=⟨W.R,M id,W.em⟩) aU x.2.AM.toNat i (by grind)
  grind
 have hlen:qX.len=n:=by
  have:=aN.Du;unfold ints at this;rw[List.length_map,LG]at this;omega
 have Hd:=aN.tail.drew;have cb: ∀{W'':SW} {P:Pr} {aH:World},Sat (P::(R++Kv E b h s r W'' em' t.R t.em Z)) aH->Sat (Cells b E.Ak (Ef h s r em' W'')::P::(R++HA E s W''.L::E5 E r t.R::Row E.AI 3 em' (Al HU t.em)::Z)) aH/\
   ∀{W3:SW} {w3},W3.L=W''.L->Sat (Cells b E.Ak (Ef h s r em' W3)::P::(R++HA E s W''.L::E5 E r t.R::Row E.AI 3 em' (Al HU t.em)::Z)) w3->Sat (P::(R++Kv E b h s r W3 em' t.R t.em Z)) w3:=λ{W'' P aH} h'=>by
  refine⟨h'.perm (qR _ _ _ _ _),λ{W3 w3} e h3=> ?_⟩;unfold Kv;rw[e];exact h3.perm (qR _ _ _ _ _).symm
 obtain⟨aO,a4⟩:=cb (W'':=W) Hd;have aG: ∀{u m:Nat->Bool} {Y:List Pr} {w':World},Sat (Ax E q x.2 u m::Y) w'->w'.cell? ((Addr.mk q 0 none).add 6)=some (.int .i64 x.2.AM)/\w'.cell? ((Addr.mk q 0 none).add 1)=some (.int .u64 x.2.AA):=λh'=>by
  obtain⟨ul,ml,s1,s2,lk,_,h2⟩:=Sat.Gx.1 h';exact⟨h2.cell rfl,h2.cell rfl⟩
 refine AF ⟨W.En,aO.cell rfl,AF ⟨x.2.AA,(aG Hd).2,AF ?_⟩⟩;refine AZ aO (o:=0) (m:=6) rfl (by simp[Ef]) λb8 aP=>AF ⟨W.M8,aP.cell rfl,AF ?_⟩;refine AZ aP (o:=0) (m:=7) rfl (by simp[Ef]) λb9 aQ=> ?_;have bU:=Oh (λi=>U id i&& !t.m i) x.2.AM.toNat;rw[AK (n:=((qX.len:Nat):Int)),hlen]at aQ;have a1:=a4 (W3:=v) (by rw[d]) (by rw[d];exact aQ);rw[hlen];have O:=a1.drew;have close: ∀{w':World},Sat (Ax E q x.2 (λi=>U id i&&t.m i) (λ_=>false)::(R++Kv E b h s r v em' t.R t.em Z)) w'->Sat (Ds E b h s r v U' M'::Z) w':=λ{w'} h'=>by
  have h2:=b3 (Y:=Gy E b h s r v em'++Z) (by
   have e:Kv E b h s r v em' t.R t.em Z=Gy E b h s r v em'++Z:=by rw[d];rfl
   rw[<-e];exact h')
  refine Sat.N7.2 ⟨em',?_⟩;have e2:v.S=W.S.put id (x.1,Jv x.2 uw λi=>U id i&&t.m i):=by rw[d]
  rw[e2,aS,bA];exact h2.vY hx rfl
 generalize hu2:(λi=>U id i&&t.m i)=u2 at *
 have bV:u2=U' id:=by rw[aS,Az.N3]
 have aC: ¬(Cv=true/\((cN u2 x.2.AM.toNat:Nat):Int)<x.2.AM)-> ∀w',Sat (Ax E q x.2 u2 (λ_=>false)::(R++Kv E b h s r v em' t.R t.em Z)) w'->F.Bv E (some ⟨q,0,none⟩) (λbI aI=>
         CND ((bI:Int)==0) (
          NC (some ⟨b,0,none⟩) λbH=>
          ∃aY:(Option Addr),aI.cell? bH=some (.pointer aY)/\
          F.CD E aY id (λb4 aJ=>
          K ((n:Nat):Int) true 0 aJ
          ) aI
         ) (
          F.A4 E (some ⟨b,0,none⟩) id true (λb5 aK=>
          K ((n:Nat):Int) false 0 aK
          ) aI
         )
         ) w':=λbF w' h'=>by
  have aF:v.S.sp id=some (x.1,Jv x.2 uw u2):=by rw[d];exact HS.Il
  have a7:BN v.S no:=by
   have:v.S=W.S.put id (x.1,Jv x.2 uw u2):=by rw[d]
   rw[this];exact hI.hI.put hx rfl rfl (by show x.2.state≠0;omega)
  have bD:Jw v.S:=by rw[d];exact hk.put _ _
  have Hc:=close h';obtain⟨a5,a3⟩:=Sat.N7.1 Hc;refine Ie h' (BF (λe0=>AF ?_) λe0=> ?_)
  .have aT:cN u2 x.2.AM.toNat=0:=by omega
   have aZ: ¬(Cv=true/\((0:Nat):Int)<x.2.AM):=by grind
   refine⟨some ⟨h,0,none⟩,(cb (W'':=v) h').1.Ah rfl,Z5 a3 a7 bD (λhn=>by grind) (λy hy aW=> ?_) λy a hy _ ha aJ a2=> ?_⟩
   .rw[aF]at hy;cases hy;exact absurd aW (by show ¬0<cN (U' id) x.2.AM.toNat;grind)
   .rw[aF]at hy;cases hy;rcases J with ⟨c1,c2,_⟩|⟨_,_,aB,a',bT,aA⟩|⟨_,c2,_⟩
    .exact absurd ⟨c1,c2⟩ bF
    .have:a=a':=by omega
     subst this;rw[aB]at T;refine T aJ ?_;rw[aA];exact Sat.N7.2 ⟨a5,a2⟩
    .exact absurd aT c2
  .have aT:cN u2 x.2.AM.toNat≠0:=by omega
   rcases J with ⟨c1,c2,_⟩|⟨_,c2,_⟩|⟨_,_,aB,Fz,aA⟩
   .grind
   .omega
   .have a8:Ck v U' M':=by
     have:=Ck.ofL (L:=W.L) a6 λy hy=>by
      rw[aA];show ∃z,v.S.sp y.id=some z/\z.2.base=y.base;obtain⟨z,h1,h2⟩:=hI.it y hy;refine⟨z,?_,h2⟩;rw[d];show(if y.id=id then _ else W.S.sp y.id)=_
      grind
     grind
    have a9:v.L=W.L:=by rw[d]
    refine Mx Hc a8 Fz (by grind) (λhn=>by grind) (λ_ hex=> ?_) λy hy _ aK aR=> ?_
    .grind
    .rw[aF]at hy;cases hy;rw[aB]at T;refine T aK ?_;rw[aA];rw[a9]at aR;exact aR
 cases Cv with
 | false=>exact AV (AO rfl λj=>AO rfl (aC (by simp) _ O))
 | true=>
  refine AV (AU rfl (AF ⟨x.2.AM,(aG O).1,Ie O ⟨(aG O).1,λj=>AB (λg=> ?_) λg=>aC (λc=>g c.2) _ O⟩⟩));rcases J with ⟨_,_,aB,aA⟩|⟨c,_⟩|⟨c,_⟩
  .rw[aB]at T;refine T _ ?_;rw[aA];exact close O
  .exact absurd ⟨rfl,g⟩ c
  .exact absurd ⟨rfl,g⟩ c
end
def Lv.uniq{L:List DG}{x y:DG}(h:Lv L x)(hI:Kt L)(g:Lv L y):x=y:=by
 exact hI.HT.inj h.1 g.1 (Int.le_antisymm (h.2.2 y g.1 g.2.1) (g.2.2 x h.1 h.2.1))
section
variable{E:Env}{b h s r:Nat}{W W':SW}{U M U' M':Az}{Z:List Pr}{w:World}
def eN(H:Sat (Ds E b h s r W U M::Z) w): ∃em Y,Sat (Cells b E.Ak (Ef h s r em W)::Y) w/\ ∀{W2:SW} {w'},W2.S=W.S->W2.L=W.L->W2.R=W.R->W2.em=W.em->Sat (Cells b E.Ak (Ef h s r em W2)::Y) w'->Sat (Ds E b h s r W2 U M::Z) w':=by
 obtain⟨em,H1⟩:=Sat.N7.1 H;have d:Sat (Cells b E.Ak (Ef h s r em W)::Kf E h W.S (SM U M)::HA E s W.L::E5 E r W.R::Row E.AI 3 em (Al HU W.em)::Z) w:=H1.front 2 rfl;refine⟨em,_,d,λ{W2 w'} e1 e2 e3 e4 h'=>Sat.N7.2 ⟨em,?_⟩⟩;rw[e1];unfold Gy;rw[e2,e3,e4];exact(h'.front 1 rfl).DR 1 rfl
def VR(H:Sat (Ds E b h s r W U M::Z) w){n:Int}(hc:0<=W.Bq/\W.Bq<18446744073709551616)(hn:0<=n/\n<18446744073709551616){K:World->Prop}(j: ∀w',Sat (Ds E b h s r {W with Bq:=Hj W.Bq n} U M::Z) w'->K w'):F.Dh E (some ⟨b,0,none⟩) n K w:=by
 unfold F.Dh;obtain⟨em,Y,H1,y⟩:=eN H;refine AF ⟨_,H1.cell rfl,?_⟩;have fin: ∀v:Int,v=Hj W.Bq n->stCells ((Addr.mk b 0 none).add 5) 0 [.int .u64 v] w K:=λv T=>by
  rw[T];exact AZ H1 (o:=0) (m:=5) rfl (by simp[Ef]) λw2 d=>j w2 (y (W2:={W with Bq:=Hj W.Bq n}) rfl rfl rfl rfl d)
 try dsimp only
 rw[AK (n:=18446744073709551615-W.Bq)];refine AB (λO=>AF (fin _ ?_)) λJ=>AF ⟨_,H1.cell rfl,AF (fin _ ?_)⟩
 .unfold Hj;omega
 .unfold Hj;rw[if_neg (by omega),AK]
def SS(H:Sat (Ds E b h s r W U M::Z) w)(v:Ou W){K:Int->World->Prop}(j: ∀w',Sat (Ds E b h s r W U M::Z) w'->K W.Za w'):F.BY E (some ⟨b,0,none⟩) K w:=by
 unfold F.BY T0.BY;obtain⟨em,Y,H1,y⟩:=eN H.drew;refine AF ⟨_,H1.cell rfl,AF ⟨_,H1.cell rfl,Zg H1 λT d=>AF ⟨_,d.cell rfl,?_⟩⟩⟩;have ht:=V3 W.Bq W.Ny;have O:=v.rp;have hk:=j T (y rfl rfl rfl rfl d);unfold SW.Za at hk;refine AB (λhle=> ?_) λJ=>AF ⟨_,d.cell rfl,?_⟩
 .by_cases c:timesV W.Bq W.Ny<W.En
  .rwa[if_pos c]at hk
  .rw[if_neg c,show timesV W.Bq W.Ny-W.En=0 by omega]at hk;exact hk
 .rw[if_neg (by omega)]at hk;rwa[AK]
def Z6(H:Sat (Ds E b h s r W U M::Z) w){n:Int}{K:World->Prop}(y: ∀w',Sat (Ds E b h s r {W with Ny:=n,Bq:=0,En:=0} U M::Z) w'->K w'):F.D9 E (some ⟨b,0,none⟩) n K w:=by
 unfold F.D9;obtain⟨em,Y,H1,J⟩:=eN H;exact AF (AZ H1 (o:=0) (m:=4) rfl (by simp[Ef]) λT d=>AF (AZ d (o:=0) (m:=5) rfl (by simp[Ef]) λw3 j=>AF (AZ j (o:=0) (m:=6) rfl (by simp[Ef]) λO v=>y O (J (W2:={W with Ny:=n,Bq:=0,En:=0}) rfl rfl rfl rfl v))))
def Xb{e:Int}(H:Sat (Ds E b h s r W U M::Z) w)(hI:MJ W U M)(hN:Ou W)(hr:Qe W U M e W' U' M'){K:Int->World->Prop}
  (hK: ∀w',Sat (Ds E b h s r W' U' M'::Z) w'->K e w'):F.BL E (some ⟨b,0,none⟩) K w:=by
 unfold F.BL T0.BL;refine TA (λn _ w'=> ∃T U1 M1,MJ T U1 M1/\Ou T/\Qe T U1 M1 e W' U' M'/\n=kR T.L/\Sat (Ds E b h s r T U1 M1::Z) w') _ ⟨W,U,M,hI,hN,hr,rfl,H⟩ ?_;rintro n _ _ w2 ⟨T,U1,M1,O,aA,aB,rfl,H2⟩;refine SS H2 aA λw5 H5=>AB (λhd=> ?_) λhd=> ?_
 .refine N8 H5 O.se (λv w8 H8=>AU rfl ?_) λx J w8 H8=>AO rfl ?_
  .rcases aB with h0|⟨_,_⟩|⟨_,J,_,_⟩|⟨_,J,_,_,_,_⟩
   .omega
   .exact hK w8 H8
   .have:=v _ J.1;rw[J.2.1]at this;cases this
   .have:=v _ J.1;rw[J.2.1]at this;cases this
  .have aL:=gV O.se J.1 J.2.1;have d:=O.rem x.id;rcases aB with h0|⟨_,v⟩|⟨_,aC,hy,hz⟩|⟨_,aC,j,A2,aR,aJ⟩
   .omega
   .have:=v _ J.1;rw[J.2.1]at this;cases this
   .obtain rfl:=J.uniq O.se aC;refine My H8 d.inv d.hk d.KY d.em (λz hz=>(Fh.1 hz).2) (λhn=> ?_) (λz _ _ aD Y=>AU rfl (hK aD Y)) λz _ aI=> ?_
    .grind
    grind
   .obtain rfl:=J.uniq O.se aC;refine My H8 d.inv d.hk d.KY d.em (λz hz=>(Fh.1 hz).2) (λhn=> ?_) (λz _ hz=> ?_) λz _ _=>⟨_,_,_,_,_,j,A2.inv,λaD Y=>AO rfl ⟨_,?_,_,_,_,A2,j.num (W:={T with L:=GZ T.L _}) ⟨aA.ch,aA.rp⟩,aJ,rfl,Y⟩⟩
    .obtain⟨y,_,_,hy,_⟩:=j
     grind
    .obtain⟨y,_,_,_,aI,_⟩:=j
     grind
    .rw[j.kR]
     grind
 .rcases aB with h0|⟨_,_⟩|⟨_,J,_,_⟩|⟨_,J,_,_,_,_⟩
  .exact hK w5 H5
  all_goals omega
end
section
variable{E:Env}{w:World}{Rs Z:List Pr}
end
structure KS where
 p:Int
 hd:Nat->Int
 tiny:Int
 jQ:Int
def kIx(k:Int)(np:Bool):Nat:=k.toNat*2+if np=true then 1 else 0
def KS.held(C:KS)(k:Int)(np:Bool):Int:=if 0<k/\k<68 then C.hd (kIx k np)else 0
def KS.hold(C:KS)(k:Int)(np:Bool)(id:Int):KS:={C with hd:=λi=>if i=kIx k np then id else C.hd i}
section
variable{E:Env}{w:World}{Z:List Pr}{c cb:Nat}{C:KS}
end
section
variable{E:Env}{w:World}{Z:List Pr}{c cb b h s r:Nat}{C:KS}{W:SW}{U M:Az}
end
section
end
section
variable{E:Env}{w:World}{Z:List Pr}{c cb b h s r:Nat}{C:KS}{W:SW}{U M:Az}
end
def SW.take(W:SW)(id:Int)(x:Nat×SI)(uw:List Int)(n:Nat):SW:={W with S:=W.S.put id (x.1,{x.2 with uw:=uw,used:=x.2.used+1,look:=(n:Int)+1})}
def Az.take(U:Az)(id:Int)(n:Nat):Az:=U.set id λi=>U id i||i==n
section
variable{E:Env}{w:World}{Z:List Pr}{c cb b h s r:Nat}{C:KS}{W:SW}{U M:Az}
end
def KS.flushed(C:KS):KS:={C with tiny:=0,jQ:=0}
section
variable{E:Env}{w:World}{Z:List Pr}{c cb b h s r:Nat}{C:KS}{W:SW}{U M:Az}
end
section
variable{E:Env}{c cb b h s r:Nat}{C:KS}{W:SW}{U M:Az}{Z:List Pr}{w:World}
end
section
variable{E:Env}{cb b h s r:Nat}{W W':SW}{U M U' M':Az}{Z:List Pr}{w:World}
end
def vZ(S:HS):Prop:= ∀id x,S.sp id=some x->x.2.f8=false/\x.2.f9=false
def vZ.put{S:HS}(h:vZ S){id:Int}{x:Nat×SI}{I:SI}(v:S.sp id=some x)(J:I.f8=x.2.f8)(K:I.f9=x.2.f9):vZ (S.put id (x.1,I)):=λj y d=>by
 have d:(if j=id then some (x.1,I)else S.sp j)=some y:=d;by_cases c:j=id
 .rw[if_pos c]at d;cases d;have:=h id x v
  grind
 .rw[if_neg c]at d;exact h j y d
def Ql{S d:HS}{p n:Int}(h:Ih S p n d):d.fx=S.fx:=by
 rcases h with ⟨_,rfl⟩|⟨i,_,_,_,⟨_,q,_,rfl⟩|⟨_,rfl⟩,_⟩<;>rfl
def zA{S S2:HS}{p n page:Int}(h:aI S p n page S2):S2.fx=S.fx:=by
 rcases h with ⟨j,i,k,v,_,_,⟨_,q,_,rfl⟩|⟨_,rfl⟩,_,_,_,_,rfl⟩|⟨j,d,_,rfl⟩
 .rfl
 .rfl
 .exact(show j.fx=S.fx from Ql d)
def u7{S S2:HS}{p n:Int}(h:Sg S p n S2):S2.fx=S.fx:=by
 rcases h with ⟨j,d,_,⟨r,_,rfl⟩|⟨_,_,rfl⟩⟩|⟨S1,page,r,v,_,_,rfl⟩
 .exact(show j.fx=S.fx from Ql d)
 .exact(show j.fx=S.fx from Ql d)
 .rcases v with v|⟨j,y,d,_,⟨_,at_,_,rfl⟩,_,rfl⟩
  .exact(show S1.fx=S.fx from zA v)
  .exact(show j.fx=S.fx from Ql d)
structure aO(W W':SW):Prop where
 n:W'.S.fx.n=W.S.fx.n
 f:vZ W.S->vZ W'.S
 out: ∀j,W.S.sp j≠none->(∀x∈W.L,x.id≠j)->W'.S.sp j≠none/\ ∀x∈W'.L,x.id≠j
def aO.refl(W:SW):aO W W:=⟨rfl,λc=>c,λj h1 h2=>⟨h1,h2⟩⟩
def aO.trans{A B C:SW}(h:aO A B)(g:aO B C):aO A C:=⟨g.n.trans h.n,λc=>g.f (h.f c),λj h1 h2=>let⟨a,b⟩:=h.out j h1 h2;g.out j a b⟩
def aO.rem(W:SW)(id:Int):aO W {W with L:=GZ W.L id}:=⟨rfl,λc=>c,λj h1 h2=>⟨h1,λx d=>h2 x (Fh.1 d).1⟩⟩
def RN.Xj{W W':SW}{U M U' M':Az}{id:Int}{Cv gone:Bool}{n:Nat}(h:RN {W with L:=GZ W.L id} U M id Cv n gone W' U' M')(aE: ∃x∈W.L,x.id=id):aO W W':=by
 obtain⟨x,t,uw,hx,-,-,-,-,-,v,Y,hc⟩:=h;have hx:W.S.sp id=some x:=hx;have T:v.L=GZ W.L id:=by rw[Y]
 have J:v.S=W.S.put id (x.1,Jv x.2 uw λi=>U id i&&t.m i):=by rw[Y]
 have K:vZ W.S->vZ v.S:=λc=>by rw[J];exact c.put hx rfl rfl
 have O:v.S.fx.n=W.S.fx.n:=by rw[J];rfl
 have aF: ∀j,j≠id->v.S.sp j=W.S.sp j:=λj hj=>by rw[J];exact if_neg hj
 have aA: ∀j,(∀x∈W.L,x.id≠j)->j≠id:=λj hj e=>by grind
 rcases hc with ⟨_,_,_,e⟩|⟨_,_,_,a,ha,e⟩|⟨_,_,_,Fz,e⟩
 .rw[e];exact⟨O,K,λj h1 h2=>⟨by grind,λy d=>h2 y (Fh.1 (by rw[T]at d;exact d)).1⟩⟩
 .rw[e];refine⟨O,λc j y d=> ?_,λj h1 h2=>⟨?_,λy d=>h2 y (Fh.1 (by rw[<-T];exact d)).1⟩⟩
  .have d:(if j=(a:Int)+1 then none else v.S.sp j)=some y:=d;split at d
   .cases d
   .exact K c j y d
  .show(if j=(a:Int)+1 then none else v.S.sp j)≠none
   grind
 .rw[e];refine⟨O,K,λj h1 h2=>⟨by grind,λy d=> ?_⟩⟩;rcases LH.1 d with rfl|d
  .exact λe=>aA j h2 e.symm
  .exact h2 y (Fh.1 d).1
structure Qm(W:SW)(U M:Az)(l:List Int)(B:Nat):Prop where
 n:W.S.fx.n<=B
 ok:MJ W U M
 f:vZ W.S
 nd:l.Nodup
 hd: ∀id∈l,W.S.sp id≠none/\ ∀x∈W.L,x.id≠id
def Qm.mono{W:SW}{U M:Az}{l:List Int}{B C:Nat}(h:Qm W U M l B)(d:B<=C):Qm W U M l C:={h with n:=Nat.le_trans h.n d}
def Qm.Xj{W W':SW}{U M U' M':Az}{l:List Int}{B:Nat}(h:Qm W U M l B)(hE:aO W W')(A2:MJ W' U' M'):Qm W' U' M' l B:=⟨hE.n▸h.n,A2,hE.f h.f,h.nd,λid O1=>hE.out id (h.hd id O1).1 (h.hd id O1).2⟩
def Qm.add{W:SW}{U M:Az}{l:List Int}{B:Nat}{id:Int}(h:Qm W U M l B)(h1:id∉l)(h2:W.S.sp id≠none)(v: ∀x∈W.L,x.id≠id):Qm W U M (l++[id]) B:=by
 refine⟨h.n,h.ok,h.f,?_,λj d=> ?_⟩
 .rw[List.nodup_append];refine⟨h.nd,by simp,λa y b J e=> ?_⟩
  grind
 .rcases List.mem_append.1 d with d|d
  .exact h.hd j d
  grind
section
variable{E:Env}{bb cb cq b h s r b2 h2 s2 r2:Nat}{W W':SW}{U M U' M':Az}{l:List Int}{Z:List Pr}{w:World}
end
section
variable{E:Env}{bb cb cq b h s r b2 h2 s2 r2:Nat}{W W':SW}{U M U' M':Az}{l:List Int}{B:Nat}{Z:List Pr}{w:World}
end
section
variable{E:Env}{c cb b h s r:Nat}{C:KS}{W W':SW}{U M U' M':Az}{Z:List Pr}{w:World}
end
end Go.Sh
namespace Go.Sh
variable{W W' W0:SW}{U M U' M':Az}{C C' D:KS}
def Qe.Xj{e:Int}(h:Qe W U M e W' U' M'):aO W W':=by
 induction h with
 | done _=>exact aO.refl _
 | empty _ _=>exact aO.refl _
 | dS _ _ _ _=>exact aO.rem _ _
 | go _ hx hO _ _ _ ih=>exact(hO.Xj ⟨_,hx.1,rfl⟩).trans ih
end Go.Sh
namespace Go.Sh
section
variable{E:Env}{c cb b h s r:Nat}{W W':SW}{U M:Az}{C D C':KS}{Z:List Pr}{w:World}
end
section
variable{E:Env}{c cb b h s r:Nat}{W W':SW}{U M U' M':Az}{C D C':KS}{Z:List Pr}{w:World}
end
section
variable{E:Env}{bb cb cq b h s r b2 h2 s2 r2:Nat}{W W':SW}{U M U' M':Az}{l:List Int}{B:Nat}{Z:List Pr}{w:World}
end
section
variable{E:Env}{bb cb cq b h s r b2 h2 s2 r2:Nat}{W W':SW}{U M U' M':Az}{l:List Int}{B:Nat}{Z:List Pr}{w:World}
end
section
variable{E:Env}{bb cb cq b h s r b2 h2 s2 r2:Nat}{W W':SW}{U M U' M':Az}{l:List Int}{B:Nat}{Z:List Pr}{w:World}
def Ob.some{S S':HS}(h:Ob S S'){id:Int}{y:Nat×SI}(d:S'.sp id=some y): ∃x mw,S.sp id=some x/\y=(x.1,{x.2 with mw:=mw}):=by
 cases hx:S.sp id with
 | none=>rw[h.no id hx]at d;cases d
 | some x=>
  obtain⟨mw,e⟩:=h.sp id x hx
  grind
def Qm.mark(hC:Qm W U M l B){S':HS}(hm:Ob W.S S')(A2:MJ {W with S:=S',L:=Gh W.L} U M'):Qm {W with S:=S',L:=Gh W.L} U M' l B:=by
 refine⟨?_,A2,λid y j=> ?_,hC.nd,λid O1=>⟨λv=> ?_,λx d e=> ?_⟩⟩
 .show S'.fx.n<=B;rw[hm.rest];exact hC.n
 .obtain⟨x,mw,d,rfl⟩:=hm.some j;exact hC.f id x d
 .have v:S'.sp id=none:=v;obtain⟨x,d⟩:=Option.ne_none_iff_exists'.1 (hC.hd id O1).1;obtain⟨mw,e⟩:=hm.sp id x d
  grind
 .obtain⟨y,j,rfl⟩:=List.mem_map.1 d;exact(hC.hd id O1).2 y j e
end
def aM.len{S:HS}{g:RG}{fl:Int->Bool}(d:aM S g)(hI:BN S fl):g.L.length<=S.fx.n:=by
 have h:=UR S.fx.n (g.L.map (·.1)) d.nd λn j=>by
  obtain⟨a,e,h1,_⟩:=(hI.sf n).1 ((d.mem n).1 j);omega
 grind
section
variable{E:Env}{bb cb cq b h s r b2 h2 s2 r2:Nat}{W W':SW}{U M U' M':Az}{l:List Int}{B:Nat}{Z:List Pr}{w:World}
end
section
variable{E:Env}{cb cq b h s r b2 h2 s2 r2:Nat}{W W':SW}{U M U' M':Az}{C D:KS}{Z:List Pr}{w:World}
end
section
variable{E:Env}{c:Nat}{V:VS}{Z:List Pr}{w:World}{g:MG}{P:rG}{W:uX}
end
def Xc(i:Nat){t:Nat}{Ps:List Pr}{w:World}{K:Nat->World->Prop}(H:Sat Ps w)(d:Ps[i]? =some qY)(v: ∀b w',Sat (Ps.set i (Row t 1 ⟨some ⟨b,0,none⟩,0,0⟩ [])) w'->K b w'):AL (.cells ⟨[]⟩ t) w K:=
 HI (n:=0) (z:=1) (H.front i d).tail rfl (by decide) λb w' j=>v b w' (Sat.back i j (List.getElem?_eq_some_iff.1 d).1)
def OA(i:Nat){t bytes b:Nat}{zs:Array Value}{a:Aa}{vs:List Value}{Ps:List Pr}{w:World}{K:Aa->World->Prop}(H:Sat Ps w)(y:Ps[i]? =some (Row t 1 ⟨some ⟨b,0,none⟩,0,0⟩ []))(hz:zs.size=1)
  (d: ∀w',Sat (Ps.eraseIdx i) w'->rowAt w' a.base a.len vs)(Y:vs.length=a.len)(hlen:a.len<=1099511627776)(j:bytes<=8)(T: ∀v∈vs,v.oneCell'=true)(O: ∀s' w',Sat (Ps.set i (Row t 1 s' vs)) w'->K s' w'):
  APP t 1 bytes zs ⟨some ⟨b,0,none⟩,0,0⟩ a w K:=by
 have hm:(0+a.len)*bytes<=1099511627776*8:=Nat.mul_le_mul (by omega) j;exact Ep (H.front i y) hz (by simpa using d w (H.front i y).tail) (by omega) T (by grind) (by grind) λs' w' J _=>O s' w' (Sat.back i J (List.getElem?_eq_some_iff.1 y).1)
section
variable{E:Env}{b c:Nat}{V:VS}{Z Rs:List Pr}{w:World}
def u9(pl:List Int)(rf:List Bool)(fl:List Int):VH (Md pl rf fl):=
 ⟨trivial,trivial,trivial,λp h=>absurd h (Bt p),λp h=>absurd h (Bt p),λp h=>absurd h (Bt p),λp h=>absurd h (Bt p),λ_ _ _ _ _=>rfl,by show Gn []+Gn []<=Gn [];decide⟩
def Z7{b1 t1:Nat}{vs:List Value}{s0 s1 s2:Aa}{pl:List Int}{rf:List Bool}{fl:List Int}(d: ∀x∈pl,0<=x/\x<18446744073709551616)
  (H:Sat (Cells c E.As [Fo s0,Fo s1,Fo s2,.slice none 0 0,.slice none 0 0]::Cells b1 t1 vs::Row E.AJ 1 s0 (ints .u64 pl)::Row E.A9 1 s1 (Bn rf)::Row E.AJ 1 s2 (ints .u64 fl)::Rs) w):Sat (Gc E c (Md pl rf fl)::Rs) w:=by
 refine Sat.Uv.2 ⟨⟨s0,s1,s2,⟨none,0,0⟩,⟨none,0,0⟩⟩,[],[],⟨u9 pl rf fl,.nil,.nil,λp=>⟨λh=>absurd h (Bt p),λ⟨e,he,_⟩=>(by cases he)⟩,λe he=>(by cases he),λe he=>(by cases he),λe he=>(by cases he),d⟩,?_⟩;have h1:=(H.front 1 rfl).tail;have h2:=(h1.front 1 rfl).rO;have j:=(h2.front 2 rfl).rO;have v:=(j.front 3 rfl).rO;have y:=(v.nil E.Ap 3);have J:=(y.nil E.Hv 2);exact J.perm ((List.reverse_perm [_,_,_,_,_,_]).symm.append_right Rs)
def lI(H:Sat Rs w){a0 a1 a2:Aa}{pl:List Int}{rf:List Bool}{fl:List Int}(j: ∀x∈pl,0<=x/\x<18446744073709551616)
  (h0: ∀w',Sat Rs w'->rowAt w' a0.base a0.len (ints .u64 pl))(l0:pl.length=a0.len)(k0:a0.len<=1099511627776)
  (h1: ∀w',Sat Rs w'->rowAt w' a1.base a1.len (Bn rf))(l1:rf.length=a1.len)(k1:a1.len<=1099511627776)
  (h2: ∀w',Sat Rs w'->rowAt w' a2.base a2.len (ints .u64 fl))(l2:fl.length=a2.len)(k2:a2.len<=1099511627776)
  {K:Option Addr->World->Prop}(hK: ∀b w',Sat (Gc E b (Md pl rf fl)::Rs) w'->K (some ⟨b,0,none⟩) w'):F.Jj E a0 a1 a2 K w:=by
 unfold F.Jj;have v:(ints IntKind.u64 pl).length=a0.len:=by rw[ints,List.length_map];exact l0
 have T:(Bn rf).length=a1.len:=by rw[Bn,List.length_map];exact l1
 have y:(ints IntKind.u64 fl).length=a2.len:=by rw[ints,List.length_map];exact l2
 refine AR (vs:=[Fo a0,Fo a1,Fo a2]) H.emp.emp.emp λb1 w2 Y _=> ?_;have O:=Y.drew;clear Y;have t4: ∀{P0 P1 P2:Pr} {w'},Sat (P0::P1::P2::Rs) w'->Sat Rs w':=λh=>h.tail.tail.tail;refine⟨a0,O.Ah rfl,a1,O.cell rfl,a2,O.cell rfl,?_⟩
 repeat' first
  | (exact Sat.cell (by assumption) (by rfl))
  | (exact Sat.Ah (by assumption) (by rfl))
  | (refine OA 1 (a:=a0) (vs:=ints .u64 pl) (by assumption) (by rfl) rfl (by intro w' h;exact h0 w' (t4 h)) v k0 (by decide) (TE _ _) λs' w' d=> ?_)
  | (refine OA 1 (a:=a2) (vs:=ints .u64 fl) (by assumption) (by rfl) rfl (by intro w' h;exact h2 w' (t4 h)) y k2 (by decide) (TE _ _) λs' w' d=> ?_)
  | (refine OA 2 (a:=a1) (vs:=Bn rf) (by assumption) (by rfl) rfl (by intro w' h;exact h1 w' (t4 h)) T k1 (by decide) (qE _) λs' w' d=> ?_)
  | (refine OA 3 (a:=a0) (vs:=ints .u64 pl) (by assumption) (by rfl) rfl (by intro w' h;exact h0 w' (t4 h)) v k0 (by decide) (TE _ _) λs' w' d=> ?_)
  | (refine OA 3 (a:=a2) (vs:=ints .u64 fl) (by assumption) (by rfl) rfl (by intro w' h;exact h2 w' (t4 h)) y k2 (by decide) (TE _ _) λs' w' d=> ?_)
  | (refine Xc 2 (t:=E.A9) (by assumption) (by rfl) λJ w' d=> ?_)
  | (refine Xc 1 (t:=E.AJ) (by assumption) (by rfl) λJ w' d=> ?_)
  | (refine Xc 3 (t:=E.AJ) (by assumption) (by rfl) λJ w' d=> ?_)
  | (refine AR (vs:=[Fo _,Fo _,Fo _,.slice none 0 0,.slice none 0 0]) (by assumption) λJ w' d _=>hK _ _ (Z7 j d))
  | (refine AR (vs:=[Fo _,Fo _,Fo _,.slice none 0 0,.slice none 0 0]) (by assumption) λJ w' d _=>hK _ _ (Z7 j (d.perm (.cons _ (.cons _ (((List.Perm.swap _ _ _).trans (.cons _ (.swap _ _ _))).trans (.swap _ _ _)))))))
  | (refine And.intro ?_ ?_)
end
section
variable{E:Env}{bb cb cq b h s r b2 h2 s2 r2:Nat}{W W':SW}{U M U' M':Az}{l:List Int}{B:Nat}{Z:List Pr}{w:World}
end
section
variable{E:Env}{bb cb cq b h s r b2 h2 s2 r2:Nat}{W W':SW}{U M U' M':Az}{l:List Int}{B:Nat}{Z:List Pr}{w:World}
end
def eO{E:Env}{h:Nat}{S:HS}{U M:Az}{Z:List Pr}{w:World}(H:Sat (Kf E h S (SM U M)::Z) w){K:Option Addr->World->Prop}(O: ∀b s r w',Sat (Ds E b h s r (SW.new S) U M::Z) w'->K (some ⟨b,0,none⟩) w'):F.I5 E (some ⟨h,0,none⟩) K w:=by
 unfold F.I5;refine AR (vs:=[.slice none 0 0]) H λs w2 d _=>AR (vs:=[.slice none 0 0]) d λr w4 j _=>AR (vs:=Ef h s r ⟨none,0,0⟩ (SW.new S)) j λb Y v _=>O b s r Y ?_;have y:=(Sat.RO (L:=[]) (q:=s) (E:=E)).2 ⟨⟨none,0,0⟩,[],.refl _,((v.nil E.Aq 6).front 3 rfl)⟩;have J:=(Sat.RP (R:=[]) (q:=r) (E:=E)).2 ⟨⟨.nil,λx T=>(by cases T),Nat.zero_le _⟩,⟨none,0,0⟩,((y.nil E.AI 3).front 3 rfl)⟩;exact Sat.N7.2 ⟨⟨none,0,0⟩,((((J.nil E.AI 3).front 1 rfl).front 3 rfl).front 3 rfl).front 4 rfl⟩
section
end
section
variable{H:Type}{enc:TypeId×Value->H}{P:Program}{w:World}{base:Nat}{sp:Nat->Bool}{held:Bool}
def Z8{m:Nat}{t e:TypeId}{b:Option Addr}{l c:Nat}{x:DataW H×List MemPlace}(hu:P.underlying t=some (.slice e))(h:DataW.trod enc P w base sp held m t [.slice b l c]=some x):
  l=0∨ ∃(a:Addr) (L S:List (DataW H)) (n:Nat),b=some a/\x.1= .slice L S/\L.length=l/\ ∀j,j<l-> ∃cs y,w.cells? base (a.add (j*P.cellsOf e)) (P.cellsOf e)=some cs/\DataW.trod enc P w base sp held n e cs=some y/\y.1∈L:=by
 rcases DataW.trod_slice hu h with ⟨h1,_⟩|⟨p,len,cap,elems,rest,m',_,v,T,_,_,_,K,d,_⟩
 .simp only[List.cons.injEq,Value.slice.injEq,and_true]at h1;exact .inl h1.2.1
 .simp only[List.cons.injEq,Value.slice.injEq,and_true]at v;obtain⟨rfl,rfl,rfl⟩:=v;refine .inr ⟨p,_,_,m',rfl,by rw[T],by rw[List.length_map];exact K,λj O=> ?_⟩;have J:=d j O;rw[List.getElem?_eq_getElem (by omega)]at J;cases hl:w.cells? base (p.add (j*P.cellsOf e)) (P.cellsOf e)with
  | none=>rw[hl]at J;cases J
  | some cs=>rw[hl]at J;exact⟨cs,_,rfl,J,List.mem_map.2 ⟨_,List.getElem_mem _,rfl⟩⟩
def eP{m:Nat}{t:TypeId}{d:Array Field}{f:Field}{i:Nat}{cs:List Value}{x:DataW H×List MemPlace}(hu:P.underlying t=some (.struct d))(h:DataW.trod enc P w base sp held m t cs=some x)(hf:d[i]? =some f):
  ∃(L:List (DataW H)) (n:Nat) (y:DataW H×List MemPlace),x.1= .agg L/\y.1∈L/\DataW.trod enc P w base sp held n f.type ((cs.drop f.offset).take (P.cellsOf f.type))=some y:=by
 obtain⟨xs,n,_,J,K,hlen,v⟩:=DataW.trod_struct hu h;have j:=v i f hf;have:i<xs.length:=by have:=(Array.getElem?_eq_some_iff.1 hf).1;omega
 rw[List.getElem?_eq_getElem this]at j;exact⟨_,n,_,by rw[J],List.mem_map.2 ⟨_,List.getElem_mem _,rfl⟩,j⟩
end
end Go.Sh

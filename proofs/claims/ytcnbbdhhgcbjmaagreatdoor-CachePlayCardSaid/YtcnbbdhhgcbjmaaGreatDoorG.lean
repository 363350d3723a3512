/- What the law's functions do. No further condition. -/
import Derived.Test.YtcnbbdhhgcbjmaaGreatDoorJ
import Derived.Test.YtcnbbdhhgcbjmaaGreatDoorL
import Derived.Test.YtcnbbdhhgcbjmaaGreatDoorK
import Derived.Test.YtcnbbdhhgcbjmaaGreatDoorQ
import Derived.Test.YtcnbbdhhgcbjmaaGreatDoorH
import Derived.Test.YtcnbbdhhgcbjmaaGreatDoorA
set_option linter.all false
set_option maxRecDepth 50000
set_option maxHeartbeats 8000000
namespace Go.Sh
section
variable{E:Env}{r:Nat}{V:TV}{Z:List Pr}{w:World}
def Yi(H:Sat (NK E r V::Z) w)(v: ∀p,V.rl p=true->V.fr p=true){p n:Int}(hp:0<=p)(hn:0<n)(hb:p+n<=34359738368)(y: ∀q,p<=q->q<p+n->V.LM q=true)(hf: ∀q,p<=q->q<p+n->V.fr q=false){K:Int->World->Prop}
  (hK: ∀w',Sat (NK E r (V.LN p n)::Z) w'->K 0 w'):F.Ba E (some ⟨r,0,none⟩) p n false K w:=by
 obtain⟨l,⟨j,Au⟩,H⟩:=Sat.nC.1 H;have hr:ID V p n:=⟨by omega,by omega,λm a b=>y m a b⟩;have h0:Ax l p n false 31=0:=(Uu j Au hp (by omega) false (e:=31) (by decide)).2.2.2.2 hr rfl λm a b=>hf m a b;have hg:=j.N7 Au hp (n:=n) (by omega) (by omega);refine Vi H (λq hq=>(j.f q).2 (v q ((j.r q).1 hq))) hp (by omega) (by omega) (by omega) (λh=>absurd h0 h) λ_ w' J=>hK w' ?_;have o1:=(Ft (Au 1 (by decide)) (a:=p) (b:=p+n) (by omega) hp (by omega)).1;refine QS (l:=Sh.N7 l 3 p n) hg.1 (λi y=> ?_) λl' O T Y=>J l' O T Y;have h3:i=0∨i=1∨i=2:=by omega
 rcases h3 with rfl|rfl|rfl
 .exact Au 0 (by decide)
 .exact o1
 .exact Au 2 (by decide)
def Rf(H:Sat (NK E r V::Z) w)(J:Ut V){n:Int}(n0:1<=n)(n1:n<18446744073709551616){K:Int->Int->Int->World->Prop}
  (T:(∀p,¬MD V.fr p n)-> ∀w',Sat (NK E r V::Z) w'->K 0 0 30 w')(Y: ∀p x,HK V n p-> ∀w',Sat (NK E r (V.take p n)::Z) w'->K p x 0 w'):F.B9 E (some ⟨r,0,none⟩) n K w:=by
 obtain⟨l,⟨y,Au⟩,H⟩:=Sat.nC.1 H;have j: ∀p,findL (l 1) n=some p->HK V n p:=λp hp=>by
  obtain⟨h1,h2⟩:=L2 (Au 1 (by decide)) (by omega) hp;have v:=(I9 y).1 h1;have a0:=J.Kl p (J.fi p (v p (Int.le_refl _) (by omega)));have a1:=J.Kl (p+n-1) (J.fi _ (v (p+n-1) (by omega) (by omega)));exact⟨a0.1,by omega,v,λp' aA=>h2 p' ((I9 y).2 aA)⟩
 refine bV H (by omega) n1 (λp _ hp=> ?_) (λh=>by omega) (λ_ hn w' O=>T (λp hp=>Nc (Au 1 (by decide)) (by omega) hn p ((I9 y).2 hp)) w' (Sat.nC.2 ⟨l,⟨y,Au⟩,O⟩)) λ_ p hp w' O=>Y p _ (j p hp) w' (QS (l:=Sh.Pl l p n) (y.Pl (by omega)) (λi hi=> ?_) λl' e0 e1 e2=>O l' e0 e1 e2)
 .have hf:=j p hp;exact⟨(Uu y Au hf.1 (by omega) true (e:=32) (by decide)).2.2.1 ⟨by omega,hf.2.1,λm a b=>J.fi m (hf.2.2.1 m a b)⟩ rfl hf.2.2.1,hf.1,hf.2.1⟩
 .have h3:i=0∨i=1∨i=2:=by omega
  rcases h3 with rfl|rfl|rfl
  .exact Au 0 (by decide)
  .exact G8 (Au 1 (by decide)) (by omega)
  .exact G8 (Au 2 (by decide)) (by omega)
def cJ(H:Sat (NK E r V::Z) w){c n:Int}(y:0<=c)(hn:0<n)(aC:n<=262144)(Y:c+n<=67108864)(hf: ∀p,c*512<=p->p<(c+n)*512->V.LM p=false){K:Int->World->Prop}
  (T: ∀w',Sat (NK E r (V.grow c n)::Z) w'->K 0 w'):F.CT E (some ⟨r,0,none⟩) c n K w:=by
 obtain⟨l,⟨J,Au⟩,H⟩:=Sat.nC.1 H;have h0:cnt (l 0) (c*512) ((c+n)*512)=0:=(Di (Au 0 (by decide)) (by omega)).2 λp h1 h2 hm=>by
  have:=(J.i p).1 hm;grind
 have hg:=J.Wr Au y hn Y;refine gN H y (by omega) (by omega) (by omega) (λh=>by omega) (λ_ h=>absurd h0 h) λ_ _ w' O=>T w' (QS (l:=Wr l c n) hg (λi v=> ?_) λl' a0 a1 a2=>O l' λi v=> ?_)
 .have o: ∀i,i<4->Ok (D9 (l i) (c*512) ((c+n)*512)):=λi v=>(Ft (Au i v) (by omega) (by omega) (by omega)).1;have j:i=0∨i=1∨i=2:=by omega
  rcases j with rfl|rfl|rfl
  .exact o 0 (by decide)
  .exact o 1 (by decide)
  .exact o 2 (by decide)
 .have j:i=0∨i=1∨i=2:=by omega
  rcases j with rfl|rfl|rfl
  .rw[a0];rfl
  .rw[a1];rfl
  .rw[a2];rfl
end
def SI.rs(I:SI):Int×Int×Int×Int×Bool×Int×Int:=(I.base,I.AA,I.state,I.cls,I.G5,I.elem,I.AK)
def A4.congr{E:Env}{q:Nat}{I J:SI}{U M:Nat->Bool}(h:I.rs=J.rs):A4 E q I U M=A4 E q J U M:=by
 unfold SI.rs at h;injection h with h1 h
 injection h with h2 h
 injection h with h3 h
 injection h with h4 h
 injection h with h5 h
 injection h with h6 h7
 have j:Gy I=Gy J:=by funext s1 s2 lk;unfold Gy;grind
 have v:j9 I U M=j9 J U M:=by
  funext ul ml lk;refine propext ⟨λg=>⟨g.u,g.m,by rw[<-h7];exact g.lu,by rw[<-h7];exact g.lm,by rw[<-h7];exact g.Kl,by rw[<-h7];exact g.lk0,g.lk1⟩,λg=>⟨g.u,g.m,by rw[h7];exact g.lu,by rw[h7];exact g.lm,by rw[h7];exact g.Kl,by rw[h7];exact g.lk0,g.lk1⟩⟩
 have y:Vl E q I=Vl E q J:=by funext ul ml s1 s2 lk;unfold Vl;rw[j]
 unfold A4;rw[v,y]
section
variable{E:Env}{h:Nat}{S S':HS}{um um':kB}{g:RG}{Z:List Pr}{w:World}
def rsR.congr{x:Int×Nat}(hs:(S'.sp x.1).map (λy=>y.2.rs)=(S.sp x.1).map (λy=>y.2.rs))(hu:um' x.1=um x.1):rsR E S'.sp um' x=rsR E S.sp um x:=by
 unfold rsR;rw[hu];cases h1:S.sp x.1<;>cases h2:S'.sp x.1<;>rw[h1,h2]at hs
 .cases hs
 .cases hs
 .exact A4.congr (by grind)
def Sat.sT(H:Sat (Lg E h S um::Z) w)(e1:S'.V=S.V)(e2:S'.T=S.T)(v:S'.ca=S.ca)(e4:S'.fx=S.fx)(e5:S'.hint=S.hint)(j: ∀id,(S'.sp id).map (λy=>y.2.rs)=(S.sp id).map λy=>y.2.rs)(J: ∀id,S.sp id≠none->um' id=um id):Sat (Lg E h S' um'::Z) w:=by
 obtain⟨g,hI,H⟩:=Sat.Ie.1 H;have K: ∀id,S'.at id=S.at id:=λid=>by
  have:=j id;unfold HS.at;cases h1:S.sp id<;>cases h2:S'.sp id<;>rw[h1,h2]at this
  .cases this
  .cases this
  .simp only[Option.map_some,SI.rs]at this
   grind
 have O: ∀id,S'.sp id≠none↔S.sp id≠none:=λid=>by
  have:=j id;cases h1:S.sp id<;>cases h2:S'.sp id<;>rw[h1,h2]at this
  .cases this
  .cases this
  grind
 refine Sat.Ie.2 ⟨g,⟨by rw[v];exact hI.q,λid=>by rw[O];exact hI.mem id,?_⟩,?_⟩
 .have:(g.L.map λx=>S'.at x.1)=g.L.map λx=>S.at x.1:=List.map_congr_left λx _=>K x.1;rw[this];exact hI.so
 .have:Ad (rsR E S'.sp um') g.L=Ad (rsR E S.sp um) g.L:=Ad.congr λx Y=>rsR.congr (j x.1) (J x.1 ((hI.mem x.1).1 (List.mem_map.2 ⟨x,Y,rfl⟩)));unfold FD at H⊢
  grind
def T6(H:Sat (FD E h S um g++Z) w): ∃R,Sat (NK E g.t S.T::R) w/\ ∀{j:TV} {w'},Sat (NK E g.t j::R) w'->Sat (FD E h {S with T:=j} um g++Z) w':=
 ⟨_,H.front 2 rfl,λ{j w'} H'=>Sat.back (Ps:=FD E h S um g++Z) 2 H' (by simp[FD])⟩
def gX(H:Sat (FD E h S um g++Z) w): ∃R,Sat (Gz E g.m S.V::R) w/\ ∀{V':VS} {w'},Sat (Gz E g.m V'::R) w'->Sat (FD E h {S with V:=V'} um g++Z) w':=
 ⟨_,H.front 1 rfl,λ{V' w'} H'=>Sat.back (Ps:=FD E h S um g++Z) 1 H' (by simp[FD])⟩
def rhM{R:List Pr}(H:Sat (Cells h E.Ab (Dh g.m g.t g.f g.sl S.hint g.v)::R) w):w.cell? (Addr.mk h 0 none)=some (.pointer (some ⟨g.m,0,none⟩)):=
 H.Aa (o:=0) (rh_0 g.m g.t g.f g.sl S.hint g.v)
def rhF{R:List Pr}(H:Sat (Cells h E.Ab (Dh g.m g.t g.f g.sl S.hint g.v)::R) w):w.cell? ((Addr.mk h 0 none).add 8258)=some (.pointer (some ⟨g.f,0,none⟩)):=
 H.cell (o:=0) (m:=8258) (by rw[Nat.zero_add];exact Yg g.m g.t g.f g.sl S.hint g.v 0)
def rhHint{R:List Pr}(H:Sat (Cells h E.Ab (Dh g.m g.t g.f g.sl S.hint g.v)::R) w):w.cell? ((Addr.mk h 0 none).add 8260)=some (.int .u64 S.hint):=
 H.cell (o:=0) (m:=8260) (by rw[Nat.zero_add];exact Yg g.m g.t g.f g.sl S.hint g.v 2)
def sU(H:Sat (FD E h S um g++Z) w){x:Int}{K:World->Prop}(y: ∀w',Sat (FD E h {S with hint:=x} um g++Z) w'->K w'):stCells ((Addr.mk h 0 none).add 8260) 0 [.int .u64 x] w K:=by
 refine AV H (o:=0) (m:=8260) rfl (by rw[sO];decide) λw' j=>y w' ?_;rw[Nat.zero_add,sP g.m g.t g.f g.sl S.hint g.v 2 (.int .u64 x) (f':=g.f) (sl':=g.sl) (hint':=x) rfl]at j;exact j
def yJ{s:Ac}{R:List Pr}{g:RG}(H:Sat (Cells h E.Ab (Dh g.m g.t g.f g.sl S.hint g.v)::R) w){K:World->Prop}(y: ∀w',Sat (Cells h E.Ab (Dh g.m g.t g.f s S.hint g.v)::R) w'->K w'):stCells ((Addr.mk h 0 none).add 8259) 0 [.slice s.base s.len s.cap] w K:=by
 refine AV H (o:=0) (m:=8259) rfl (by rw[sO];decide) λw' j=>y w' ?_;rw[Nat.zero_add,sP g.m g.t g.f g.sl S.hint g.v 1 (.slice s.base s.len s.cap) (f':=g.f) (sl':=s) (hint':=S.hint) rfl]at j;exact j
def Lm(hI:dL S g)(H:Sat (FD E h S' um g++Z) w)(v:S'.ca=S.ca)(j:S'.sp=S.sp):Sat (Lg E h S' um::Z) w:=by
 refine Sat.Ie.2 ⟨g,⟨by rw[v];exact hI.q,by rw[j];exact hI.mem,?_⟩,H⟩;have:S'.at=S.at:=by funext id;unfold HS.at;rw[j]
 rw[this];exact hI.so
def TJ(H:Sat (Lg E h S um::Z) w){p:Nat}(hp:p<64): ∃(t:Nat) (A D:List Value) (R:List Pr),A.length=2+p*129/\w.cell? ((Addr.mk h 0 none).add 1)=some (.pointer (some ⟨t,0,none⟩))/\Sat (j7 h E.Ab A D (S.ca p)::NK E t S.T::R) w/\
  ∀{y:CS} {J:TV} {w'},Sat (j7 h E.Ab A D y::NK E t J::R) w'->Sat (Lg E h {S with T:=J,ca:=λj=>if j=p then y else S.ca j} um::Z) w':=by
 obtain⟨g,hI,H1⟩:=Sat.Ie.1 H;obtain⟨K,Y⟩:=Sat.sQ (R:=Gz E g.m S.V::NK E g.t S.T::Kt E g.f S.fx::Row E.AZ 2 g.sl (Ao KA g.L)::Ad (rsR E S.sp um) g.L::Z) H1 hI hp;refine⟨g.t,_,_,_,kA g.m g.t g.v hp,xD H1,K.FP 1 rfl,λ{y J w'} H3=> ?_⟩;obtain⟨x,hq,O⟩:=Y (H3.perm (.cons _ (.swap _ _ _)));refine Sat.Ie.2 ⟨{g with v:=Sa g.v p x},⟨λi hi=> ?_,hI.mem,hI.so⟩,O⟩;show sC (if i=p then y else S.ca i) (Sa g.v p x i).1 (Sa g.v p x i).2.1 (Sa g.v p x i).2.2;unfold Sa;by_cases e:i=p
 .grind
 .rw[if_neg e,if_neg e];exact hI.q i hi
def Yj(H:Sat (Lg E h S um::Z) w)(hI:BS S no)(hk:KG S){p n:Int}(n0:1<=n)(n1:n<=134217728){K:Int->Int->World->Prop}
  (a4: ∀page S2,Found S p n page S2->BS S2 (inr page n)->KG S2->0<=page->page+n<=34359738368-> ∀w',Sat (Lg E h S2 um::Z) w'->K page 0 w')(aR: ∀S2,RM S p n S2-> ∀w',Sat (Lg E h S2 um::Z) w'->K 0 13 w'):F.CU E (some ⟨h,0,none⟩) p n K w:=by
 unfold F.CU T0.CU;refine IT (λst w'=>(st.2.1=30/\ ∃S0,Iu S p n S0/\Sat (Lg E h S0 um::Z) w')∨(st.2.1=0/\ ∃S1,dJ S p n st.1 S1/\Sat (Lg E h S1 um::Z) w')) ?_ ?_
 .refine IT (λst w'=>st.1=decide (0<=p/\p<64/\n<16)/\w'=w) ?_ ?_
  .refine AB (λa1=>AB (λa2=>⟨?_,rfl⟩) λa2=>⟨?_,rfl⟩) λa1=>⟨?_,rfl⟩
   .grind
   .grind
   grind
  rintro⟨s,u⟩ _ w6 ⟨hs,rfl⟩;dsimp only at hs⊢;subst hs;refine AB (λhp=> ?_) λhp=>.inl ⟨rfl,S,.inl ⟨hp,rfl⟩,H⟩;obtain⟨p0,aS,a9⟩:=hp;have hi:p.toNat<64:=by omega
  have a7:p=((p.toNat:Nat):Int):=by omega
  refine IT (λ_ w'=> ∃S1,Kb S p.toNat S1/\Sat (Lg E h S1 um::Z) w') ?_ ?_
  .obtain⟨t,A,D,R,hA,Y,H1,O⟩:=TJ H hi;have ha:((Addr.mk h 0 none).add 2).add (Int.toNat p*129)=Addr.mk h A.length none:=by rw[add_add,add_eq,Nat.zero_add,hA]
   have same: ∀{w'},Sat (j7 h E.Ab A D (S.ca p.toNat)::NK E t S.T::R) w'->Sat (Lg E h S um::Z) w':=λ{w'} h'=>by
    have:=O h';rw[jP]at this;exact this
   refine AF ⟨⟨p0,aS⟩,?_⟩;rw[ha];refine Ra H1 (λhe=>AS rfl (AF ⟨⟨p0,aS⟩,AF ⟨some ⟨t,0,none⟩,Y,?_⟩⟩)) λhe=>AO rfl ⟨S,.inr ⟨.inl he,rfl⟩,H⟩
   .rw[ha];refine bZ H1.drew hk.tv.fi hk.tv.rf hk.tv.Kl (λh'=>absurd he h') (λ_ v w' y=>⟨S,.inr ⟨.inr v,rfl⟩,same y⟩) λ_ q hq w' y=>⟨_,.inl ⟨he,q,hq,rfl⟩,O y⟩
  rintro _ _ w9 ⟨S1,hf,H9⟩;obtain⟨t,A,D,R,hA,Y,bE,O⟩:=TJ H9 hi;have ha:((Addr.mk h 0 none).add 2).add (Int.toNat p*129)=Addr.mk h A.length none:=by rw[add_add,add_eq,Nat.zero_add,hA]
  refine AF ⟨⟨p0,aS⟩,?_⟩;rw[ha,AM (n:=n)];refine Ya bE (by omega) (by omega) (λc=>by omega) (λ_ _ v=>.inl ⟨rfl,S1,.inr ⟨p.toNat,hi,a7,a9,hf,v⟩,H9⟩) λ_ _ k hr hl bT w' y=>.inr ⟨rfl,S1.JF p.toNat k n.toNat,.inl ⟨S1,p.toNat,k,hi,a7,a9,hf,hr,hl,bT,rfl,rfl⟩,O y⟩
 rintro⟨pg,e,u⟩ _ w3 J;dsimp only at J⊢;refine IT (λst w'=>(st.2.1=30/\ ∃S0,Iu S p n S0/\(∀q,¬MD S0.T.fr q n)/\Sat (Lg E h S0 um::Z) w')∨(st.2.1=0/\ ∃S1,dJ S p n st.1 S1/\Sat (Lg E h S1 um::Z) w')) ?_ ?_
 .rcases J with ⟨rfl,S0,Y,H3⟩|⟨rfl,S1,hg,H3⟩
  .refine AS rfl ?_;obtain⟨g,hR,H4⟩:=Sat.Ie.1 H3;obtain⟨R,H5,O⟩:=T6 H4;refine AF ⟨some ⟨g.t,0,none⟩,xD H4,?_⟩;refine Rf H5 (Y.ok hk).tv n0 (by omega) (λv w' y=>.inl ⟨rfl,S0,Y,v,Lm hR (O y) rfl rfl⟩) λq x hq w' y=>.inr ⟨rfl,S0.Fp q n,.inr ⟨S0,Y,hq,rfl⟩,Lm hR (O y) rfl rfl⟩
  .exact AO rfl (.inr ⟨rfl,S1,hg,H3⟩)
 clear J;rintro⟨pg,e,u⟩ _ cG J;dsimp only at J⊢;refine IT (λst w'=>st.2.1=0/\ ∃S1,VI S p n st.1 S1/\BS S1 (inr st.1 n)/\KG S1/\0<=st.1/\st.1+n<=34359738368/\Sat (Lg E h S1 um::Z) w') ?_ ?_
 .rcases J with ⟨rfl,S0,Y,v,H3⟩|⟨rfl,S1,hg,H3⟩
  .refine AS rfl ⟨by decide,Am λN hN=> ?_⟩;rw[AI (n:=n+511),Int.tdiv_eq_ediv_of_nonneg (by omega),AI (n:=(n+511)/512),AI]at hN;have hN:N=IF n:=by unfold IF;omega
   subst hN;obtain⟨u1,u2,u3,u4⟩:=sS n0 n1;have i0:=Y.inv hI hk;have k0:=Y.ok hk;obtain⟨g,hR,H4⟩:=Sat.Ie.1 H3.drew;obtain⟨R,H5,O⟩:=gX H4;have hh:=i0.h0;have b9:=i0.h1;refine AF ⟨some ⟨g.m,0,none⟩,rhM H4,AF ⟨S0.hint,rhHint H4,?_⟩⟩;refine WQ H5 hh (by omega) (by omega) (by omega) (λc=>by omega) (λ_ r hr w' y=>AS rfl (aR _ (.inl ⟨S0,Y,v,.inl ⟨r,hr,rfl⟩⟩) w' (Lm hR (O y) rfl rfl)))
    (λ_ hr hu w' y=>AS rfl (aR _ (.inl ⟨S0,Y,v,.inr ⟨hr,hu,rfl⟩⟩) w' (Lm hR (O y) rfl rfl))) λ_ hr a a0 a1 hc cI bF=>AO rfl ?_
   obtain⟨g1,g2,g3,g4,g5,g6⟩:=nL i0 k0 n0 n1 hc (by omega);have bG:=O (bF g2.vv);rw[AI (n:=a+IF n)];refine AF (sU bG λcK aV=>AF ⟨some ⟨g.t,0,none⟩,xD aV,by decide,by decide,?_⟩);rw[Int.tdiv_eq_ediv_of_nonneg (by omega),Int.tdiv_eq_ediv_of_nonneg (by omega),AI (n:=a/512),AI (n:=IF n/512)];obtain⟨R2,bH,aP⟩:=T6 aV;refine cJ bH (by omega) (by omega) (by omega) (by omega) (λq q1 q2=>g6 q (by omega) (by omega)) λcL bI=> ?_;have aW:=aP bI;refine AF ⟨some ⟨g.t,0,none⟩,xD aW,?_⟩;obtain⟨R3,bJ,bR⟩:=T6 aW;refine Rf bJ g2.tv n0 (by omega) (λv w' y=>absurd g3 (v a)) λq x hq w' y=> ?_;have j1:=g1.Fp g2 hq.2.2.1;exact⟨rfl,_,.inr ⟨S0,_,Y,v,⟨hr,a,hc,rfl⟩,hq,rfl⟩,j1,g2.Fp (by omega),hq.1,hq.2.1,Lm hR (bR y) rfl rfl⟩
  .obtain⟨j1,j2,j3,j4⟩:=hg.inv hI hk n0;exact AO rfl ⟨rfl,S1,.inl hg,j1,j2,j3,j4,H3⟩
 clear J;rintro⟨pg,e,u⟩ _ cH ⟨e0,S1,Y,aG,j,aD,aE,aU⟩;dsimp only at e0 Y aG aD aE⊢;subst e0;refine AO rfl ?_;obtain⟨g,hR,H4⟩:=Sat.Ie.1 aU;obtain⟨R,H5,O⟩:=gX H4;refine AF ⟨some ⟨g.m,0,none⟩,rhM H4,?_⟩;have hl: ∀q,pg<=q->q<pg+n->mem S1.V.laid q:=λq q1 q2=>(aG.la q).2 (aG.li q (Ai.2 ⟨q1,q2⟩));have bS:cnt S1.V.laid pg (pg+n)=n:=by
  have:=(FI j.vv.ME (a:=pg) (b:=pg+n) (by omega)).2 hl;omega
 have aQ:cnt S1.V.ready pg (pg+n)=n↔Ke S1 pg n:=by
  have:=FI j.vv.Pm (a:=pg) (b:=pg+n) (by omega);rw[show pg+n-pg=n by omega]at this;exact this
 have bV:Jl pg n:=⟨by omega,aE⟩;refine Ye H5 aD (by omega) (by omega) (by omega) (λc=>absurd bV c) (λ_ c=>absurd bS c) (λ_ _ c w' y=>AO rfl (a4 pg S1 ⟨S1,Y,.inl ⟨aQ.1 c,rfl⟩⟩ aG j aD aE w' (Lm hR (O y) rfl rfl)))
  (λ_ _ c r hr aT aJ=>AS rfl ?_) λ_ _ c hr aT aJ=>AO rfl (a4 pg _ ⟨S1,Y,.inr ⟨λx=>c (aQ.2 x),hr,rfl⟩⟩ (aG.QK j aD (by omega) aE λq q1 q2=>Ai.2 ⟨q1,q2⟩) ⟨j.tv,j.vv.QK aD (by omega) aE hl,j.ci,j.ok,j.fx⟩ aD aE aT (Lm hR (O (aJ (j.vv.QK aD (by omega) aE hl))) rfl rfl))
 have bU: ¬Ke S1 pg n:=λx=>c (aQ.2 x);have bK:Sat (Lg E h {S1 with V:={S1.V with rf:=r}} um::Z) aT:=Lm hR (O aJ) rfl rfl;clear aJ O H5 H4 hR aU R g;have aO:BS {S1 with V:={S1.V with rf:=r}} (inr pg n):=aG.vZ rfl rfl;have aI:KG {S1 with V:={S1.V with rf:=r}}:=⟨j.tv,⟨j.vv.ME,j.vv.Pm,j.vv.V3,j.vv.rl,j.vv.el,j.vv.re,j.vv.Kl,j.vv.clean,j.vv.sums⟩,j.ci,j.ok,j.fx⟩;have aL:=λw' (y:Sat (Lg E h (({S1 with V:={S1.V with rf:=r}}:HS).FZ pg n) um::Z) w')=>aR _ (.inr ⟨S1,pg,r,Y,bU,hr,rfl⟩) w' y;generalize hS2:({S1 with V:={S1.V with rf:=r}}:HS)=S2 at bK aO aI aL;refine AJ (λst w'=> ∃i:Int,st.1=pg+i/\0<=i/\i<=n/\Sat (Lg E h (S2.FZ pg i) um::Z) w') (λst _=>(pg+n-st.1).toNat) ⟨0,by omega,Int.le_refl _,by omega,?_⟩ ?_
 .have:S2.FZ pg 0=S2:=by
   have e: ∀q,inr pg 0 q=false:=λq=>by rw[Is];omega
   unfold HS.FZ;simp only[e,Bool.or_false,Bool.false_and]
  grind
 rintro⟨_,u⟩ _ b0 ⟨i,rfl,i0,i1,aX⟩;dsimp only;rw[AI (n:=pg+n)];refine AB (λcA=> ?_) λb7=> ?_
 .obtain⟨g,hR,H4⟩:=Sat.Ie.1 aX.drew;obtain⟨R,H5,O⟩:=gX H4;refine AF ⟨some ⟨g.t,0,none⟩,xD H4,AF ⟨some ⟨g.m,0,none⟩,rhM H4,?_⟩⟩;refine cD H5 λcM bL=> ?_;have aY:=O bL;refine⟨xD aY,?_⟩;obtain⟨R2,bM,aP⟩:=T6 aY;have a6:=aO.Po aI (p:=pg+i) (Ai.2 ⟨by omega,by omega⟩);have a3:=aO.li (pg+i) (Ai.2 ⟨by omega,by omega⟩);refine YZ bM (λq hq=> ?_) (by omega) (by omega) a3 ?_ λcN bN=> ?_
  .have hq:(S2.T.rl q||(inr pg i q&& !N8 S2.V.ready q))=true:=hq;show(S2.T.fr q||inr pg i q)=true;rw[Bool.or_eq_true_iff]at hq⊢;rcases hq with hq|hq
   .exact .inl (aI.tv.rf q hq)
   grind
  .show(S2.T.fr (pg+i)||inr pg i (pg+i))=false;rw[a6.1,Bool.false_or,Is];omega
  .rw[AI (n:=pg+i+1)];refine⟨⟨i+1,by omega,by omega,by omega,?_⟩,by omega⟩;have aZ:=Lm (S':={S2.FZ pg i with T:=_}) hR (aP bN) rfl rfl;have e:(if((ZA (S2.FZ pg i).V (pg+i)) !=2)=true then(S2.FZ pg i).T.back (pg+i) 1 else(S2.FZ pg i).T.LN (pg+i) 1)=(S2.FZ pg (i+1)).T:=by
    have bW:((ZA (S2.FZ pg i).V (pg+i)) !=2)= !N8 S2.V.ready (pg+i):=by
     show(ZA S2.V (pg+i) !=2)=_;cases hr:N8 S2.V.ready (pg+i)with
     | true=>rw[sM aI.vv (Bh.1 hr)];rfl
     | false=>
      have:ZA S2.V (pg+i)≠2:=by
       rcases PX aI.vv (pg+i)with c|c|c|c
       .omega
       .omega
       .rw[Bh.2 c.2.2.1]at hr;cases hr
       omega
      grind
    rw[bW];have aM: ∀q,inr pg (i+1) q=(inr pg i q||inr (pg+i) 1 q):=λq=>by
     rw[Bool.eq_iff_iff,Bool.or_eq_true_iff,Ai,Ai,Ai];omega
    cases hr:N8 S2.V.ready (pg+i)with
    | true=>
     rw[if_neg (by simp)];unfold TV.LN HS.FZ;dsimp only;congr 1
     .grind
     .funext q;rw[aM];by_cases e:q=pg+i
      .grind
      .have:inr (pg+i) 1 q=false:=by rw[Is];omega
       grind
    | false=>
     rw[if_pos (by simp)];unfold TV.back HS.FZ;dsimp only;congr 1
     .grind
     .funext q;rw[aM];by_cases e:q=pg+i
      .grind
      .have:inr (pg+i) 1 q=false:=by rw[Is];omega
       grind
   rw[e]at aZ;exact aZ
 .obtain rfl:i=n:=by omega
  exact aL b0 aX
end
def LW(um:kB)(id:Int)(U M:Nat->Bool):kB:=λi=>if i=id then(U,M)else um i
section
variable{E:Env}{h:Nat}{S S':HS}{um um':kB}{g:RG}{Z:List Pr}{w:World}
def atK(S:HS)(x:Int×Nat):Int:=S.at x.1
def dL.IJ(hI:dL S g):JH (atK S) g.L:=List.pairwise_map.1 hI.so
def dL.nd(hI:dL S g):(g.L.map (·.1)).Nodup:=List.pairwise_map.2 (List.Pairwise.imp (λ{a b} hab e=>by unfold atK at hab;grind) hI.IJ)
def dL.JI{fl:Int->Bool}(hI:dL S g)(j:BS S fl):g.L.length<1099511627776:=by
 have:=j.JI _ hI.nd λn v=>(hI.mem n).1 v
 grind
def rhadd_spec{q:Nat}{I:SI}{page n:Int}{U M:Nat->Bool}(H:Sat (A4 E q I U M::Lg E h S um::Z) w)(J:BS S (inr page n))(hk:KG S)(n0:0<n)(i1:I.base=page*8192){K:Int->World->Prop}
  (hK: ∀id X,Next S id X-> ∀w',(∀b,Sat (Lg E h (S.Cr id (b,I) page n X) (LW um id U M)::Z) w')->K id w'):F.C9 E (some ⟨h,0,none⟩) (some ⟨q,0,none⟩) K w:=by
 obtain⟨g,hI,H1⟩:=Sat.Ie.1 (H.perm (.swap _ _ _));unfold F.C9 T0.C9;have bZ:=hI.JI J;have cJ:=J.fb;have key: ∀id X,Next S id X-> ∀w4,Sat (FD E h {S with fx:=X} um g++A4 E q I U M::Z) w4->
   An (Int×Unit) (λJ5=>
  A9 (Int×Unit) (0,()) w4 λs8 _ w9 aG=>
   NC (some (Addr.mk h 0 none)) λbL=>
   ∃aJ:Ac,w9.drew.cell? (bL.add 8259)=some (.slice aJ.base aJ.len aJ.cap)/\
   CND (decide ((s8.1:Int)<((aJ.len:Nat):Int))) (
    NC (some (Addr.mk h 0 none)) λbM=>
    ∃aE:Ac,w9.drew.cell? (bM.add 8259)=some (.slice aE.base aE.len aE.cap)/\
    NC aE.base λbN=>
    ((0:Int)<=s8.1/\(s8.1:Int)<(aE.len:Nat))/\
    ∃a5:(Option Addr),w9.drew.cell? ((bN.add (Int.toNat s8.1*2)).add 1)=some (.pointer a5)/\
    NC a5 λbO=>
    ∃a6:Int,w9.drew.cell? bO=some (.int .u64 a6)/\
    NC (some (Addr.mk q 0 none)) λbP=>
    ∃a7:Int,w9.drew.cell? bP=some (.int .u64 a7)/\
    CND (decide ((a6:Int)<a7)) (
     aG (i64 (s8.1+1),()) w9.drew
    ) (
     J5 (s8.1,()) w9.drew
    )
   ) (
    J5 (s8.1,()) w9.drew
   )
 ) λs6 _ w7=>
  AL (.cells ⟨[]⟩ E.AZ) w7 λaW aQ=>
  NC (some (Addr.mk h 0 none)) λbQ=>
  ∃aA:Ac,aQ.cell? (bQ.add 8259)=some (.slice aA.base aA.len aA.cap)/\
  ((0:Int)<=s6.1/\(s6.1:Int)<=(aA.cap:Nat))/\
  APP E.AZ 2 16 #[.int .i64 0,.pointer none] ⟨(some (Addr.mk aW 0 none)),0,0⟩ ⟨(HU aA.base aA.cap 0 2),(Int.toNat s6.1),aA.cap⟩ aQ λdH a2=>
  AL (.cells ⟨[.int .i64 id,.pointer (some (Addr.mk q 0 none))]⟩ E.AZ) a2 λaX a3=>
  APP E.AZ 2 16 #[.int .i64 0,.pointer none] dH ⟨(some (Addr.mk aX 0 none)),1,1⟩ a3 λKD aR=>
  NC (some (Addr.mk h 0 none)) λbR=>
  ∃Y:Ac,aR.cell? (bR.add 8259)=some (.slice Y.base Y.len Y.cap)/\
  ((0:Int)<=s6.1/\(s6.1:Int)<=(Y.len:Nat))/\
  APP E.AZ 2 16 #[.int .i64 0,.pointer none] KD ⟨(HU Y.base Y.cap (Int.toNat s6.1) 2),(Y.len-(Int.toNat s6.1)),(Y.cap-(Int.toNat s6.1))⟩ aR λQC a4=>
  NC (some (Addr.mk h 0 none)) λbS=>
  stCells (bS.add 8259) 0 [.slice QC.base QC.len QC.cap] a4 λaH=>
  K id aH:=by
  intro id X hX w4 H4;obtain⟨T7,bI,_⟩:=hX.live hk J;have aP: ∀x∈g.L,∃y,S.sp x.1=some y/\x.1≠id/\0<=y.2.base/\S.at x.1=y.2.base/\y.2.base %8192=0/\y.2.base/8192≠page:=λx O=>by
   obtain⟨y,hy⟩:=Option.ne_none_iff_exists'.1 ((hI.mem x.1).1 (List.mem_map.2 ⟨x,O,rfl⟩));have hs:=J.sp x.1 y hy;have h1:=hs.2.2.2.2 (y.2.base/8192) (Int.le_refl _) (by omega);have cL:=hk.tv.Kl _ (J.ow _ (by omega:0<S.own (y.2.base/8192))).1;refine⟨y,hy,λe=>(by grind),by omega,HS.jY hy,hs.2.1,λe=> ?_⟩;have:=(J.Po hk (p:=page) (Ai.2 ⟨Int.le_refl _,by omega⟩)).2.2.1
   grind
  refine IT (λst w'=> ∃i:Nat,st.1=(i:Int)/\i<=g.L.length/\(∀(j:Nat) x,g.L[j]? =some x->j<i->S.at x.1<page*8192)/\(∀x,g.L[i]? =some x->page*8192<S.at x.1)/\Sat (FD E h {S with fx:=X} um g++A4 E q I U M::Z) w') ?_ ?_
  .refine AJ (λst w'=>Sat (FD E h {S with fx:=X} um g++A4 E q I U M::Z) w'/\ ∃i:Nat,st.1=(i:Int)/\i<=g.L.length/\(∀(j:Nat) x,g.L[j]? =some x->j<i->S.at x.1<page*8192)) (λst _=>((g.L.length:Int)-st.1).toNat) ⟨H4,0,rfl,Nat.zero_le _,λj q _ hj=>by omega⟩ ?_;rintro⟨i',u⟩ _ w9 ⟨H9,i,hi,aC,aB⟩;dsimp only at hi⊢;subst hi;have Hd:=H9.drew;have hl:=Nx (Hd.front 4 rfl);refine AF ⟨g.sl,dM Hd,AB (λbJ=>AF ⟨g.sl,dM Hd,?_⟩) λcK=>⟨i,rfl,aC,aB,λx O=> ?_,Hd⟩⟩
   .obtain⟨x,O⟩: ∃x,g.L[i]? =some x:=⟨_,List.getElem?_eq_getElem (by omega)⟩;obtain⟨b,hb⟩:=(Hd.front 4 rfl).FY (by decide) Bz (i:=i) (by omega);rw[hb];obtain⟨y,hy,aO,yb,cI,hm,cO⟩:=aP x (List.mem_of_getElem? O);obtain⟨y',R',bK,h1⟩:=kC (S:={S with fx:=X}) (Hd.front 5 rfl) ⟨hI.q,hI.mem,hI.so⟩ O;have e:y'=y:=by
     have:S.sp x.1=some y':=bK
     grind
    subst e;obtain⟨ul,ml,s1,s2,lk,cH,h2⟩:=Sat.Hb.1 h1;obtain⟨cV,cS,cT,cU,cR,_,h3⟩:=Sat.Hb.1 (Hd.front 6 rfl);refine AF ⟨⟨by omega,bJ⟩,some ⟨x.2,0,none⟩,?_,AF ⟨_,h2.Aa rfl,AF ⟨_,h3.Aa rfl,?_⟩⟩⟩
    .have:=(Hd.front 4 rfl).Bp Bz hb O (j:=1) rfl;rw[add_add];exact this
    have eI:I.base/8192=page:=by omega
    rw[eI];refine AB (λb3=> ?_) λb0=>⟨i,rfl,aC,aB,λz hz=> ?_,Hd⟩
    .rw[AM (n:=(i:Int)+1)];refine⟨⟨Hd,i+1,by omega,by omega,λj z hz hj=> ?_⟩,by omega⟩
     grind
    grind
   grind
  rintro⟨i',u⟩ _ w7 ⟨i,hi,aC,aB,aZ,H7⟩;dsimp only at hi⊢;subst hi;have cN:=(H7.front 4 rfl).Gb (by decide) Bz;refine IU (n:=0) (z:=2) H7 rfl (by decide) λaW aQ H8=>AF ⟨g.sl,dM (H8.front 1 rfl),⟨by omega,by omega⟩,?_⟩;rw[Int.toNat_natCast];have aD: ∀(x:Int×Nat),∀v∈KA x,v.oneCell'=true:=λx v hv=>by
   simp only[KA,List.mem_cons,List.not_mem_nil,or_false]at hv;rcases hv with rfl|rfl<;>rfl
  refine Gq (x:=⟨HU g.sl.base g.sl.cap 0 2,i,g.sl.cap⟩) (news:=Ao KA (g.L.take i)) H8 rfl ((H8.front 5 rfl).RC (by decide) Bz aC) (by rw[D8 Bz,List.length_take];grind) (IE aD _) (by grind) (by grind) λdH a2 aT a1=> ?_;rw[List.nil_append]at aT;dsimp only at a1;refine AQ (vs:=[.int .i64 id,.pointer (some (Addr.mk q 0 none))]) aT λaX a3 a9 _=>GD (news:=[.int .i64 id,.pointer (some (Addr.mk q 0 none))]) a9 rfl rfl (aD (id,q)) (by omega) (by omega) λKD aR aM b1=> ?_;refine AF ⟨g.sl,dM (aM.front 1 rfl),⟨by omega,by omega⟩,?_⟩;refine Gq (x:=⟨HU g.sl.base g.sl.cap i 2,g.sl.len-i,g.sl.cap-i⟩) (news:=Ao KA (g.L.drop i)) aM rfl ((aM.front 5 rfl).RD (by decide) Bz aC) (by rw[D8 Bz,List.length_drop];grind) (IE aD _) (by grind) (by grind) λQC a4 aU _=> ?_;have e3:Ao KA (g.L.take i)++[Value.int .i64 id,.pointer (some (Addr.mk q 0 none))]++Ao KA (g.L.drop i)=Ao KA (g.L.take i++[(id,q)]++g.L.drop i):=by
   rw[F9,F9];rfl
  rw[e3]at aU;refine AF (yJ (s:=QC) (aU.front 1 rfl) λaH bA=>hK id X hX aH λb=> ?_);have aY:(g.L.take i++[(id,q)]++g.L.drop i).Perm ((id,q)::g.L):=by
   have h1:(g.L.take i++[(id,q)]++g.L.drop i).Perm ([(id,q)]++(g.L.take i++g.L.drop i)):=by grind
   rw[List.take_append_drop]at h1;exact h1
  have bB:=(bA.front 5 rfl).tail;have bC:=(bB.front 5 rfl).FP 5 rfl;have bD:=bC.perm (.swap _ _ _);have e4:Ad (rsR E S.sp um) g.L=Ad (rsR E (S.Cr id (b,I) page n X).sp (LW um id U M)) g.L:=Ad.congr λx O=>by
   obtain⟨y,hy,aO,_⟩:=aP x O;refine(rsR.congr (S:=S) (S':=S.Cr id (b,I) page n X) (um:=um) (um':=LW um id U M) ?_ ?_).symm
   .show Option.map _ (if x.1=id then some (b,I)else S.sp x.1)=_
    grind
   .unfold LW;rw[if_neg aO]
  have e5:A4 E q I U M=rsR E (S.Cr id (b,I) page n X).sp (LW um id U M) (id,q):=by
   unfold rsR LW;have:(S.Cr id (b,I) page n X).sp id=some (b,I):=if_pos rfl
   grind
  have aV:Sat (A4 E q I U M::Ad (rsR E S.sp um) g.L::Cells h E.Ab (Dh g.m g.t g.f QC S.hint g.v)::Row E.AZ 2 QC (Ao KA (g.L.take i++[(id,q)]++g.L.drop i))::Gz E g.m S.V::NK E g.t S.T::Kt E g.f X::Z) aH:=bD;rw[e4,e5]at aV;have bE:=(Sat.KP.2 aV).KO aY.symm;have bF:=((((bE.front 2 rfl).front 5 rfl).front 5 rfl).front 5 rfl).front 5 rfl;refine Sat.Ie.2 ⟨{g with sl:=QC,L:=g.L.take i++[(id,q)]++g.L.drop i},⟨hI.q,λj=> ?_,?_⟩,bF⟩
  .show j∈(g.L.take i++[(id,q)]++g.L.drop i).map (·.1)↔(if j=id then some (b,I)else S.sp j)≠none;rw[(aY.map (·.1)).mem_iff,List.map_cons,List.mem_cons,hI.mem]
   grind
  .have aK: ∀x∈g.L,(S.Cr id (b,I) page n X).at x.1=S.at x.1:=λx O=>by
    obtain⟨y,hy,aO,_⟩:=aP x O;unfold HS.at;show(match(if x.1=id then some (b,I)else S.sp x.1)with|some x=>x.2.base|none=>0)=_
    grind
   have bY:(S.Cr id (b,I) page n X).at id=page*8192:=by
    have:(S.Cr id (b,I) page n X).sp id=some (b,I):=if_pos rfl;rw[HS.jY this];exact i1
   have ht: ∀x∈g.L.take i,x∈g.L/\S.at x.1<page*8192:=λx O=>by
    obtain⟨j,hj⟩:=List.mem_iff_getElem?.1 O
    grind
   have hd: ∀x∈g.L.drop i,x∈g.L/\page*8192<S.at x.1:=λx O=>by
    obtain⟨j,hj⟩:=List.mem_iff_getElem?.1 O;rw[List.getElem?_drop]at hj;refine⟨List.mem_of_getElem? hj,?_⟩;have cM:=(List.getElem?_eq_some_iff.1 hj).1;obtain⟨z,hz⟩: ∃z,g.L[i]? =some z:=⟨_,List.getElem?_eq_getElem (by omega)⟩;have:=aZ z hz;by_cases e:j=0
    .grind
    .have:=hI.IJ.lt hz hj (by omega);unfold atK at this;omega
   show((g.L.take i++[(id,q)]++g.L.drop i).map λx=>(S.Cr id (b,I) page n X).at x.1).Pairwise (· < ·);have e6:((g.L.take i++[(id,q)]++g.L.drop i).map λx=>(S.Cr id (b,I) page n X).at x.1)=(g.L.take i).map (λx=>S.at x.1)++[page*8192]++(g.L.drop i).map λx=>S.at x.1:=by
    rw[List.map_append,List.map_append,List.map_congr_left (l:=g.L.take i) (g:=λx=>S.at x.1) λx O=>aK x (ht x O).1,List.map_congr_left (l:=g.L.drop i) (g:=λx=>S.at x.1) λx O=>aK x (hd x O).1]
    grind
   rw[e6,List.pairwise_append,List.pairwise_append];refine⟨⟨?_,List.pairwise_singleton _ _,λa ha c hc=> ?_⟩,?_,λa ha c hc=> ?_⟩
   .exact List.pairwise_map.2 (hI.IJ.take i)
   .obtain⟨x,O,rfl⟩:=List.mem_map.1 ha;rw[List.mem_singleton.1 hc];grind
   .exact List.pairwise_map.2 (hI.IJ.drop i)
   .obtain⟨y,hy,rfl⟩:=List.mem_map.1 hc;have h2:=(hd y hy).2
    grind
 refine AF ⟨some ⟨g.f,0,none⟩,rhF H1,?_⟩;have bk: ∀{X:FX} {w'},Sat (Kt E g.f X::(FD E h S um g++A4 E q I U M::Z).eraseIdx 3) w'->Sat (FD E h {S with fx:=X} um g++A4 E q I U M::Z) w':=λ{X w'} h'=>Sat.back (Ps:=FD E h S um g++A4 E q I U M::Z) 3 h' (by simp[FD]);exact cA (H1.front 3 rfl) (by omega) (λhb w' H'=>key _ _ (.inl ⟨hb,rfl,rfl⟩) w' (bk H')) λa r hb w' H'=>key _ _ (.inr ⟨a,r,hb,rfl,rfl⟩) w' (bk H')
def Rh(H:Sat (Lg E h S um::Z) w)(hI:BS S no)(hk:KG S){p n c:Int}{np:Bool}(n0:0<=n)(n1:n<18446744073709551616){K:Int->Int->World->Prop}
  (aB:Gl 0 n c-> ∀w',Sat (Lg E h S um::Z) w'->K 0 1 w')
  (aC: ¬Gl 0 n c-> ∀S2,RM S p n S2-> ∀w',Sat (Lg E h S2 um::Z) w'->K 0 13 w')
  (aD: ¬Gl 0 n c-> ∀page S2 id X,Found S p n page S2->Next S2 id X-> ∀w',(∀b,Sat (Lg E h (S2.Cr id (b,Gx page n c np) page n X) (LW um id noU noU)::Z) w')->K id 0 w'):
  F.CV E (some ⟨h,0,none⟩) p n c np K w:=by
 unfold F.CV T0.CV;refine Vm H (by decide) n0 n1 (λj w3 O=>AS rfl (aB j w3 O)) λj b w3 O=>AO rfl ?_;have aA:=j;unfold Gl at aA;have hn:n<=134217728:=by
  by_cases c0:c=0
  .omega
  .have:=(Ia (c:=c) (by omega) (by omega)).2;omega
 refine Yj O.tail hI hk (by omega) hn (λpage S2 hF Y y p0 p1 w6 T=>AO rfl ?_) λS2 hL w6 T=>AS rfl (aC j S2 hL w6 T);refine Vm T p0 n0 n1 (λv=> ?_) λ_ b2 w9 H9=> ?_
 .unfold Gl at v;omega
 .exact rhadd_spec H9 Y y (by omega) rfl λid X hX aE J=>aD j page S2 id X hF hX aE J
end
section
variable{E:Env}{h:Nat}{S S':HS}{um um':kB}{g:RG}{Z:List Pr}{w:World}
def Z9.len{X:FX}(h:Z9 X):X.bk.length<=X.n:=by
 have:=VK X.n (X.bk.map λa:Nat=>(a:Int)+1) (List.pairwise_map.2 (List.Pairwise.imp (λ{a b} hab e=>hab (by omega)) h.nd)) λn v=>by
  obtain⟨a,j,rfl⟩:=List.mem_map.1 v;have:=h.lt a j;omega
 grind
def cK(H:Sat (Lg E h S um::Z) w)(J:BS S no)(hk:KG S){id:Int}{K:Int->World->Prop}(aW:S.sp id=none-> ∀w',Sat (Lg E h S um::Z) w'->K 35 w')
  (aX: ∀x,S.sp id=some x->0<cN (um id).1 x.2.AK.toNat-> ∀w',Sat (Lg E h S um::Z) w'->K 33 w')
  (aY: ∀x,∀a:Nat,S.sp id=some x->cN (um id).1 x.2.AK.toNat=0->id=(a:Int)+1-> ∀w',Sat (Lg E h (S.free a (x.2.base/8192) x.2.AA) um::Z) w'->K 0 w'):F.B7 E (some ⟨h,0,none⟩) id K w:=by
 have H0:=H;obtain⟨g,hI,H⟩:=Sat.Ie.1 H;have aG:=hI.JI J;unfold F.B7 T0.B7;refine TH H hI aG (λhs=>AS rfl (aW hs w H0)) λi q hi=> ?_;have hl:=Nx (H.front 4 rfl);have bC:=(H.front 4 rfl).Gb (by decide) Bz;have aC:=(List.getElem?_eq_some_iff.1 hi).1;obtain⟨b,hb⟩:=(H.front 4 rfl).FY (by decide) Bz (i:=i) aC;refine AO (decide_eq_false (by omega)) (AF ⟨g.sl,dM H,?_⟩)
 try dsimp only
 rw[hb];have hc:w.cell? ((((Addr.mk b 0 none).add (Int.toNat (i:Int)*2))).add 1)=some (.pointer (some ⟨q,0,none⟩)):=by
  have:=(H.front 4 rfl).Bp Bz hb hi (j:=1) rfl;rw[add_add];exact this
 refine AF ⟨⟨by omega,by omega⟩,some ⟨q,0,none⟩,hc,?_⟩;have hm:id∈g.L.map (·.1):=List.mem_map.2 ⟨(id,q),List.mem_of_getElem? hi,rfl⟩;obtain⟨x,hx⟩:=Option.ne_none_iff_exists'.1 ((hI.mem id).1 hm);have aI:=J.sp id x hx;have h1:=(H.front 5 rfl).HA hi;have e:rsR E S.sp um (id,q)=A4 E q x.2 (um id).1 (um id).2:=by unfold rsR;grind
 rw[e]at h1;refine gS h1 aI.2.2.2.1 (λhu=>AS rfl (aX x hx hu w H0)) λhu w8 c0 c1 H8=>AO rfl ?_;obtain⟨a,ha,aU,aV⟩:=(J.sf id).1 (by grind);generalize hP:x.2.base/8192=P at *
 generalize hN:x.2.AA=N at *
 have O: ∀r,P<=r->r<P+N->S.T.LM r=true/\S.T.fr r=false:=λr r1 r2=>by
  have:=J.ow r (by grind)
  grind
 have aZ:=hk.tv.Kl P (O P (Int.le_refl _) (by omega)).1;have bE:=hk.tv.Kl (P+N-1) (O (P+N-1) (by omega) (by omega)).1;have bD: ∀y∈g.L.eraseIdx i,y.1≠id:=λy hy e=>by
  have h2:=(DV hi).map (·.1);have h3:=h2.nodup_iff.1 hI.nd
  grind
 generalize hS1:S.free a P N=S1;have s1:S1.T=S.T.LN P N:=by rw[<-hS1];rfl
 have s2:S1.fx=⟨S.fx.n,a::S.fx.bk⟩:=by rw[<-hS1];rfl
 have s3: ∀j,S1.sp j=if j=id then none else S.sp j:=λj=>by rw[<-hS1,ha];rfl
 have s4:S1.V=S.V/\S1.ca=S.ca/\S1.hint=S.hint:=by rw[<-hS1];exact⟨rfl,rfl,rfl⟩
 have e2:Ad (rsR E S.sp um) (g.L.eraseIdx i)=Ad (rsR E S1.sp um) (g.L.eraseIdx i):=Ad.congr λy hy=>by
  refine(rsR.congr ?_ rfl).symm
  grind
 have H9:=Sat.back (Ps:=[Cells h E.Ab (Dh g.m g.t g.f g.sl S.hint g.v),Gz E g.m S.V,NK E g.t S.T,Kt E g.f S.fx,Row E.AZ 2 g.sl (Ao KA g.L),iN]++Z) 5 (P':=Ad (rsR E S1.sp um) (g.L.eraseIdx i)) (by rw[<-e2];exact H8) (by simp);have H9:Sat (Cells h E.Ab (Dh g.m g.t g.f g.sl S.hint g.v)::Gz E g.m S.V::NK E g.t S.T::Kt E g.f S.fx::Row E.AZ 2 g.sl (Ao KA g.L)::Ad (rsR E S1.sp um) (g.L.eraseIdx i)::Z) w8.drew:=H9.drew;refine AF ⟨some ⟨g.t,0,none⟩,xD H9,AF ⟨_,c0,AF ⟨_,c1,?_⟩⟩⟩;refine Yi (H9.front 2 rfl) hk.tv.rf aZ.1 aI.2.2.1 (by omega) (λr r1 r2=>(O r r1 r2).1) (λr r1 r2=>(O r r1 r2).2) λbF aM=> ?_;have aE:=aM.front 1 rfl;refine AF ⟨some ⟨g.f,0,none⟩,rhF aE,?_⟩;rw[ha];have bB:=J.fb;have a9:=hk.fx.len;refine cB (aE.front 3 rfl) aU aV (by omega) λbG aN=> ?_;have aO:=aN.front 1 rfl;refine IU (n:=0) (z:=2) aO rfl (by decide) λa7 bH aB=>AF ⟨g.sl,dM (aB.front 1 rfl),⟨by omega,by omega⟩,?_⟩;rw[Int.toNat_natCast];have aA: ∀(x:Int×Nat),∀v∈KA x,v.oneCell'=true:=λx v hv=>by
  simp only[KA,List.mem_cons,List.not_mem_nil,or_false]at hv;rcases hv with rfl|rfl<;>rfl
 refine Gq (x:=⟨HU g.sl.base g.sl.cap 0 2,i,g.sl.cap⟩) (news:=Ao KA (g.L.take i)) aB rfl ((aB.front 5 rfl).RC (by decide) Bz (Nat.le_of_lt aC)) (by rw[D8 Bz,List.length_take];grind) (IE aA _) (by grind) (by grind) λdH bI Y aH=> ?_;rw[List.nil_append]at Y;dsimp only at aH;rw[AM (n:=(i:Int)+1)];refine AF ⟨g.sl,dM (Y.front 1 rfl),⟨by omega,by omega⟩,?_⟩;rw[show Int.toNat ((i:Int)+1)=i+1 by omega];refine Gq (x:=⟨HU g.sl.base g.sl.cap (i+1) 2,g.sl.len-(i+1),g.sl.cap-(i+1)⟩) (news:=Ao KA (g.L.drop (i+1))) Y rfl ((Y.front 5 rfl).RD (by decide) Bz aC) (by rw[D8 Bz,List.length_drop];grind) (IE aA _) (by grind) (by grind) λKD bJ aF _=> ?_;rw[<-F9,<-List.eraseIdx_eq_take_drop_succ]at aF;refine AF (yJ (s:=KD) (aF.front 1 rfl) λaJ aP=> ?_);have aQ:=(aP.front 5 rfl).tail;have aR:Sat (Cells h E.Ab (Dh g.m g.t g.f KD S.hint g.v)::Row E.AZ 2 KD (Ao KA (g.L.eraseIdx i))::Kt E g.f ⟨S.fx.n,a::S.fx.bk⟩::NK E g.t (S.T.LN P N)::Gz E g.m S.V::Ad (rsR E S1.sp um) (g.L.eraseIdx i)::Z) aJ:=aQ;have aS:=((((aR.front 1 rfl).front 2 rfl).front 3 rfl).front 4 rfl).front 4 rfl;refine aY x a hx hu ha aJ ?_;rw[hP,hN,hS1];refine Sat.Ie.2 ⟨{g with sl:=KD,L:=g.L.eraseIdx i},⟨by rw[s4.2.1];exact hI.q,λj=> ?_,?_⟩,?_⟩
 .rw[s3];by_cases e:j=id
  .rw[if_pos e];exact⟨λc=>by obtain⟨y,hy,e2⟩:=List.mem_map.1 c;grind,λc=>absurd rfl c⟩
  .rw[if_neg e,<-hI.mem j,((DV hi).map (·.1)).mem_iff,List.map_cons,List.mem_cons]
   grind
 .have e6:((g.L.eraseIdx i).map λx=>S1.at x.1)=(g.L.eraseIdx i).map λx=>S.at x.1:=List.map_congr_left λy hy=>by
   unfold HS.at;grind
  show((g.L.eraseIdx i).map λx=>S1.at x.1).Pairwise (· < ·);rw[e6];exact List.Pairwise.sublist ((List.eraseIdx_sublist g.L i).map _) hI.so
 .unfold FD;dsimp only;rw[s4.1,s4.2.2,s1,s2];exact aS
def gY{l:Nat->Iv}{L:CL}{U G:Int->Bool}(j:Ve l L U G)(y:LV l S.T)(hI:BS S no)(hk:KG S):((512*L.length:Nat):Int)=cP S.T.LM:=by
 have h1: ∀q,mem S.ks q↔ ∃c∈L,c.1=q:=λq=>by
  have a1:=hI.ks (q*512);have a2:=j.l0 (q*512);rw[Int.mul_ediv_cancel q (by decide)]at a1 a2;rw[a1,<-y.i,a2]
 have hlen:=vW (key:=λc:Int×Nat=>c.1) (L:=L) j.IJ hk.ok h1 (a:=0) (n:=67108864) λq J=>by
  obtain⟨c,v,rfl⟩:=(h1 q).1 J;have:=j.Yz c v;omega
 have:=(hI.counts hk).1;omega
def WR(H:Sat (Lg E h S um::Z) w)(J:BS S no)(hk:KG S){K:Int->Int->Int->World->Prop}(hK: ∀w',Sat (Lg E h S um::Z) w'->K (cP S.T.LM) S.AA (cP S.gone) w'):F.CX E (some ⟨h,0,none⟩) K w:=by
 obtain⟨g,hI,H⟩:=Sat.Ie.1 H;unfold F.CX T0.CX;have a6:=Nx (H.front 4 rfl);have a7:=hI.JI J;have bO:=J.pgs;have aG:=J.Mm hk;have aP:=Ml S.gone;have aQ:=Ml S.T.LM;generalize hci:cP S.T.LM=CI at hK aQ;generalize hcg:cP S.gone=CG at hK aP aG;refine AF ⟨some ⟨g.t,0,none⟩,xD H,Th (H.front 2 rfl) ?_⟩;have aJ: ∀n,n∈g.L.map (·.1)↔S.sp n≠none:=hI.mem;refine AJ (λst w'=>Sat (FD E h S um g++Z) w'/\ ∃i:Nat,st.2.1=(i:Int)/\i<=g.L.length/\st.1=Vq S ((g.L.take i).map (·.1))) (λst _=>((g.L.length:Int)-st.2.1).toNat) ⟨H,0,rfl,Nat.zero_le _,?_⟩ ?_
 .show(0:Int)=Vq S [];unfold Vq;rw[RI];intro p;simp
 clear H;rintro⟨us,i',u⟩ _ w6 ⟨H,i,hi,bL,aB⟩;dsimp only at hi aB⊢;subst hi;refine AF ⟨g.sl,dM H,AB (λaD=>AF ⟨g.sl,dM H,?_⟩) λaT=> ?_⟩
 .obtain⟨x,hx⟩: ∃x,g.L[i]? =some x:=⟨_,List.getElem?_eq_getElem (by omega)⟩;obtain⟨b,hb⟩:=(H.front 4 rfl).FY (by decide) Bz (i:=i) (by omega);rw[hb];obtain⟨y,R',hy,h1⟩:=kC (H.front 5 rfl) hI hx;obtain⟨ul,ml,s1,s2,lk,bJ,h2⟩:=Sat.Hb.1 h1;refine AF ⟨⟨by omega,aD⟩,some ⟨x.2,0,none⟩,?_,AF ⟨_,h2.cell rfl,?_⟩⟩
  .have:=(H.front 4 rfl).Bp Bz hb hx (j:=1) rfl;rw[add_add];exact this
  have aV:x.1∉(g.L.take i).map (·.1):=λc=>by
   have h3:=hI.nd;have e:g.L=g.L.take i++x::g.L.drop (i+1):=by
    have a0:=(List.getElem?_eq_some_iff.1 hx);rw[<-a0.2,List.getElem_cons_drop,List.take_append_drop]
   rw[e,List.map_append,List.nodup_append]at h3;exact h3.2.2 x.1 c x.1 (by simp) rfl
  have Y:=nJ J hk hy aV;have e2:(g.L.take i).map (·.1)++[x.1]=(g.L.take (i+1)).map (·.1):=by rw[List.take_succ,hx];simp
  rw[e2]at Y;have aK: ∀l,0<=Vq S l/\Vq S l<=34359738368:=λl=>Ml _;have b1:=aK ((g.L.take (i+1)).map (·.1));have b2:=aK ((g.L.take i).map (·.1));have bP:=(J.sp x.1 y hy).2.2.1;have aA:=Y.1;clear Y;generalize hA:Vq S ((g.L.take i).map (·.1))=A at aB b2 aA;generalize hB:Vq S ((g.L.take (i+1)).map (·.1))=B at b1 aA
  try dsimp only
  rw[aB,AI (n:=A+y.2.AA),AM (n:=(i:Int)+1)];exact⟨⟨H,i+1,by omega,by omega,by rw[hB];exact aA.symm⟩,by omega⟩
 .obtain rfl:i=g.L.length:=by omega
  rw[List.take_length,sR J aJ]at aB;subst aB;have bN:0<=NT S.T.rl:=by
   obtain⟨l,o,hl⟩:=hk.tv.cr;rw[Zq o hl];exact NQ o
  refine AJ (λst w'=>Sat (FD E h S um g++Z) w'/\ ∃i:Nat,st.2.1=(i:Int)/\i<=64/\st.1=NT S.T.rl+Go.Sh.Mm S.ca i) (λst _=>(64-st.2.1).toNat) ⟨H,0,rfl,by decide,by show NT S.T.rl=NT S.T.rl+0;omega⟩ ?_;clear H;rintro⟨gn,p',u⟩ _ a1 ⟨H,p,hp,bB,aC⟩;dsimp only at hp aC⊢;subst hp;have aX:=PS S.ca p (64-p);rw[show p+(64-p)=64 by omega]at aX;refine AB (λaD=> ?_) λaT=> ?_
  .have aY:=PS S.ca (p+1) (64-(p+1));rw[show p+1+(64-(p+1))=64 by omega]at aY;have aZ:Go.Sh.Mm S.ca (p+1)=Go.Sh.Mm S.ca p+cN (S.ca p).rel 64:=rfl;have aW:=PS S.ca 0 p;rw[Nat.zero_add]at aW;have bD:Go.Sh.Mm S.ca 0=0:=rfl;have hq:=hI.q p (by omega);refine AJ (λst w'=>Sat (FD E h S um g++Z) w'/\ ∃k:Nat,st.2.1=(k:Int)/\k<=64/\st.1=NT S.T.rl+Go.Sh.Mm S.ca p+cN (S.ca p).rel k) (λst _=>(64-st.2.1).toNat) ⟨H,0,rfl,by decide,by rw[aC];show _=_+((0:Nat):Int);omega⟩ ?_;clear H;rintro⟨aR,k',u⟩ _ a2 ⟨H,k,aM,a9,O⟩;dsimp only at aM O⊢;subst aM;refine AB (λaN=> ?_) λbM=> ?_
   .have Hq:Sat (Cells h E.Ab (qW (nY g.m g.t g.v p) (xB g.f g.sl S.hint g.v p) (g.v p).1 (g.v p).2.1 (g.v p).2.2)::(Gz E g.m S.V::NK E g.t S.T::Kt E g.f S.fx::Row E.AZ 2 g.sl (Ao KA g.L)::Ad (rsR E S.sp um) g.L::Z)) a2:=by
     rw[<-Yf g.m g.t g.f g.sl S.hint g.v (by omega:p<64)];exact H
    have ha:((Addr.mk h 0 none).add 2).add (Int.toNat (p:Int)*129)=Addr.mk h (nY g.m g.t g.v p).length none:=by
     rw[add_add,add_eq,Nat.zero_add,kA _ _ _ (by omega),Int.toNat_natCast]
    have c1:=sE Hq (i:=(k:Int)) (by omega) (by omega);have c2:=sF Hq (i:=(k:Int)) (by omega) (by omega);rw[<-ha]at c1 c2;have aF:=hq.rl k (by omega);have aE:=hq.hs k (by omega);have Y:cN (S.ca p).rel (k+1)=cN (S.ca p).rel k+((S.ca p).rel k).toNat:=rfl;have hle:cN (S.ca p).rel (k+1)<=k+1:=Oh _ _;have bA:cN (S.ca p).rel k<=k:=Oh _ _;refine IT (λst w'=>st.1=(S.ca p).rel k/\Sat (FD E h S um g++Z) w') ?_ ?_
    .refine AF ⟨⟨by omega,aD⟩,⟨by omega,aN⟩,_,c1,AP (λe=>AF ⟨⟨by omega,aD⟩,⟨by omega,aN⟩,_,c2,?_,H⟩) λe=>⟨?_,H⟩⟩
     .show(g.v p).2.2 k=_;rw[aF,<-aE,e];rfl
     .show false=_;rw[aF,<-aE,e];rfl
    rintro⟨b,u⟩ _ bQ ⟨hb,aI⟩;dsimp only at hb⊢;rw[AM (n:=(k:Int)+1)];refine AP (λe=>⟨⟨aI,k+1,by omega,by omega,?_⟩,by omega⟩) λe=>⟨⟨aI,k+1,by omega,by omega,?_⟩,by omega⟩
    .rw[hb]at e;rw[AI (n:=aR+1),Y,e,O];show _=_+((_+1:Nat):Int);omega
    .rw[hb]at e;rw[Y,e,O];show _=_+((_+0:Nat):Int);omega
   .obtain rfl:k=64:=by omega
    rw[AM (n:=(p:Int)+1)];exact⟨⟨H,p+1,by omega,by omega,by rw[O,aZ];omega⟩,by omega⟩
  .obtain rfl:p=64:=by omega
   rw[aG]at aC;subst aC;obtain⟨l,⟨hl,Au⟩,Ht⟩:=Sat.nC.1 (H.front 2 rfl);obtain⟨s,L,U,G,hR,Hr⟩:=Sat.Kr.1 Ht;have hlen:=MA Hr;have aL:=gY hR hl J hk;rw[hci]at aL;refine AF ⟨some ⟨g.t,0,none⟩,xD H,AF ⟨s,FL Hr,Am λt ht=> ?_⟩⟩;rw[hlen,AM (n:=512*((L.length:Nat):Int)),AI (n:=512*((L.length:Nat):Int)),show 512*((L.length:Nat):Int)=((512*L.length:Nat):Int) by omega,aL]at ht;rw[ht];exact hK a1 (Sat.Ie.2 ⟨g,hI,H⟩)
def nM:(List.range 64).flatMap (qc λ_=>(0,(λ_=>false),λ_=>false))=R9:=by
 unfold R9;refine Nw λi _=> ?_;unfold qc Iz;rw[<-Tg];rfl
def gZ{m:Nat}{V:VS}(H:Sat (Gz E m V::Z) w){K:Option Addr->World->Prop}(hK: ∀b w',Sat (Lg E b (HS.new V) um::Z) w'->K (some ⟨b,0,none⟩) w'):F.E6 E (some ⟨m,0,none⟩) K w:=by
 unfold F.E6 T0.E6;refine gR H λf w3 y=>AQ (vs:=[.slice none 0 0]) y λj w5 J _=> ?_;have O:Sat (NK E j TV.nil::Kt E f ⟨0,[]⟩::Gz E m V::Z) w5:=QS (l:=λ_=>[]) ⟨λp=>⟨λc=>absurd c (Bq p),λc=>by cases c⟩,λp=>⟨λc=>absurd c (Bq p),λc=>by cases c⟩,λp=>⟨λc=>absurd c (Bq p),λc=>by cases c⟩⟩ (λ_ _=>trivial) λl' a0 a1 a2=>(Sat.sB (l:=λ_=>[]) J λ_=>rfl).rcongr a0 a1 a2;rw[<-nM];refine AQ (vs:=Dh m j f ⟨none,0,0⟩ 0 λ_=>(0,(λ_=>false),λ_=>false)) O λb v T _=>hK b v (Sat.Ie.2 ⟨⟨m,j,f,⟨none,0,0⟩,λ_=>(0,(λ_=>false),λ_=>false),[]⟩,⟨λi hi=>⟨Int.le_refl _,by grind,λc=>absurd (λ_=>rfl) c,λ_ _=>rfl,λ_ _=>rfl,λ_ _=>rfl⟩,λid=>⟨λc=>(by cases c),λc=>absurd rfl c⟩,List.Pairwise.nil⟩,?_⟩);have Y:=((Sat.MQ (T.nil E.AZ 2) (rsR E (HS.new V).sp um)));have H9:Sat (Ad (rsR E (HS.new V).sp um) []::Row E.AZ 2 ⟨none,0,0⟩ []::Cells b E.Ab (Dh m j f ⟨none,0,0⟩ 0 λ_=>(0,(λ_=>false),λ_=>false))::NK E j TV.nil::Kt E f ⟨0,[]⟩::Gz E m V::Z) v:=Y;exact((((H9.front 1 rfl).front 4 rfl).front 4 rfl).front 5 rfl).front 5 rfl
end
section
variable{E:Env}{h r:Nat}{S S':HS}{um um':kB}{g:RG}{Z:List Pr}{w:World}
def XN(H:Sat (FD E h S um g++Z) w)(hI:dL S g){i q:Nat}{id:Int}{x:Nat×SI}(j:g.L[i]? =some (id,q))(hx:S.sp id=some x):
  ∃R,Sat (A4 E q x.2 (um id).1 (um id).2::(R++Z)) w/\ ∀{Y:List Pr} {U M:Nat->Bool} {w'},Sat (A4 E q x.2 U M::(R++Y)) w'->Sat (Lg E h S (LW um id U M)::Y) w':=by
 have h1:=(H.front 5 rfl).HA j;have e:rsR E S.sp um (id,q)=A4 E q x.2 (um id).1 (um id).2:=by unfold rsR;grind
 rw[e]at h1;refine⟨Ad (rsR E S.sp um) (g.L.eraseIdx i)::(FD E h S um g).eraseIdx 5,h1,λ{Y U M w'} H'=> ?_⟩;have J:A4 E q x.2 U M=rsR E S.sp (LW um id U M) (id,q):=by unfold rsR LW;grind
 have O: ∀y∈g.L.eraseIdx i,y.1≠id:=λy T e=>by
  have h3:=((DV j).map (·.1)).nodup_iff.1 hI.nd
  grind
 have K:Ad (rsR E S.sp um) (g.L.eraseIdx i)=Ad (rsR E S.sp (LW um id U M)) (g.L.eraseIdx i):=Ad.congr λy T=>by
  unfold rsR LW;grind
 rw[J,K]at H';have v:=Sat.JN (F:=(FD E h S um g).eraseIdx 5++Y) H' j;exact Sat.Ie.2 ⟨g,⟨hI.q,hI.mem,hI.so⟩,Sat.back (Ps:=FD E h S (LW um id U M) g++Y) 5 v (by simp[FD])⟩
end
def el(l:List Int)(i:Int):Int:=if i<0 then 0 else l.getD i.toNat 0
def sw(l:List Int)(i j:Int):List Int:=(l.set j.toNat (el l i)).set i.toNat (el l j)
def SO(E:Env)(s:Ac)(Z:List Pr)(l0 l:List Int)(w:World):Prop:=l.Perm l0/\Sat (Row E.Ep 1 s (ints .i64 l)::Z) w
def CmpS(E:Env)(cmp:Value)(s:Ac)(Z:List Pr)(key:Int->Int)(l0:List Int):Prop:= ∀x y l w (R:Value->World->Prop),x∈l0->y∈l0->SO E s Z l0 l w->(∀r w',(r<0↔key x<key y)->SO E s Z l0 l w'->R (.int .i64 r) w')->DYN E.call cmp #[.int .i64 x,.int .i64 y] w R
section
variable{E:Env}{cmp:Value}{s:Ac}{Z:List Pr}{key:Int->Int}{l0 l:List Int}{w:World}
variable(hC:CmpS E cmp s Z key l0)(hsm:s.len<1099511627776)
include hC hsm
end
section
variable{E:Env}{cmp:Value}{s:Ac}{Z:List Pr}{key:Int->Int}{l0 l:List Int}{w:World}
variable(hC:CmpS E cmp s Z key l0)(hsm:s.len<1099511627776)
include hC hsm
end
section
variable{E:Env}{cmp:Value}{s:Ac}{Z:List Pr}{key:Int->Int}{l0 l:List Int}{w:World}
section
variable(hC:CmpS E cmp s Z key l0)(hsm:s.len<1099511627776)
include hC hsm
end
end
section
end
section
end
section
variable{E:Env}{h r:Nat}{S S':HS}{um um':kB}{g:RG}{Z:List Pr}{w:World}
def hY{id:Int}:LW um id (um id).1 (um id).2=um:=by
 funext j;unfold LW;by_cases c:j=id
 .rw[if_pos c,c]
 .rw[if_neg c]
def Sat.rhPut{id:Int}{x:Nat×SI}{I:SI}{um:kB}(H:Sat (Lg E r S um::Z) w)(v:S.sp id=some x)(he:I.rs=x.2.rs):Sat (Lg E r (S.put id (x.1,I)) um::Z) w:=by
 refine H.sT rfl rfl rfl rfl rfl (λj=> ?_) λ_ _=>rfl;show Option.map _ (if j=id then some (x.1,I)else S.sp j)=_
 grind
end
def E4(h s r:Nat)(em:Ac)(W:SW):List Value:=[.pointer (some ⟨h,0,none⟩),.pointer (some ⟨s,0,none⟩),.pointer (some ⟨r,0,none⟩),GJ em,.int .u64 W.K6,.int .u64 W.BG,.int .u64 W.Dg,.int .u64 W.OC]
def V5(U M:Af):kB:=λid=>(U id,M id)
def IS(E:Env)(b h s r:Nat)(W:SW)(em:Ac):List Pr:=[HP E s W.L,Cells b E.Aw (E4 h s r em W),HQ E r W.R,Row E.AN 3 em (Ao KH W.em)]
def Ih(E:Env)(b h s r:Nat)(W:SW)(U M:Af):Pr:=Ex λem:Ac=>NR (Lg E h W.S (V5 U M)::IS E b h s r W em)
section
variable{E:Env}{b h s r:Nat}{W:SW}{U M:Af}{Z:List Pr}{w:World}
def Sat.Rq:Sat (Ih E b h s r W U M::Z) w↔ ∃em,Sat (Lg E h W.S (V5 U M)::(IS E b h s r W em++Z)) w:=by
 unfold Ih;rw[Sat.ex];constructor
 .rintro⟨em,h⟩;rw[Sat.star]at h
  grind
 .rintro⟨em,h⟩;refine⟨em,?_⟩;rw[Sat.star];exact h
def Sat.mid2{P Q:Pr}{R Y:List Pr}:Sat (P::(R++Q::Y)) w↔Sat (Q::P::(R++Y)) w:=
 ⟨λh=>h.perm (((List.perm_middle (l₁:=R)).cons _).trans (List.Perm.swap _ _ _)),λh=>h.perm ((List.Perm.swap _ _ _).trans ((List.perm_middle (l₁:=R)).symm.cons _))⟩
def kE{id:Int}{u m:Nat->Bool}:LW (V5 U M) id u m=V5 (U.set id u) (M.set id m):=by
 funext j;unfold LW V5 Af.set
 grind
def Vr(H:Sat (Ih E b h s r W U M::Z) w)(hI:BO W U M){id:Int}{sw:Bool}(Gk:Nat)(hf:W.L.length<1099511627776){K:Int->World->Prop}
  (aC:W.S.sp id=none-> ∀w',Sat (Ih E b h s r W U M::Z) w'->K 35 w')(aD:W.S.sp id≠none->(∃x∈W.L,x.id=id)-> ∀w',Sat (Ih E b h s r W U M::Z) w'->K 34 w')
  (aE: ∀x,W.S.sp id=some x->(∀y∈W.L,y.id≠id)-> ∀w',Sat (Ih E b h s r {W with L:=JG W.L ⟨Gk,id,x.2.base,(x.2.cls,x.2.G5,x.2.used==x.2.AK,sw)⟩} U M::Z) w'->K 0 w'):
  F.BJ E (some ⟨b,0,none⟩) id sw K w:=by
 unfold F.BJ T0.BJ;obtain⟨em,H1⟩:=Sat.Rq.1 H;obtain⟨g,O,H2⟩:=Sat.Ie.1 H1;refine AF ⟨some ⟨h,0,none⟩,(H1.front 2 rfl).Aa rfl,TI H2 O (O.JI hI.hI) (λhs=>AS rfl (aC hs w H)) λi q hi=>AO rfl (AF ?_)⟩;obtain⟨x,J⟩: ∃x,W.S.sp id=some x:=Option.ne_none_iff_exists'.1 ((O.mem id).1 (List.mem_map.2 ⟨(id,q),List.mem_of_getElem? hi,rfl⟩));obtain⟨Au,hg⟩:=hI.sp id x J;obtain⟨R,H3,b3⟩:=XN H2 O hi J;have rd:=λ{w':World} {Y:List Pr} {u m:Nat->Bool} (h':Sat (A4 E q x.2 u m::Y) w')=>show w'.cell? (Addr.mk q 0 none)=some (.int .u64 (x.2.base/8192))/\w'.cell? ((Addr.mk q 0 none).add 2)=some (.int .i64 x.2.state)/\w'.cell? ((Addr.mk q 0 none).add 3)=some (.int .i64 x.2.cls)/\w'.cell? ((Addr.mk q 0 none).add 4)=some (.bool x.2.G5)/\w'.cell? ((Addr.mk q 0 none).add 6)=some (.int .i64 x.2.AK) by
  obtain⟨ul,ml,s1,s2,lk,_,h2⟩:=Sat.Hb.1 h';exact⟨h2.Aa rfl,h2.cell rfl,h2.cell rfl,h2.cell rfl,h2.cell rfl⟩
 have aU:=Au.st;have aQ:=Au.ba;have aT:=Au.pg.1;have Hd:=H3.drew;have c:=rd Hd;have v:=(H1.front 2 rfl).drew;refine⟨_,(rd H3).2.1,AO (by grind) (AF ⟨some ⟨s,0,none⟩,v.cell rfl,AF ⟨_,c.1,AF ⟨_,c.2.2.1,AF ⟨_,c.2.2.2.1,AF ⟨_,c.2.2.2.2,Kh Hd ⟨c.2.2.2.2,c.2.2.2.1,c.2.2.1,c.1,v.cell rfl,?_⟩⟩⟩⟩⟩⟩)⟩;have hc:=hg.cnt;rw[AI (n:=x.2.base/8192*8192),show x.2.base/8192*8192=x.2.base by omega,show((cN (V5 U M id).1 x.2.AK.toNat:Nat):Int)=x.2.used from hc.symm];have H6:=Sat.mid2.1 Hd;have aM:=(hI.hI.sp id x J).1;have aK:=Au.cls;have fin: ∀{L':List DW} {w':World},Sat (HP E s L'::A4 E q x.2 (V5 U M id).1 (V5 U M id).2::(R++(Cells b E.Aw (E4 h s r em W)::HQ E r W.R::Row E.AN 3 em (Ao KH W.em)::Z))) w'->Sat (Ih E b h s r {W with L:=L'} U M::Z) w':=λ{L' w'} h'=>by
  have h2:=b3 (Y:=HP E s L'::Cells b E.Aw (E4 h s r em W)::HQ E r W.R::Row E.AN 3 em (Ao KH W.em)::Z) (Sat.mid2.2 h');rw[hY]at h2;exact Sat.Rq.2 ⟨em,h2⟩
 refine gL H6 ⟨Gk,id,x.2.base,(x.2.cls,x.2.G5,x.2.used==x.2.AK,sw)⟩ hf (λhb=> ?_) (λ_ hex w' j=> ?_) λ_ aF w' j=> ?_
 .unfold OA at hb;grind
 .have c:=rd (j.front 1 rfl);refine⟨c.2.2.2.2,c.2.2.2.1,c.2.2.1,c.1,aD (by grind) ?_ w' (fin j)⟩;obtain⟨y,T,e⟩:=hex;refine⟨y,T,?_⟩;rcases e with e|e
  .exact e
  .obtain⟨z,aG,aH⟩:=hI.it y T;exact bC hI.hI aG J (by rw[aH,e])
 .have c:=rd (j.front 1 rfl);exact⟨c.2.2.2.2,c.2.2.2.1,c.2.2.1,c.1,aE x J (λy T=>(aF y T).1) w' (fin j)⟩
def LX(H:Sat (Ih E b h s r W U M::Z) w)(O:Km W.L){K:Int->Bool->World->Prop}(v:(∀x∈W.L,x.EO=true)-> ∀w',Sat (Ih E b h s r W U M::Z) w'->K 0 false w')
  (y: ∀x,Nk W.L x-> ∀w',Sat (Ih E b h s r {W with L:=EY W.L x.id} U M::Z) w'->K x.id true w'):F.A2 E (some ⟨b,0,none⟩) K w:=by
 unfold F.A2 T0.A2;obtain⟨em,H1⟩:=Sat.Rq.1 H;have J:=λ{w':World} {L':List DW} (h':Sat (HP E s L'::Lg E h W.S (V5 U M)::Cells b E.Aw (E4 h s r em W)::HQ E r W.R::Row E.AN 3 em (Ao KH W.em)::Z) w')=>show Sat (Ih E b h s r {W with L:=L'} U M::Z) w' from Sat.Rq.2 ⟨em,h'.front 1 rfl⟩
 refine AF ⟨some ⟨s,0,none⟩,(H1.front 2 rfl).cell rfl,YT (H1.front 1 rfl) O (λhs Y j=>AO rfl (v hs Y (J j))) λx T Y j=>AS rfl (AF ⟨some ⟨s,0,none⟩,(j.front 2 rfl).cell rfl,?_⟩)⟩;exact gM j O (λhn=>absurd rfl (hn x T.1)) λ_ _ _ w9 H9=>y x T w9 (J H9)
end
section
variable{E:Env}{q:Nat}{S:SI}{U M:Nat->Bool}{Z:List Pr}{w:World}
def O7(H:Sat (A4 E q S U M::Z) w){n:Nat}{K:Bool->World->Prop}(j:K (U n) w):F.A7 E (some ⟨q,0,none⟩) n K w:=by
 obtain⟨ul,ml,s1,s2,v,hI,H⟩:=Sat.Hb.1 H;rw[hI.u]at j;unfold F.A7 T0.A7;exact AF ⟨s1,H.cell rfl,O5 (H.front 1 rfl) j⟩
def Pv(H:Sat (A4 E q S U M::Z) w){n:Nat}{K:Bool->World->Prop}(j:K (M n) w):F.BK E (some ⟨q,0,none⟩) n K w:=by
 obtain⟨ul,ml,s1,s2,v,hI,H⟩:=Sat.Hb.1 H;rw[hI.m]at j;unfold F.BK T0.BK;exact AF ⟨s2,H.cell rfl,O5 (H.front 2 rfl) j⟩
def O8(H:Sat (A4 E q S U M::Z) w)(O:S.state=1){n:Nat}(hn:(n:Int)<S.AK){K:Int->World->Prop}(hK: ∀w',Sat (A4 E q S U (λi=>M i||i==n)::Z) w'->K 0 w'):F.BC E (some ⟨q,0,none⟩) n K w:=by
 obtain⟨ul,ml,s1,s2,lk,hI,H⟩:=Sat.Hb.1 H;have Y:=hI.Kl;unfold F.BC T0.BC;refine AF ⟨S.state,H.cell rfl,AO (by rw[O];rfl) (AU (AO (by simp) (AF ⟨S.AK,H.cell rfl,λj=>AO (decide_eq_false (by omega)) (AF ⟨s2,H.cell rfl,?_⟩)⟩)))⟩;refine Rb (H.front 2 rfl) (by omega) λs' l' aC J hlen v=>AF ?_;refine AV (v.front 1 rfl) (o:=0) (m:=8) rfl (by simp[Gy]) λT y=>hK T (Sat.Hb.2 ⟨ul,l',s1,s',lk,⟨hI.u,λi=> ?_,hI.lu,?_,hI.Kl,hI.lk0,hI.lk1⟩,(y.FP 1 rfl)⟩)
 .rw[J i,hI.m];by_cases e:i=n
  .rw[if_pos e,e];simp
  .rw[if_neg e];simp[e]
 .have:=hI.lm;omega
def cL(H:Sat (A4 E q S U M::Z) w)(Y:0<=S.base/\S.base %8192=0){n:Nat}(hn:(n:Int)<S.AK)(he:0<=S.elem/\S.elem<9223372036854775808)(hr:S.base+n*S.elem<18446744073709551616){K:Int->Int->World->Prop}
  (T:K (S.base+n*S.elem) 0 w.drew):F.Ck E (some ⟨q,0,none⟩) n K w:=by
 have O:=H.drew;obtain⟨ul,ml,s1,s2,lk,hI,H1⟩:=Sat.Hb.1 H;obtain⟨_,_,_,_,_,_,y⟩:=Sat.Hb.1 O;have J:=hI.Kl;have v:0<=(n:Int)*S.elem:=Int.mul_nonneg (by omega) he.1;unfold F.Ck;refine AU (AO (by simp) (AF ⟨S.AK,H1.cell rfl,λj=>AO (decide_eq_false (by omega)) (AF ⟨S.base/8192,y.Aa rfl,AF ⟨S.elem,y.cell rfl,?_⟩⟩)⟩));have e:u64 (u64 (S.base/8192*8192)+u64 (u64 (n:Int)*u64 S.elem))=S.base+n*S.elem:=by
  rw[AI (n:=S.base/8192*8192),AI (n:=(n:Int)),AI (n:=S.elem),AI (n:=(n:Int)*S.elem) v (by omega),AI];omega
 unfold Kj
 try dsimp only
 rw[e];exact T
def TK(H:Sat (A4 E q S U M::Z) w)(v:0<=S.base/\S.base %8192=0){n:Nat}(y:(n:Int)<S.AK)(he:0<=S.elem/\S.elem<9223372036854775808)(J:S.base+n*S.elem<18446744073709551616){K:Int->Int->World->Prop}
  (j: ∀w',Sat (A4 E q S U M::Z) w'->K (S.base+n*S.elem) 0 w'):F.Ck E (some ⟨q,0,none⟩) n K w:=cL H v y he J (j _ H.drew)
def Yk(H:Sat (A4 E q S U M::Z) w)(he:0<S.elem)(aB:S.elem<=2199023255552)(hs:0<=S.AK/\S.AK<=1048576)(hb:0<=S.base/\S.base<=281474976710656/\S.base %8192=0){a:Int}(ha:0<=a/\a<18446744073709551616){K:Int->Int->World->Prop}
  (v: ¬(S.base<=a/\a<S.base+S.AK*S.elem)-> ∀w',Sat (A4 E q S U M::Z) w'->K 0 10 w')(T:S.base<=a->a<S.base+S.AK*S.elem-> ∀w',Sat (A4 E q S U M::Z) w'->K ((a-S.base)/S.elem) 0 w'):
  F.GI E (some ⟨q,0,none⟩) a K w:=by
 have y:=H.drew;obtain⟨ul,ml,s1,s2,lk,hI,H1⟩:=Sat.Hb.1 H;obtain⟨_,_,_,_,_,_,J⟩:=Sat.Hb.1 y;unfold F.GI;have eb:u64 (S.base/8192*8192)=S.base:=by rw[AI];omega
 have O:u64 S.elem=S.elem:=AI;have es:u64 S.AK=S.AK:=AI;refine AF ⟨S.base/8192,H1.Aa rfl,AU ?_⟩;rw[eb];refine AB (λg j=>AS rfl (v (by omega) _ y)) λg=>AF ⟨S.elem,J.cell rfl,by rw[O];omega,AF ⟨S.AK,J.cell rfl,λj=> ?_⟩⟩;have Y:u64 (Int.tdiv (u64 (a-S.base)) (u64 S.elem))=(a-S.base)/S.elem:=by
  rw[O,AI (n:=a-S.base),Int.tdiv_eq_ediv_of_nonneg (by omega)];have h1:(a-S.base)/S.elem<=a-S.base:=Int.ediv_le_self _ (by omega);have h2:0<=(a-S.base)/S.elem:=Int.ediv_nonneg (by omega) (by omega);exact AI
 rw[Y,es];refine AB (λh=>v (λc=> ?_) _ y) λh=>AF ⟨S.elem,J.cell rfl,by rw[O];omega,?_⟩
 .have:(a-S.base)/S.elem<S.AK:=Int.ediv_lt_of_lt_mul he (by omega);omega
 .have h2:0<=(a-S.base)/S.elem:=Int.ediv_nonneg (by omega) (by omega);unfold Kj;rw[Y,AM (n:=(a-S.base)/S.elem)];refine T (by omega) ?_ _ y;have:=(Int.ediv_lt_iff_lt_mul he).1 (show(a-S.base)/S.elem<S.AK by omega);omega
end
section
variable{E:Env}{b h s r:Nat}{W:SW}{U M:Af}{Z:List Pr}{w:World}
def Yl(H:Sat (Lg E h W.S (V5 U M)::Z) w)(hI:BS W.S no){id:Int}{K:Option Addr->World->Prop}(v:W.S.sp id=none->K none w)
  (y: ∀(x:Nat×SI) (q:Nat) (R:List Pr),W.S.sp id=some x->Sat (A4 E q x.2 (U id) (M id)::(R++Z)) w->(∀{Y:List Pr} {u m:Nat->Bool} {w'},Sat (A4 E q x.2 u m::(R++Y)) w'->Sat (Lg E h W.S (V5 (U.set id u) (M.set id m))::Y) w')->K (some ⟨q,0,none⟩) w):
  F.Aq E (some ⟨h,0,none⟩) id K w:=by
 obtain⟨g,j,J⟩:=Sat.Ie.1 H;refine TI J j (j.JI hI) v λi q O=> ?_;obtain⟨x,T⟩: ∃x,W.S.sp id=some x:=Option.ne_none_iff_exists'.1 ((j.mem id).1 (List.mem_map.2 ⟨(id,q),List.mem_of_getElem? O,rfl⟩));obtain⟨R,H3,b3⟩:=XN J j O T;refine y x q R T H3 λ{Y u m w'} h'=> ?_;have:=b3 h';rwa[kE]at this
def Af.nN{S:HS}{v:List Int}{i:Nat}{a:Int}(y:v[i]? =some a)(J:mkOf S a=none):M.mark S (v.take (i+1))=M.mark S (v.take i):=by
 funext j k;unfold Af.mark;rw[FW y,List.any_append];simp[J]
def Af.sV{S:HS}{v:List Int}{i n:Nat}{a id:Int}(y:v[i]? =some a)(hm:mkOf S a=some (id,n)):M.mark S (v.take (i+1))=(M.mark S (v.take i)).set id λk=>M.mark S (v.take i) id k||k==n:=by
 funext j k;have e:M.mark S (v.take (i+1)) j k=(M.mark S (v.take i) j k||decide (mkOf S a=some (j,k))):=by
  unfold Af.mark;rw[FW y,List.any_append,<-Bool.or_assoc];simp only[List.any_cons,List.any_nil,Bool.or_false]
 rw[e,hm];unfold Af.set;by_cases c:j=id
 .subst c;rw[if_pos rfl];congr 1;rw[Bool.eq_iff_iff,decide_eq_true_eq,beq_iff_eq,Option.some.injEq,Prod.mk.injEq];exact⟨λh=>h.2.symm,λh=>⟨rfl,h.symm⟩⟩
 .rw[if_neg c,decide_eq_false (λh=>c (by cases h;rfl)),Bool.or_false]
def TL(H:Sat (Ih E b h s r W U M::Z) w)(hI:BO W U M)(hk:KG W.S)(hL:Km W.L){a1:Ac}{v:List Int}(hA: ∀w',Sat Z w'->rowAt w' a1.base a1.len (ints .u64 v))(hl:v.length=a1.len)(a9:a1.len<=1099511627776)(has: ∀a∈v,0<=a/\a<18446744073709551616)
  {K:Int->World->Prop}(aR:0<MH W.L false->K 33 w)(aQ:(∀x∈W.L,x.EO=true)-> ∀w',Sat (Ih E b h s r {W with L:=Ib W.L} U (M.mark W.S v)::Z) w'->K 0 w'):
  F.A3 E (some ⟨b,0,none⟩) a1 K w:=by
 unfold F.A3 T0.A3;obtain⟨em,H1⟩:=Sat.Rq.1 H;refine AF ⟨some ⟨s,0,none⟩,(H1.front 2 rfl).cell rfl,Va (H1.front 1 rfl) hL.JI (AB (λg=>aR (by omega)) λg=> ?_)⟩;have e0:M.mark W.S (v.take 0)=M:=by funext i k;simp[Af.mark]
 refine AJ (λst w'=> ∃i:Nat,st.1=(i:Int)/\i<=v.length/\Sat (Lg E h W.S (V5 U (M.mark W.S (v.take i)))::(IS E b h s r W em++Z)) w') (λst _=>((v.length:Int)-st.1).toNat) ⟨0,rfl,Nat.zero_le _,by rw[e0];exact H1⟩ ?_;rintro⟨i',u⟩ _ w6 ⟨i,hi,a8,H6⟩;dsimp only at hi⊢;subst hi;have Hz: ∀{P:Pr} {w':World},Sat (P::(IS E b h s r W em++Z)) w'->Sat Z w':=λJ=>J.tail.tail.tail.tail.tail;have Hp: ∀{P:Pr} {w':World},Sat (P::(IS E b h s r W em++Z)) w'->w'.cell? (Addr.mk b 0 none)=some (.pointer (some ⟨h,0,none⟩)):=λJ=>(J.front 2 rfl).Aa rfl;refine AB (λbA=> ?_) λa7=> ?_
 .obtain⟨a,ha⟩: ∃a,v[i]? =some a:=⟨_,List.getElem?_eq_getElem (by omega)⟩;have O:=has a (List.mem_of_getElem? ha);have ra: ∀{w'},Sat Z w'-> ∃q,a1.base=some q/\w'.cell? (q.add (Int.toNat (i:Int)*1))=some (.int .u64 a):=λ{w'} J=>by
   have hr:=hA w' J;cases hb1:a1.base with
   | none=>rw[hb1]at hr;have:ints .u64 v=[]:=hr;simp[ints]at this;subst this;simp at ha
   | some q=>rw[hb1]at hr;exact⟨q,rfl,by rw[Int.toNat_natCast,Nat.mul_one];exact hr.2 i _ (Od ha)⟩
  have Hd:=H6.drew;obtain⟨q,hq,aT⟩:=ra (Hz Hd);rw[hq];rw[AM (n:=(i:Int)+1)];have skip:mkOf W.S a=none-> ∀w',Sat (Lg E h W.S (V5 U (M.mark W.S (v.take i)))::(IS E b h s r W em++Z)) w'->(∃j:Nat,(i:Int)+1=(j:Int)/\j<=v.length/\Sat (Lg E h W.S (V5 U (M.mark W.S (v.take j)))::(IS E b h s r W em++Z)) w')/\((v.length:Int)-((i:Int)+1)).toNat<((v.length:Int)-(i:Int)).toNat:=
   λT w' J=>⟨⟨i+1,by omega,by omega,by rw[Af.nN ha T];exact J⟩,by omega⟩
  refine AF ⟨some ⟨h,0,none⟩,Hp Hd,AF ⟨some ⟨h,0,none⟩,Hp Hd,AF ⟨⟨by omega,by omega⟩,a,aT,nK Hd hI.hI hk O.1 O.2 λaW y=>⟨Hp y,?_⟩⟩⟩⟩;refine Yl y hI.hI (λT=>AS rfl (skip ?_ aW y)) λx p R hx aL Y=>AO rfl (AF ?_)
  .unfold mkOf;rw[T]
  .obtain⟨q',aD,aF⟩:=ra (Hz y);rw[hq]at aD;cases aD;obtain⟨Au,hg⟩:=hI.sp _ x hx;have aG:=Au.size;have a6:=Au.ba;have bB:=Au.pg;refine⟨⟨by omega,by omega⟩,a,aF,Yk aL aG.1 (by omega) (by omega) (by omega) O (λaB w' H'=>AO rfl (skip ?_ w' ?_)) λh1 h2 w' H'=>AS rfl ?_⟩
   .unfold mkOf;rw[hx];simp only;rw[if_neg aB]
   .have:=Y H';rwa[Af.O3,Af.O3]at this
   .have aS:0<=(a-x.2.base)/x.2.elem:=Int.ediv_nonneg (by omega) (by omega);have aE:(a-x.2.base)/x.2.elem<x.2.AK:=Int.ediv_lt_of_lt_mul aG.1 (by omega);obtain⟨n,T⟩:=Int.eq_ofNat_of_zero_le aS;rw[T]at aE⊢;refine O8 H' Au.st aE λbC aM=>⟨⟨i+1,by omega,by omega,?_⟩,by omega⟩;have:=Y aM;rw[Af.O3]at this;rw[Af.sV ha (id:=W.S.own (a/8192)) (n:=n)]
    .exact this
    .unfold mkOf;rw[hx];simp only;rw[if_pos ⟨h1,h2⟩,T,Int.toNat_natCast]
 .have aP:i=v.length:=by omega
  rw[aP,List.take_length]at H6;refine AF ⟨some ⟨s,0,none⟩,(H6.front 2 rfl).cell rfl,bQ (H6.front 1 rfl) hL.JI (λaC=>absurd aC (by omega)) λaU aX aN=>aQ aU aX (Sat.Rq.2 ⟨em,aN.front 1 rfl⟩)⟩
end
section
variable{E:Env}{b h s r:Nat}{W:SW}{U M:Af}{Z:List Pr}{w:World}
def Lh(E:Env)(b h s r:Nat)(W:SW)(em:Ac)(R e:List Rc)(Z:List Pr):List Pr:=HP E s W.L::Cells b E.Aw (E4 h s r em W)::HQ E r R::Row E.AN 3 em (Ao KH e)::Z
def kF{α:Type}(X S C P T:α)(R Z:List α):(X::(R++S::C::P::T::Z)).Perm (P::T::C::X::(R++S::Z)):=by
 classical
 exact List.perm_iff_count.2 λa=>by grind
def iA{q:Nat}{x:Nat×SI}{R:List Pr}{em:Ac}(Au:Tb x.2){u m:Nat->Bool}(bX:W.em.length+W.R.length<=1099511627776)(H:Sat (A4 E q x.2 u m::(R++Lh E b h s r W em W.R W.em Z)) w){K:World->Prop}{J:Int×Unit->(Int×Unit->World->Prop)->World->Prop}
  (aI: ∀(k:Nat) (next:Int×Unit->World->Prop) w',J ((k:Int),()) next w'=(
       F.A7 E (some ⟨q,0,none⟩) k (λbO aZ=>
       CND (!bO) (
        next (i64 ((k:Int)+1),()) aZ
       ) (
        F.BK E (some ⟨q,0,none⟩) k (λbP a0=>
        CND (bP) (
         next (i64 ((k:Int)+1),()) a0
        ) (
         F.Ck E (some ⟨q,0,none⟩) k (λaK b1 aL=>
         NC (some ⟨b,0,none⟩) λbJ=>
         ∃a7:(Option Addr),aL.cell? (bJ.add 2)=some (.pointer a7)/\
         F.Az E a7 aK 1 (λbQ bR j=>
         CND ((bR:Int)==0) (
          NC (some ⟨b,0,none⟩) λbK=>
          ∃aE:Ac,j.cell? (bK.add 3)=some (.slice aE.base aE.len aE.cap)/\
          AL (.cells ⟨[.int .u64 aK,.int .i64 1,.int .u64 bQ]⟩ E.AN) j λaS a1=>
          APP E.AN 3 24 #[.int .u64 0,.int .i64 0,.int .u64 0] aE ⟨(some (Addr.mk aS 0 none)),1,1⟩ a1 λdI a2=>
          NC (some ⟨b,0,none⟩) λbL=>
          stCells (bL.add 3) 0 [.slice dI.base dI.len dI.cap] a2 λaM=>
          F.BC E (some ⟨q,0,none⟩) k (λb3 a3=>
          next (i64 ((k:Int)+1),()) a3
          ) aM
         ) (
          NC (some ⟨b,0,none⟩) λaY=>
          ∃v:Ac,j.drew.cell? (aY.add 3)=some (.slice v.base v.len v.cap)/\
          NC (some ⟨b,0,none⟩) λbM=>
          ∃a8:(Option Addr),j.drew.cell? (bM.add 2)=some (.pointer a8)/\
          F.BM E a8 aK (λbT aN=>
          aN.cell? (aY.add 3)=some (.slice v.base v.len v.cap)/\
          APP E.AN 3 24 #[.int .u64 0,.int .i64 0,.int .u64 0] v bT aN λdC a4=>
          NC (some ⟨b,0,none⟩) λbN=>
          stCells (bN.add 3) 0 [.slice dC.base dC.len dC.cap] a4 λa5=>
          next (i64 ((k:Int)+1),()) a5
          ) j.drew
         )
         ) aL
         ) a0
        )
        ) aZ
       )
       ) w'))
  (hK: ∀em' w',Sat (A4 E q x.2 u (Mf u x.2.base x.2.elem x.2.AK.toNat ⟨W.R,m,W.em⟩).m::(R++Lh E b h s r W em' (Mf u x.2.base x.2.elem x.2.AK.toNat ⟨W.R,m,W.em⟩).R (Mf u x.2.base x.2.elem x.2.AK.toNat ⟨W.R,m,W.em⟩).em Z)) w'->K w'):
  A9 (Int×Unit) (0,()) w λFN _ aA aD=>
   NC (some ⟨q,0,none⟩) λbI=> ∃a6:Int,aA.cell? (bI.add 6)=some (.int .i64 a6)/\CND (decide ((FN.1:Int)<a6)) (J FN aD aA) (K aA):=by
 have bF:=Au.size;have aU:=Au.ba;have b0:=Au.pg
 let tk:Nat->gF:=λk=>Mf u x.2.base x.2.elem k ⟨W.R,m,W.em⟩
 refine AJ (λst w'=> ∃(k:Nat) (em:Ac),st.1=(k:Int)/\k<=x.2.AK.toNat/\Sat (A4 E q x.2 u (tk k).m::(R++Lh E b h s r W em (tk k).R (tk k).em Z)) w') (λst _=>(x.2.AK-st.1).toNat) ⟨0,em,rfl,Nat.zero_le _,H⟩ ?_;rintro⟨k',u'⟩ _ aA ⟨k,em,aV,bZ,O⟩;dsimp only at aV⊢;subst aV;refine AF ⟨x.2.AK,by obtain⟨ul,ml,s1,s2,lk,_,h2⟩:=Sat.Hb.1 O;exact h2.cell rfl,AB (λaW=> ?_) λbY=> ?_⟩
 .rw[aI,AM (n:=(k:Int)+1)];have T:=PV (u:=u) (base:=x.2.base) (elem:=x.2.elem) (t:=⟨W.R,m,W.em⟩) k;have T:(tk k).em.length+(tk k).R.length<=W.em.length+W.R.length:=T;have aJ: ∀{t':gF} {em':Ac} {w'},spStep u x.2.base x.2.elem k (tk k)=t'->Sat (A4 E q x.2 u t'.m::(R++Lh E b h s r W em' t'.R t'.em Z)) w'->
    (∃(k1:Nat) (em:Ac),(k:Int)+1=(k1:Int)/\k1<=x.2.AK.toNat/\Sat (A4 E q x.2 u (tk k1).m::(R++Lh E b h s r W em (tk k1).R (tk k1).em Z)) w')/\(x.2.AK-((k:Int)+1)).toNat<(x.2.AK-(k:Int)).toNat:=λ{t' em' w'} ht hS=>by
   refine⟨⟨k+1,em',by omega,by omega,?_⟩,by omega⟩;have e:tk (k+1)=t':=ht
   grind
  have same:=λaH: ¬(u k=true/\(tk k).m k=false)=>aJ (em':=em) (w':=aA) (show spStep u x.2.base x.2.elem k (tk k)=tk k by unfold spStep;rw[if_neg aH]) O;refine O7 O ?_;cases hu:u k with
  | false=>exact AS rfl (same (by grind))
  | true=>
  refine AO rfl (Pv O ?_);cases hm:(tk k).m k with
  | true=>exact AS rfl (same (by grind))
  | false=>
  have aG:u k=true/\(tk k).m k=false:=⟨hu,hm⟩;have h1:0<=(k:Int)*x.2.elem:=Int.mul_nonneg (by omega) (by omega);have h2:((k:Int)+1)*x.2.elem<=x.2.AK*x.2.elem:=Int.mul_le_mul_of_nonneg_right (by omega) (by omega);have h3:((k:Int)+1)*x.2.elem=k*x.2.elem+x.2.elem:=by grind
  have h4:=bF.2.2.2.2;rw[Int.mul_comm x.2.elem]at h4;refine AO rfl (TK O ⟨aU.1,aU.2.1⟩ aW ⟨by omega,by omega⟩ (by omega) λaL a9=> ?_);have P1: ∀{em':Ac} {R' e':List Rc} {m':Nat->Bool} {w'},Sat (A4 E q x.2 u m'::(R++Lh E b h s r W em' R' e' Z)) w'-> ∃Y,Sat (HQ E r R'::Row E.AN 3 em' (Ao KH e')::Cells b E.Aw (E4 h s r em' W)::Y) w'/\
    ∀{em'' R'' e'' w''},Sat (HQ E r R''::Row E.AN 3 em'' (Ao KH e'')::Cells b E.Aw (E4 h s r em'' W)::Y) w''->Sat (A4 E q x.2 u m'::(R++Lh E b h s r W em'' R'' e'' Z)) w'':=λ{em' R' e' m' w'} h'=>by
   refine⟨A4 E q x.2 u m'::(R++HP E s W.L::Z),?_,λ{em'' R'' e'' w''} h''=> ?_⟩
   .refine h'.perm ?_;unfold Lh;exact kF _ _ _ _ _ _ _
   .refine h''.perm ?_;unfold Lh;exact(kF _ _ _ _ _ _ _).symm
  obtain⟨Y,aF,aR⟩:=P1 a9;refine AF ⟨some ⟨r,0,none⟩,(aF.front 2 rfl).cell rfl,Pt aF (λaH j aB=>AO rfl (AF ?_)) λA y B hR bG bH j aB=>AS rfl (AF ?_)⟩
  .have Hd:=aB.drew;refine⟨em,(Hd.front 2 rfl).cell rfl,AF ⟨some ⟨r,0,none⟩,(Hd.front 2 rfl).cell rfl,bS Hd λs50 aN aC=>⟨(aC.front 3 rfl).cell rfl,?_⟩⟩⟩;have l1:=S6 aC;have l2:=S6 (aC.front 2 rfl);have l3:=gG (tk k).R (x.2.base+k*x.2.elem);refine RW (aC.front 2 rfl) rfl (IE Md _) (by omega) (by omega) λdC a4 aQ=>AF ?_;rw[<-F9]at aQ;refine AV (aQ.front 3 rfl) (o:=0) (m:=3) rfl (by simp[E4]) λa5 bD=>aJ (t':=⟨QN (tk k).R (x.2.base+k*x.2.elem),(tk k).m,(tk k).em++QX (tk k).R (x.2.base+k*x.2.elem)⟩) (em':=dC) ?_ (aR ?_)
   .unfold spStep;rw[if_pos aG,rcN aH]
   .exact((((bD.front 2 rfl).tail).front 1 rfl).front 2 rfl)
  .refine⟨em,(aB.front 2 rfl).cell rfl,AQ (vs:=[.int .u64 (x.2.base+k*x.2.elem),.int .i64 1,.int .u64 y.data]) aB λaS a1 aO _=> ?_⟩;have l2:=S6 (aO.front 2 rfl);refine GD (news:=KH ⟨0,x.2.base+k*x.2.elem,1,y.data⟩) (aO.FP 1 rfl) rfl rfl (Md _) (by omega) (by omega) λdI a2 aP _=>AF ?_;have e:Ao KH (tk k).em++KH ⟨0,x.2.base+k*x.2.elem,1,y.data⟩=Ao KH ((tk k).em++[⟨0,x.2.base+k*x.2.elem,1,y.data⟩]):=by rw[F9];simp[Ao]
   rw[e]at aP;have aT:=(Sat.YU.1 aF).1;refine AV (aP.front 2 rfl) (o:=0) (m:=3) rfl (by simp[E4]) λaM bA=> ?_;have bB:Sat (A4 E q x.2 u (tk k).m::(R++Lh E b h s r W dI (A++B) ((tk k).em++[(⟨0,x.2.base+k*x.2.elem,1,y.data⟩:Rc)]) Z)) aM:=aR ((bA.front 1 rfl).front 2 rfl);refine O8 bB Au.st aW λa3 bC=>aJ (t':=⟨A++B,λi=>(tk k).m i||i==k,(tk k).em++[⟨0,x.2.base+k*x.2.elem,1,y.data⟩]⟩) (em':=dI) ?_ bC;rw[hR]at aT;obtain⟨e1,e2⟩:=rcF aT bG bH;unfold spStep
   grind
 .have e:k=x.2.AK.toNat:=by omega
  grind
end
section
variable{E:Env}{b h s r:Nat}{W:SW}{U M:Af}{Z:List Pr}{w:World}
def sW{α:Type}(X S C:α)(R Z:List α):(X::(R++S::C::Z)).Perm (C::X::(R++S::Z)):=by
 classical
 exact List.perm_iff_count.2 λa=>by grind
def Sat.rwSame{S':HS}(H:Sat (Ih E b h s r W U M::Z) w)(j:S'.V=W.S.V)(v:S'.T=W.S.T)(J:S'.ca=W.S.ca)(K:S'.fx=W.S.fx)(O:S'.hint=W.S.hint)(Y: ∀id,(S'.sp id).map (λy=>y.2.rs)=(W.S.sp id).map λy=>y.2.rs):Sat (Ih E b h s r {W with S:=S'} U M::Z) w:=by
 obtain⟨em,H1⟩:=Sat.Rq.1 H;exact Sat.Rq.2 ⟨em,H1.sT j v J K O Y λ_ _=>rfl⟩
def nO{q:Nat}{x:SI}{u m:Nat->Bool}(H:Sat (A4 E q x u m::Z) w)(hs:0<=x.AK)(aK:x.AK<=1099511627776){K:World->Prop}{Kz:World->Prop}
  (hz:(∃i,m i=true/\u i=false)->Kz w)(hk:(∀i:Nat,(i:Int)<x.AK->m i=true->u i=true)->K w):
  A9 (Int×Unit) (0,()) w λs7 _ y v=>
    NC (some ⟨q,0,none⟩) λaD=>
    ∃aA:Int,y.cell? (aD.add 6)=some (.int .i64 aA)/\
    CND (decide ((s7.1:Int)<aA)) (
     An (Bool×Unit) (λJ=>
      F.BK E (some ⟨q,0,none⟩) s7.1 (λaE Y=>
      CND (aE) (
       F.A7 E (some ⟨q,0,none⟩) s7.1 (λaF aG=>
       J (!aF,()) aG
       ) Y
      ) (
       J (false,()) Y
      )
      ) y
     ) λMR _ T=>
      CND (MR.1) (
       Kz T
      ) (
       v (i64 (s7.1+1),()) T
      )
    ) (K y):=by
 refine AJ (λst w'=>w'=w/\ ∃i:Nat,st.1=(i:Int)/\(i:Int)<=x.AK/\ ∀j,j<i->m j=true->u j=true) (λst _=>(x.AK-st.1).toNat) ⟨rfl,0,rfl,hs,λj hj=>by omega⟩ ?_;rintro⟨i',u'⟩ _ y ⟨rfl,i,hi,aM,aB⟩;dsimp only at hi⊢;subst hi;have O:(m i=true->u i=true)->(y=y/\ ∃j:Nat,i64 ((i:Int)+1)=(j:Int)/\(j:Int)<=x.AK/\ ∀j',j'<j->m j'=true->u j'=true)/\(x.AK-i64 ((i:Int)+1)).toNat<(x.AK-(i:Int)).toNat∨ ¬(i:Int)<x.AK:=λh=>by
  by_cases g:(i:Int)<x.AK
  .rw[AM (n:=(i:Int)+1)];refine .inl ⟨⟨rfl,i+1,by omega,by omega,λj hj=> ?_⟩,by omega⟩
   grind
  omega
 refine AF ⟨x.AK,by obtain⟨ul,ml,s1,s2,lk,_,h2⟩:=Sat.Hb.1 H;exact h2.cell rfl,AB (λaN=>AU (Pv H ?_)) λaL=>hk λj hj=>aB j (by omega)⟩;cases hm:m i with
 | false=>exact AO rfl λj=>AO rfl ((O λh=>by rw[hm]at h;cases h).resolve_right (by omega))
 | true=>
  refine AS rfl (O7 H ?_);cases hu:u i with
  | false=>exact λj=>AS rfl (hz ⟨i,hm,hu⟩)
  | true=>exact λj=>AO rfl ((O λ_=>hu).resolve_right (by omega))
def KG.put{S:HS}(h:KG S)(id:Int)(y:Nat×SI):KG (S.put id y):=⟨h.tv,h.vv,h.ci,h.ok,h.fx⟩
def Jn(H:Sat (Ih E b h s r W U M::Z) w)(hI:BO W U M)(hk:KG W.S){id:Int}{Cr:Bool}(hf:W.L.length<1099511627776)(bC:W.em.length+W.R.length<=1099511627776)(hL: ∀y∈W.L,y.id≠id)
  {K:Int->Bool->Int->World->Prop}(bD:W.S.sp id=none-> ∀w',Sat (Ih E b h s r W U M::Z) w'->K 0 false 35 w')
  (bF: ∀x,W.S.sp id=some x->(∃i,M id i=true/\U id i=false)-> ∀w',Sat (Ih E b h s r W U M::Z) w'->K 0 false 40 w')
  (hK: ∀x,W.S.sp id=some x->(∀i,M id i=true->U id i=true)-> ∃(n:Nat) (gone:Bool) (W':SW) (U' M':Af),O2 W U M id Cr n gone W' U' M'/\BO W' U' M'/\ ∀w',Sat (Ih E b h s r W' U' M'::Z) w'->K n gone 0 w'):
  F.Av E (some ⟨b,0,none⟩) id Cr K w:=by
 unfold F.Av T0.Av;obtain⟨em,H1⟩:=Sat.Rq.1 H;refine AF ⟨some ⟨h,0,none⟩,(H1.front 2 rfl).Aa rfl,Yl (Z:=IS E b h s r W em++Z) H1 hI.hI (λhs=>AS rfl (bD hs w H)) λx q R hx H3 b3=>AO rfl (AF ?_)⟩;obtain⟨Au,hg⟩:=hI.sp id x hx;have bZ:=Au.size;have bY:=Au.pg;refine⟨x.2.state,by obtain⟨ul,ml,s1,s2,lk,_,h2⟩:=Sat.Hb.1 H3;exact h2.cell rfl,AO (by rw[Au.st];rfl) ?_⟩;refine nO H3 (by omega) (by omega) (λhz=>bF x hx hz w H) λaW=> ?_;have aV: ∀i,M id i=true->U id i=true:=λi hi=>aW i (hg.mlim i hi) hi;obtain⟨n,gone,W',U',M',hO,a7,aA⟩:=hK x hx aV;refine iA (W:=W) (em:=em) Au bC H3 (λk next w'=>rfl) λem' b7 aN=> ?_;obtain⟨x',t,uw,aY,-,ht,hn,aT,bB,J,v,O⟩:=hO;rw[hx]at aY;cases aY;rw[<-ht]at aN;have bH:=Au.st;refine Yb aN (by omega) (λc=>absurd bH c) (λ_ hz=> ?_) λ_ b1 oR b8 aO=> ?_
 .obtain⟨i,h1,h2⟩:=hz;have:=YO (u:=U id) (base:=x.2.base) (elem:=x.2.elem) (t:=⟨W.R,M id,W.em⟩) aV x.2.AK.toNat i (by grind)
  grind
 have hlen:oR.len=n:=by
  have:=aO.EA;unfold ints at this;rw[List.length_map,L5]at this;omega
 have Hd:=aO.tail.drew;have cb: ∀{W'':SW} {P:Pr} {aI:World},Sat (P::(R++Lh E b h s r W'' em' t.R t.em Z)) aI->Sat (Cells b E.Aw (E4 h s r em' W'')::P::(R++HP E s W''.L::HQ E r t.R::Row E.AN 3 em' (Ao KH t.em)::Z)) aI/\
   ∀{W3:SW} {w3},W3.L=W''.L->Sat (Cells b E.Aw (E4 h s r em' W3)::P::(R++HP E s W''.L::HQ E r t.R::Row E.AN 3 em' (Ao KH t.em)::Z)) w3->Sat (P::(R++Lh E b h s r W3 em' t.R t.em Z)) w3:=λ{W'' P aI} h'=>by
  refine⟨h'.perm (sW _ _ _ _ _),λ{W3 w3} e h3=> ?_⟩;unfold Lh;rw[e];exact h3.perm (sW _ _ _ _ _).symm
 obtain⟨aP,a5⟩:=cb (W'':=W) Hd;have aH: ∀{u m:Nat->Bool} {Y:List Pr} {w':World},Sat (A4 E q x.2 u m::Y) w'->w'.cell? ((Addr.mk q 0 none).add 6)=some (.int .i64 x.2.AK)/\w'.cell? ((Addr.mk q 0 none).add 1)=some (.int .u64 x.2.AA):=λh'=>by
  obtain⟨ul,ml,s1,s2,lk,_,h2⟩:=Sat.Hb.1 h';exact⟨h2.cell rfl,h2.cell rfl⟩
 refine AF ⟨W.Dg,aP.cell rfl,AF ⟨x.2.AA,(aH Hd).2,AF ?_⟩⟩;refine AV aP (o:=0) (m:=6) rfl (by simp[E4]) λb9 aQ=>AF ⟨W.OC,aQ.cell rfl,AF ?_⟩;refine AV aQ (o:=0) (m:=7) rfl (by simp[E4]) λcA aR=> ?_;have bV:=Oh (λi=>U id i&& !t.m i) x.2.AK.toNat;rw[AI (n:=((oR.len:Nat):Int)),hlen]at aR;have a2:=a5 (W3:=J) (by rw[v]) (by rw[v];exact aR);rw[hlen];have T:=a2.drew;have close: ∀{w':World},Sat (A4 E q x.2 (λi=>U id i&&t.m i) (λ_=>false)::(R++Lh E b h s r J em' t.R t.em Z)) w'->Sat (Ih E b h s r J U' M'::Z) w':=λ{w'} h'=>by
  have h2:=b3 (Y:=IS E b h s r J em'++Z) (by
   have e:Lh E b h s r J em' t.R t.em Z=IS E b h s r J em'++Z:=by rw[v];rfl
   rw[<-e];exact h')
  refine Sat.Rq.2 ⟨em',?_⟩;have e2:J.S=W.S.put id (x.1,J0 x.2 uw λi=>U id i&&t.m i):=by rw[v]
  rw[e2,aT,bB];exact h2.rhPut hx rfl
 generalize hu2:(λi=>U id i&&t.m i)=u2 at *
 have bW:u2=U' id:=by rw[aT,Af.Np]
 have aD: ¬(Cr=true/\((cN u2 x.2.AK.toNat:Nat):Int)<x.2.AK)-> ∀w',Sat (A4 E q x.2 u2 (λ_=>false)::(R++Lh E b h s r J em' t.R t.em Z)) w'->F.BW E (some ⟨q,0,none⟩) (λbJ aJ=>
         CND ((bJ:Int)==0) (
          NC (some ⟨b,0,none⟩) λbI=>
          ∃aZ:(Option Addr),aJ.cell? bI=some (.pointer aZ)/\
          F.B7 E aZ id (λb5 aK=>
          K ((n:Nat):Int) true 0 aK
          ) aJ
         ) (
          F.BJ E (some ⟨b,0,none⟩) id true (λb6 aL=>
          K ((n:Nat):Int) false 0 aL
          ) aJ
         )
         ) w':=λbG w' h'=>by
  have aG:J.S.sp id=some (x.1,J0 x.2 uw u2):=by rw[v];exact HS.IQ
  have a8:BS J.S no:=by
   have:J.S=W.S.put id (x.1,J0 x.2 uw u2):=by rw[v]
   rw[this];exact hI.hI.put hx rfl rfl (by show x.2.state≠0;omega)
  have bE:KG J.S:=by rw[v];exact hk.put _ _
  have Hc:=close h';obtain⟨a6,a4⟩:=Sat.Rq.1 Hc;refine Kh h' (BI (λe0=>AF ?_) λe0=> ?_)
  .have aU:cN u2 x.2.AK.toNat=0:=by omega
   have a0: ¬(Cr=true/\((0:Nat):Int)<x.2.AK):=by grind
   refine⟨some ⟨h,0,none⟩,(cb (W'':=J) h').1.Aa rfl,cK a4 a8 bE (λhn=>by grind) (λy hy aX=> ?_) λy a hy _ ha aK a3=> ?_⟩
   .rw[aG]at hy;cases hy;exact absurd aX (by show ¬0<cN (U' id) x.2.AK.toNat;grind)
   .rw[aG]at hy;cases hy;rcases O with ⟨c1,c2,_⟩|⟨_,_,aC,a',bU,aB⟩|⟨_,c2,_⟩
    .exact absurd ⟨c1,c2⟩ bG
    .have:a=a':=by omega
     subst this;rw[aC]at aA;refine aA aK ?_;rw[aB];exact Sat.Rq.2 ⟨a6,a3⟩
    .exact absurd aU c2
  .have aU:cN u2 x.2.AK.toNat≠0:=by omega
   rcases O with ⟨c1,c2,_⟩|⟨_,c2,_⟩|⟨_,_,aC,Gk,aB⟩
   .grind
   .omega
   .have a9:BO J U' M':=by
     have:=BO.ofL (L:=W.L) a7 λy hy=>by
      rw[aB];show ∃z,J.S.sp y.id=some z/\z.2.base=y.base;obtain⟨z,h1,h2⟩:=hI.it y hy;refine⟨z,?_,h2⟩;rw[v];show(if y.id=id then _ else W.S.sp y.id)=_
      grind
     grind
    have bA:J.L=W.L:=by rw[v]
    refine Vr Hc a9 Gk (by grind) (λhn=>by grind) (λ_ hex=> ?_) λy hy _ aL aS=> ?_
    .grind
    .rw[aG]at hy;cases hy;rw[aC]at aA;refine aA aL ?_;rw[aB];rw[bA]at aS;exact aS
 cases Cr with
 | false=>exact AU (AO rfl λj=>AO rfl (aD (by simp) _ T))
 | true=>
  refine AU (AS rfl (AF ⟨x.2.AK,(aH T).1,Kh T ⟨(aH T).1,λj=>AB (λg=> ?_) λg=>aD (λc=>g c.2) _ T⟩⟩));rcases O with ⟨_,_,aC,aB⟩|⟨c,_⟩|⟨c,_⟩
  .rw[aC]at aA;refine aA _ ?_;rw[aB];exact close T
  .exact absurd ⟨rfl,g⟩ c
  .exact absurd ⟨rfl,g⟩ c
end
def Nk.uniq{L:List DW}{x y:DW}(h:Nk L x)(hI:Km L)(g:Nk L y):x=y:=by
 exact hI.IJ.inj h.1 g.1 (Int.le_antisymm (h.2.2 y g.1 g.2.1) (g.2.2 x h.1 h.2.1))
section
variable{E:Env}{b h s r:Nat}{W W':SW}{U M U' M':Af}{Z:List Pr}{w:World}
def iB(H:Sat (Ih E b h s r W U M::Z) w): ∃em Y,Sat (Cells b E.Aw (E4 h s r em W)::Y) w/\ ∀{W2:SW} {w'},W2.S=W.S->W2.L=W.L->W2.R=W.R->W2.em=W.em->Sat (Cells b E.Aw (E4 h s r em W2)::Y) w'->Sat (Ih E b h s r W2 U M::Z) w':=by
 obtain⟨em,H1⟩:=Sat.Rq.1 H;have j:Sat (Cells b E.Aw (E4 h s r em W)::Lg E h W.S (V5 U M)::HP E s W.L::HQ E r W.R::Row E.AN 3 em (Ao KH W.em)::Z) w:=H1.front 2 rfl;refine⟨em,_,j,λ{W2 w'} e1 e2 e3 e4 h'=>Sat.Rq.2 ⟨em,?_⟩⟩;rw[e1];unfold IS;rw[e2,e3,e4];exact(h'.front 1 rfl).FP 1 rfl
def WS(H:Sat (Ih E b h s r W U M::Z) w){n:Int}(hc:0<=W.BG/\W.BG<18446744073709551616)(hn:0<=n/\n<18446744073709551616){K:World->Prop}(y: ∀w',Sat (Ih E b h s r {W with BG:=IG W.BG n} U M::Z) w'->K w'):F.Es E (some ⟨b,0,none⟩) n K w:=by
 unfold F.Es;obtain⟨em,Y,H1,J⟩:=iB H;refine AF ⟨_,H1.cell rfl,?_⟩;have fin: ∀v:Int,v=IG W.BG n->stCells ((Addr.mk b 0 none).add 5) 0 [.int .u64 v] w K:=λv hv=>by
  rw[hv];exact AV H1 (o:=0) (m:=5) rfl (by simp[E4]) λw2 j=>y w2 (J (W2:={W with BG:=IG W.BG n}) rfl rfl rfl rfl j)
 try dsimp only
 rw[AI (n:=18446744073709551615-W.BG)];refine AB (λT=>AF (fin _ ?_)) λO=>AF ⟨_,H1.cell rfl,AF (fin _ ?_)⟩
 .unfold IG;omega
 .unfold IG;rw[if_neg (by omega),AI]
def cM(H:Sat (Ih E b h s r W U M::Z) w)(y:Gd W){K:Int->World->Prop}(v: ∀w',Sat (Ih E b h s r W U M::Z) w'->K W.WL w'):F.Bu E (some ⟨b,0,none⟩) K w:=by
 unfold F.Bu T0.Bu;obtain⟨em,Y,H1,J⟩:=iB H.drew;refine AF ⟨_,H1.cell rfl,AF ⟨_,H1.cell rfl,bO H1 λw6 j=>AF ⟨_,j.cell rfl,?_⟩⟩⟩;have ht:=XC W.BG W.K6;have T:=y.rp;have hk:=v w6 (J rfl rfl rfl rfl j);unfold SW.WL at hk;refine AB (λhle=> ?_) λO=>AF ⟨_,j.cell rfl,?_⟩
 .by_cases c:timesV W.BG W.K6<W.Dg
  .rwa[if_pos c]at hk
  .rw[if_neg c,show timesV W.BG W.K6-W.Dg=0 by omega]at hk;exact hk
 .rw[if_neg (by omega)]at hk;rwa[AI]
def cO(H:Sat (Ih E b h s r W U M::Z) w){n:Int}{K:World->Prop}(J: ∀w',Sat (Ih E b h s r {W with K6:=n,BG:=0,Dg:=0} U M::Z) w'->K w'):F.FV E (some ⟨b,0,none⟩) n K w:=by
 unfold F.FV;obtain⟨em,Y,H1,O⟩:=iB H;exact AF (AV H1 (o:=0) (m:=4) rfl (by simp[E4]) λw2 j=>AF (AV j (o:=0) (m:=5) rfl (by simp[E4]) λw3 v=>AF (AV v (o:=0) (m:=6) rfl (by simp[E4]) λT y=>J T (O (W2:={W with K6:=n,BG:=0,Dg:=0}) rfl rfl rfl rfl y))))
def Ri{e:Int}(H:Sat (Ih E b h s r W U M::Z) w)(hI:De W U M)(hN:Gd W)(hr:OI W U M e W' U' M'){K:Int->World->Prop}
  (hK: ∀w',Sat (Ih E b h s r W' U' M'::Z) w'->K e w'):F.Bn E (some ⟨b,0,none⟩) K w:=by
 unfold F.Bn T0.Bn;refine Nl (λn _ w'=> ∃Y U1 M1,De Y U1 M1/\Gd Y/\OI Y U1 M1 e W' U' M'/\n=YS Y.L/\Sat (Ih E b h s r Y U1 M1::Z) w') _ ⟨W,U,M,hI,hN,hr,rfl,H⟩ ?_;rintro n _ _ w2 ⟨Y,U1,M1,T,aB,aC,rfl,H2⟩;refine cM H2 aB λw5 H5=>AB (λhd=> ?_) λhd=> ?_
 .refine LX H5 T.se (λJ w8 H8=>AS rfl ?_) λx O w8 H8=>AO rfl ?_
  .rcases aC with h0|⟨_,_⟩|⟨_,O,_,_⟩|⟨_,O,_,_,_,_⟩
   .omega
   .exact hK w8 H8
   .have:=J _ O.1;rw[O.2.1]at this;cases this
   .have:=J _ O.1;rw[O.2.1]at this;cases this
  .have aM:=RY T.se O.1 O.2.1;have j:=T.rem x.id;rcases aC with h0|⟨_,J⟩|⟨_,aD,hy,hz⟩|⟨_,aD,v,Au,aS,aK⟩
   .omega
   .have:=J _ O.1;rw[O.2.1]at this;cases this
   .obtain rfl:=O.uniq T.se aD;refine Jn H8 j.inv j.hk j.JI j.em (λz hz=>(Ds.1 hz).2) (λhn=> ?_) (λz _ _ aE aA=>AS rfl (hK aE aA)) λz _ aJ=> ?_
    .grind
    grind
   .obtain rfl:=O.uniq T.se aD;refine Jn H8 j.inv j.hk j.JI j.em (λz hz=>(Ds.1 hz).2) (λhn=> ?_) (λz _ hz=> ?_) λz _ _=>⟨_,_,_,_,_,v,Au.inv,λaE aA=>AO rfl ⟨_,?_,_,_,_,Au,v.num (W:={Y with L:=EY Y.L _}) ⟨aB.ch,aB.rp⟩,aK,rfl,aA⟩⟩
    .obtain⟨y,_,_,hy,_⟩:=v
     grind
    .obtain⟨y,_,_,_,aJ,_⟩:=v
     grind
    .rw[v.YS]
     grind
 .rcases aC with h0|⟨_,_⟩|⟨_,O,_,_⟩|⟨_,O,_,_,_,_⟩
  .exact hK w5 H5
  all_goals omega
end
section
variable{E:Env}{w:World}{Rs Z:List Pr}
def cQ{b1 t1:Nat}{us:List Value}{s0 s1 s2:Ac}{pl:List Int}{rf:List Bool}{fl:List Int}(v: ∀x∈pl,0<=x/\x<18446744073709551616)
  (k0:pl.length<=1099511627776)(k1:rf.length<=1099511627776)(k2:fl.length<=1099511627776)
  {K:Option Addr->World->Prop}(Y: ∀b w',Sat (DT E b (MF pl rf fl)::Rs) w'->K (some ⟨b,0,none⟩) w')
  (H:Sat (Cells b1 t1 us::Row E.AD 1 s0 (ints .u64 pl)::Row E.AY 1 s1 (BA rf)::Row E.AD 1 s2 (ints .u64 fl)::Rs) w):F.KR E s0 s1 s2 K w:=by
 have J:pl.length=s0.len:=by have:=(H.front 1 rfl).EA;rw[ints,List.length_map]at this;omega
 have O:rf.length=s1.len:=by have:=(H.front 2 rfl).EA;rw[BA,List.length_map]at this;omega
 have T:fl.length=s2.len:=by have:=(H.front 3 rfl).EA;rw[ints,List.length_map]at this;omega
 refine l9 H v (λw' h=>by simpa using(h.front 1 rfl).KN) J (by omega) (λw' h=>by simpa using(h.front 2 rfl).KN) O (by omega) (λw' h=>by simpa using(h.front 3 rfl).KN) T (by omega) λb y j=>Y b y ?_;exact((((j.front 1 rfl).tail.front 1 rfl).tail.front 1 rfl).tail.front 1 rfl).tail
def Rj(H:Sat Rs w){a0 a1 a2:Ac}{pl:List Int}{rf:List Bool}{fl:List Int}(J: ∀x∈pl,0<=x/\x<18446744073709551616)
  (h0: ∀w',Sat Rs w'->rowAt w' a0.base a0.len (ints .u64 pl))(l0:pl.length=a0.len)(k0:a0.len<=1099511627776)
  (h1: ∀w',Sat Rs w'->rowAt w' a1.base a1.len (BA rf))(l1:rf.length=a1.len)(k1:a1.len<=1099511627776)
  (h2: ∀w',Sat Rs w'->rowAt w' a2.base a2.len (ints .u64 fl))(l2:fl.length=a2.len)(k2:a2.len<=1099511627776)
  {K:Option Addr->World->Prop}(hK: ∀cb b h s r w',Sat (Ak E cb b h s r (SW.new (HS.new (MF pl rf fl)))::Rs) w'->K (some ⟨cb,0,none⟩) w'):F.Cz E a0 a1 a2 K w:=by
 unfold F.Cz T0.Cz;have O:(ints IntKind.u64 pl).length=a0.len:=by rw[ints,List.length_map];exact l0
 have aB:(BA rf).length=a1.len:=by rw[BA,List.length_map];exact l1
 have T:(ints IntKind.u64 fl).length=a2.len:=by rw[ints,List.length_map];exact l2
 refine AQ (vs:=[GJ a0,GJ a1,GJ a2]) H λb1 w2 H2 _=> ?_;refine Aj (λst w'=> ∃b,st.1=some ⟨b,0,none⟩/\Sat (DT E b (MF pl rf fl)::Rs) w') ?_ ?_
 .have Hd:Sat (Cells b1 E.IH [GJ a0,GJ a1,GJ a2]::iN::iN::iN::Rs) w2.drew:=(H2.drew.emp.emp.emp).front 3 rfl;clear H2;have t4: ∀{P0 P1 P2:Pr} {w'},Sat (P0::P1::P2::Rs) w'->Sat Rs w':=λh=>h.tail.tail.tail;refine⟨a0,Hd.Aa rfl,a1,Hd.cell rfl,a2,Hd.cell rfl,?_⟩
  repeat' first
   | (exact Sat.cell (by assumption) (by rfl))
   | (exact Sat.Aa (by assumption) (by rfl))
   | (refine NA 1 (a:=a0) (vs:=ints .u64 pl) (by assumption) (by rfl) rfl (by intro w' h;exact h0 w' (t4 h)) O k0 (by decide) (RO _ _) λs' w' v=> ?_)
   | (refine NA 1 (a:=a2) (vs:=ints .u64 fl) (by assumption) (by rfl) rfl (by intro w' h;exact h2 w' (t4 h)) T k2 (by decide) (RO _ _) λs' w' v=> ?_)
   | (refine NA 2 (a:=a1) (vs:=BA rf) (by assumption) (by rfl) rfl (by intro w' h;exact h1 w' (t4 h)) aB k1 (by decide) (mT _) λs' w' v=> ?_)
   | (refine NA 3 (a:=a0) (vs:=ints .u64 pl) (by assumption) (by rfl) rfl (by intro w' h;exact h0 w' (t4 h)) O k0 (by decide) (RO _ _) λs' w' v=> ?_)
   | (refine NA 3 (a:=a2) (vs:=ints .u64 fl) (by assumption) (by rfl) rfl (by intro w' h;exact h2 w' (t4 h)) T k2 (by decide) (RO _ _) λs' w' v=> ?_)
   | (refine VJ 2 (t:=E.AY) (by assumption) (by rfl) λb' w' v=> ?_)
   | (refine VJ 1 (t:=E.AD) (by assumption) (by rfl) λb' w' v=> ?_)
   | (refine VJ 3 (t:=E.AD) (by assumption) (by rfl) λb' w' v=> ?_)
   | (exact cQ J (by omega) (by omega) (by omega) (λb w' h=>⟨b,rfl,h⟩) (by assumption))
   | (exact cQ J (by omega) (by omega) (by omega) (λb w' h=>⟨b,rfl,h⟩) (Sat.perm (by assumption) (.cons _ (((List.Perm.swap _ _ _).trans (.cons _ (.swap _ _ _))).trans (.swap _ _ _)))))
   | (refine And.intro ?_ ?_)
 .rintro⟨r,u⟩ _ w5 ⟨b,rfl,H5⟩;refine AO rfl (mP H5 λh aC y=>fW y λs w6 H6=>aZ H6 λr w8 H8=> ?_);refine AU (AO rfl (AO rfl λj=>AO rfl (gE H8 λb aC y=>AO rfl (gK y λcb aD Y=> ?_))));exact hK cb b h s r aD Y
def cR(H:Sat Rs w){K:Option Addr->World->Prop}(j: ∀cb b h s r w',Sat (Ak E cb b h s r (SW.new (HS.new (MF [] [] [])))::Rs) w'->K (some ⟨cb,0,none⟩) w'):F.Cz E ⟨none,0,0⟩ ⟨none,0,0⟩ ⟨none,0,0⟩ K w:=
 Rj (a0:=⟨none,0,0⟩) (a1:=⟨none,0,0⟩) (a2:=⟨none,0,0⟩) H (pl:=[]) (rf:=[]) (fl:=[]) (by simp) (λ_ _=>show([]:List Value)=[]from rfl) rfl (by decide) (λ_ _=>show([]:List Value)=[]from rfl) rfl (by decide) (λ_ _=>show([]:List Value)=[]from rfl) rfl (by decide) j
end
structure Vs(E:Env):Prop extends EnvC E where
 kG: ∀a b c (R:Value->World->Prop) w,F.CJ E a b c (λe w'=>R (.int .i64 e) w') w->E.call E.IL #[.pointer a,.pointer b,.pointer c] w R Lp
structure KS where
 p:Int
 hd:Nat->Int
 Ho:Int
 CZ:Int
def Cg(cb:Nat)(C:KS):List Value:=.pointer (some ⟨cb,0,none⟩):: .int .i64 C.p::(((List.range 136).map λj=>.int .i64 (C.hd j))++[.int .u64 C.Ho,.int .i64 C.CZ])
def BB(E:Env)(c cb:Nat)(C:KS):Pr:=Cells c E.FU (Cg cb C)
def Le(cb:Nat)(C:KS):(Cg cb C).length=140:=by simp[Cg]
def yK(cb:Nat)(C:KS){j:Nat}(v:j<136):(Cg cb C)[j+2]? =some (.int .i64 (C.hd j)):=by
 unfold Cg;rw[List.getElem?_cons_succ,List.getElem?_cons_succ,List.getElem?_append_left (by simpa using v)];simp[v]
def kH(cb:Nat)(C:KS):(Cg cb C)[138]? =some (.int .u64 C.Ho):=by
 unfold Cg
 grind
def kI(cb:Nat)(C:KS):(Cg cb C)[139]? =some (.int .i64 C.CZ):=by
 unfold Cg
 grind
def sX(f:Nat->Int)(n k:Nat)(v:Int):((List.range n).map λj=>Value.int .i64 (f j)).set k (.int .i64 v)=(List.range n).map λj=>Value.int .i64 (if j=k then v else f j):=by
 refine List.ext_getElem (by simp) λi h1 h2=> ?_
 grind
def cS(cb:Nat)(C:KS){j:Nat}(y:j<136)(v:Int):(Cg cb C).set (j+2) (.int .i64 v)=Cg cb {C with hd:=λi=>if i=j then v else C.hd i}:=by
 unfold Cg;rw[List.set_cons_succ,List.set_cons_succ,List.set_append_left _ _ (by simpa using y),sX]
def N0(cb:Nat)(C:KS)(v:Int):(Cg cb C).set 138 (.int .u64 v)=Cg cb {C with Ho:=v}:=by
 unfold Cg;rw[show 138=136+1+1 from rfl,List.set_cons_succ,List.set_cons_succ,List.set_append_right _ _ (by simp)];simp
def K8(cb:Nat)(C:KS)(v:Int):(Cg cb C).set 139 (.int .i64 v)=Cg cb {C with CZ:=v}:=by
 unfold Cg;rw[show 139=137+1+1 from rfl,List.set_cons_succ,List.set_cons_succ,List.set_append_right _ _ (by simp)];simp
def TM(k:Int)(np:Bool):Nat:=k.toNat*2+if np=true then 1 else 0
def Ym{k:Int}{np:Bool}(h0:0<=k)(h1:k<68):TM k np<136:=by unfold TM;grind
def KS.held(C:KS)(k:Int)(np:Bool):Int:=if 0<k/\k<68 then C.hd (TM k np)else 0
def KS.hold(C:KS)(k:Int)(np:Bool)(id:Int):KS:={C with hd:=λi=>if i=TM k np then id else C.hd i}
section
variable{E:Env}{w:World}{Z:List Pr}{c cb:Nat}{C:KS}
def Pw(H:Sat (BB E c cb C::Z) w):w.cell? (Addr.mk c 0 none)=some (.pointer (some ⟨cb,0,none⟩))/\w.cell? ((Addr.mk c 0 none).add 1)=some (.int .i64 C.p)/\w.cell? ((Addr.mk c 0 none).add 138)=some (.int .u64 C.Ho)/\w.cell? ((Addr.mk c 0 none).add 139)=some (.int .i64 C.CZ):=
 have H:Sat (Cells c E.FU (Cg cb C)::Z) w:=H
 ⟨H.Aa rfl,H.cell rfl,H.cell (by rw[Nat.zero_add];exact kH cb C),H.cell (by rw[Nat.zero_add];exact kI cb C)⟩
def QU(H:Sat Z w){p:Int}{K:Option Addr->World->Prop}(v: ∀c w',Sat (BB E c cb ⟨p,λ_=>0,0,0⟩::Z) w'->K (some ⟨c,0,none⟩) w'):F.Mz E (some ⟨cb,0,none⟩) p K w:=by
 unfold F.Mz;exact AQ (vs:=Cg cb ⟨p,λ_=>0,0,0⟩) H λc w' j _=>v c w' j
def sY{np:Bool}{K:Int->World->Prop}(j:K (if np=true then 1 else 0) w):F.L0 E np K w:=by
 unfold F.L0;cases np
 .exact AO rfl j
 .exact AS rfl j
def kJ{k:Int}{K:Bool->World->Prop}(h1:0<k/\k<68->K true w)(h0: ¬(0<k/\k<68)->K false w):F.LI E k K w:=by
 unfold F.LI;refine AB (λg=> ?_) λg=>h0 (by omega);by_cases e:k<68
 .rw[decide_eq_true e];exact h1 ⟨g,e⟩
 .rw[decide_eq_false e];exact h0 (by omega)
def KB(H:Sat (BB E c cb C::Z) w){k:Int}{np:Bool}{K:Int->World->Prop}(j: ∀w',Sat (BB E c cb C::Z) w'->K (C.held k np) w'):F.Cx E (some ⟨c,0,none⟩) k np K w:=by
 unfold F.Cx T0.Cx;refine kJ (λg=>AO rfl (AF ⟨by omega,sY ?_⟩)) λg=>AS rfl ?_
 .have y:((0:Int)<=(if np=true then 1 else 0)/\((if np=true then 1 else 0:Int))<(2:Nat)):=by omega
  refine⟨y,C.hd (TM k np),?_,?_⟩
  .have v:Sat (Cells c E.FU (Cg cb C)::Z) w.drew:=H.drew;rw[add_add,add_add];have e:2+(Int.toNat k*2+Int.toNat (if np=true then 1 else 0)*1)=TM k np+2:=by unfold TM;grind
   rw[e];exact v.cell (by rw[Nat.zero_add];exact yK cb C (Ym (by omega) g.2))
  .have:=j _ H.drew;unfold KS.held at this
   grind
 .have:=j _ H;unfold KS.held at this
  grind
def TN(H:Sat (BB E c cb C::Z) w){k id:Int}{np:Bool}(hk:0<k/\k<68){K:World->Prop}(y: ∀w',Sat (BB E c cb (C.hold k np id)::Z) w'->K w'):F.D5 E (some ⟨c,0,none⟩) k np id K w:=by
 unfold F.D5 T0.D5;have J:((0:Int)<=(if np=true then 1 else 0)/\((if np=true then 1 else 0:Int))<(2:Nat)):=by omega
 refine AF ⟨by omega,sY ⟨J,?_⟩⟩;have v:Sat (Cells c E.FU (Cg cb C)::Z) w.drew:=H.drew;rw[add_add,add_add];have e:2+(Int.toNat k*2+Int.toNat (if np=true then 1 else 0)*1)=TM k np+2:=by unfold TM;grind
 rw[e];refine AV v (o:=0) rfl (by rw[Le];omega) λw' j=>y w' ?_;rw[Nat.zero_add,cS cb C (Ym (by omega) hk.2)]at j;exact j
end
def kK{W:SW}{U M:Af}(hI:BO W U M):W.S.sp 0=none:=by
 refine Classical.byContradiction λg=> ?_;obtain⟨a,j,_⟩:=(hI.hI.sf 0).1 g;omega
def NH(C:KS){k:Int}{np:Bool}(h0:0<k)(h1:k<68)(id:Int):(C.hold k np id).held k np=id:=by
 unfold KS.held KS.hold;rw[if_pos ⟨h0,h1⟩];simp
def xE{k l:Int}{np mp:Bool}(h0:0<=k)(h1:0<=l)(h:TM k np=TM l mp):k=l/\np=mp:=by
 unfold TM at h
 grind
def iC(C:KS){k l:Int}{np mp:Bool}(h0:0<k)(h: ¬(l=k/\mp=np))(id:Int):(C.hold k np id).held l mp=C.held l mp:=by
 unfold KS.held;by_cases g:0<l/\l<68
 .rw[if_pos g,if_pos g];unfold KS.hold;simp only;rw[if_neg];intro e;have:=xE (by omega) (by omega) e
  grind
 omega
def Sb(C:KS)(k:Int)(np:Bool)(a b:Int):(C.hold k np a).hold k np b=C.hold k np b:=by
 unfold KS.hold
 grind
section
variable{E:Env}{w:World}{Z:List Pr}{c cb b h s r:Nat}{C:KS}{W:SW}{U M:Af}
def cT(hT: ∀w',Sat Z w'->Em E.AG w')(H:Sat (BB E c cb C::Ak E cb b h s r W::Z) w)(hI:BO W U M){k:Int}{np:Bool}{K:Int->Bool->World->Prop}
  (aB:W.S.sp (C.held k np)=none-> ∀w',Sat (BB E c cb C::Ak E cb b h s r W::Z) w'->K 0 false w')
  (aC: ∀x,W.S.sp (C.held k np)=some x->(∀i:Nat,(i:Int)<x.2.AK->U (C.held k np) i=true)-> ∀w',Sat (BB E c cb C::Ak E cb b h s r W::Z) w'->K 0 false w')
  (aD: ∀x (n:Nat) j,W.S.sp (C.held k np)=some x->(n:Int)<x.2.AK->U (C.held k np) n=false->(∀i,i<n->U (C.held k np) i=true)->
   BO {W with S:=W.S.put (C.held k np) (x.1,{x.2 with uw:=j,used:=x.2.used+1,look:=(n:Int)+1})} (U.set (C.held k np) λi=>U (C.held k np) i||i==n) M->
   ∀w',Sat (BB E c cb C::Ak E cb b h s r {W with S:=W.S.put (C.held k np) (x.1,{x.2 with uw:=j,used:=x.2.used+1,look:=(n:Int)+1})}::Z) w'->K (x.2.base+n*x.2.elem) true w'):
  F.Dz E (some ⟨c,0,none⟩) k np K w:=by
 unfold F.Dz T0.Dz;have aA: ∀w',Sat (Cells cb E.Bb [.pointer (some ⟨b,0,none⟩)]::BB E c cb C::Z) w'->Em E.AG w':=λw' Y=>hT w' Y.tail.tail;refine AF ⟨_,(Pw H).1,EP (H.front 1 rfl) (Me (H.front 1 rfl:Sat (Ak E cb b h s r W::BB E c cb C::Z) w).El ?_)⟩;refine KB H λw8 H8=> ?_;have H9:Sat (Ap E b h s r W::Cells cb E.Bb [.pointer (some ⟨b,0,none⟩)]::BB E c cb C::Z) w8:=(H8.front 1 rfl:Sat (Ak E cb b h s r W::BB E c cb C::Z) w8).El;have bk: ∀{W':SW} {w'},Sat (Ap E b h s r W'::Cells cb E.Bb [.pointer (some ⟨b,0,none⟩)]::BB E c cb C::Z) w'->Sat (BB E c cb C::Ak E cb b h s r W'::Z) w':=λY=>(Y.F6).perm (.swap _ _ _);refine S5 H9 (λJ=>AS rfl (aB J w8 H8)) λx hx=>AO rfl ?_;refine bJ aA H9 hI hx (λy w' H'=>AS rfl (aC x hx y w' (bk H'))) λn j J hu hl v aM O=>AO rfl ?_;refine Td O v (id:=C.held k np) (x:=(x.1,{x.2 with uw:=j,used:=x.2.used+1,look:=(n:Int)+1})) HS.IQ (by omega) J λaF T=> ?_;exact aD x n j hx J hu hl v aF (bk T)
variable(hE:Vs E)
include hE
def Vt(W:SW)(C:KS)(k:Int)(np:Bool):Prop:=C.held k np=0∨(0<C.held k np/\ ∃y,W.S.sp (C.held k np)=some y/\ ∀x∈W.L,x.id≠C.held k np)
def Pd(W:SW)(C:KS)(k:Int)(np:Bool)(W0:SW):Prop:=(C.held k np=0/\W0=W)∨(0<C.held k np/\ ∃y Gk,W.S.sp (C.held k np)=some y/\(∀x∈W.L,x.id≠C.held k np)/\W0={W with L:=JG W.L ⟨Gk,C.held k np,y.2.base,(y.2.cls,y.2.G5,y.2.used==y.2.AK,true)⟩})
theorem Vu(H:Sat (BB E c cb C::Ak E cb b h s r W::Z) w)(hI:BO W U M){k:Int}{np:Bool}(hk:0<k/\k<68)(hf:W.L.length<1099511627776)(hH:Vt W C k np){K:World->Prop}
  (O: ∀W0,Pd W C k np W0->BO W0 U M-> ∀w',Sat (BB E c cb (C.hold k np 0)::Ak E cb b h s r W0::Z) w'->K w'):F.CK E (some ⟨c,0,none⟩) k np K w:=by
 unfold F.CK T0.CK;refine KB H λw2 J=> ?_;rcases hH with h0|⟨hp,y,Y,j⟩
 .rw[h0];refine AO rfl ?_;have e:C.hold k np 0=C:=by
   unfold KS.hold;have:(λi=>if i=TM k np then 0 else C.hd i)=C.hd:=by
    funext i;split
    .rename_i e;have h1:=h0;unfold KS.held at h1
     grind
    .rfl
   rw[this]
  have:=O W (.inl ⟨h0,rfl⟩) hI w2
  grind
 .refine AS (by grind) (AF ⟨_,(Pw J).1,?_⟩);refine bM hE.toEnvC (J.front 1 rfl:Sat (Ak E cb b h s r W::BB E c cb C::Z) w2) hI hf (λhn=>by grind) (λ_ ⟨z,hz,e⟩=>absurd e (j z hz)) λx T _ Gk v w6 H6=> ?_;rw[Y]at T;cases T;refine TN (H6.front 1 rfl:Sat (BB E c cb C::Ak E cb b h s r _::Z) w6) hk λw7 H7=> ?_;exact O _ (.inr ⟨hp,y,Gk,Y,j,rfl⟩) v w7 H7
theorem Yn(H:Sat Z w){k:Int}(hk:0<k/\k<68){K:Int->World->Prop}(J: ∀w',Sat Z w'->K ((AX k).2.1*8192) w'):F.HX E k K w:=by
 unfold F.HX T0.HX;refine Nh H λr1 Y v=> ?_;have T:=v.Gb (by decide) Ae;rw[IZ]at T;obtain⟨x,y⟩:=v.FY (by decide) Ae (i:=k.toNat) (by rw[IZ];omega);have O:=Ia (c:=k) (by omega) hk.2;rw[y];refine AF ⟨⟨by omega,by omega⟩,_,by rw[add_add];exact v.Bp Ae y (K4 (by omega) hk.2) (j:=1) rfl,?_⟩;rw[AI (n:=(AX k).2.1),AI];exact J Y v.tail
end
section
variable{E:Env}{w:World}{Z:List Pr}(hE:EnvC E)
include hE
end
def SW.Rr(W:SW)(k:Int):SW:={W with BG:=IG W.BG ((AX k).2.1*8192)}
def BO.Rr{W:SW}{U M:Af}(h:BO W U M)(k:Int):BO (W.Rr k) U M:=⟨h.hI,h.sp,h.it⟩
def chg_ch{W:SW}(h:0<=W.BG/\W.BG<18446744073709551616){k:Int}(v:0<k)(j:k<68):0<=(W.Rr k).BG/\(W.Rr k).BG<18446744073709551616:=by
 have hp:=Ia (c:=k) (by omega) j;show 0<=IG _ _/\IG _ _<_;unfold IG;omega
section
variable{E:Env}{w:World}{Z:List Pr}{c cb b h s r:Nat}{C:KS}{W:SW}{U M:Af}
variable(hE:Vs E)
include hE
end
def SW.take(W:SW)(id:Int)(x:Nat×SI)(uw:List Int)(n:Nat):SW:={W with S:=W.S.put id (x.1,{x.2 with uw:=uw,used:=x.2.used+1,look:=(n:Int)+1})}
def Af.take(U:Af)(id:Int)(n:Nat):Af:=U.set id λi=>U id i||i==n
def Sc{W W0:SW}{C:KS}{k:Int}{np:Bool}(h:Pd W C k np W0):W0.S=W.S/\W0.K6=W.K6/\W0.BG=W.BG/\W0.Dg=W.Dg/\W0.R=W.R:=by
 rcases h with ⟨_,rfl⟩|⟨_,y,Gk,v,j,rfl⟩<;>exact⟨rfl,rfl,rfl,rfl,rfl⟩
section
variable{E:Env}{w:World}{Z:List Pr}{c cb b h s r:Nat}{C:KS}{W:SW}{U M:Af}
variable(hE:Vs E)
include hE
end
def Mp(n:Int):Int:=if n %2≠0 then 1 else if n %4≠0 then 2 else if n %8≠0 then 4 else 8
def I5(CZ n:Int):Int:=(CZ+Mp n-1)/Mp n*Mp n
def Lt(n:Int):(Mp n=1/\n %2≠0)∨(Mp n=2/\n %2=0/\n %4≠0)∨(Mp n=4/\n %4=0/\n %8≠0)∨(Mp n=8/\n %8=0):=by
 unfold Mp;omega
def Rk(CZ n:Int):CZ<=I5 CZ n/\I5 CZ n<CZ+Mp n/\I5 CZ n %Mp n=0:=by
 unfold I5;rcases Lt n with h|h|h|h<;>(grind)
def KS.Px(C:KS)(a n:Int):KS:=if C.Ho=0∨n<C.CZ then{C with Ho:=a,CZ:=n}else C
def KS.kL(C:KS):KS:={C with Ho:=0,CZ:=0}
section
variable{E:Env}{w:World}{Z:List Pr}{c cb b h s r:Nat}{C:KS}{W:SW}{U M:Af}
def WT(H:Sat (BB E c cb C::Z) w){n:Int}(h1:1<=n)(h2:n<16)(ha:0<=C.CZ/\C.CZ<=1000){K:Int->World->Prop}(hK:K (I5 C.CZ n) w):F.Hg E (some ⟨c,0,none⟩) n K w:=by
 unfold F.Hg;refine Aj (λst w'=>w'=w/\st.1=Mp n) ?_ ?_
 .refine AJ (λst w'=>w'=w/\(st.1=1∨(st.1=2/\n %2=0)∨(st.1=4/\n %4=0)∨(st.1=8/\n %8=0))) (λst _=>(9-st.1).toNat) ⟨rfl,.inl rfl⟩ ?_;rintro⟨a,u⟩ _ w2 ⟨rfl,hc⟩;dsimp only at hc⊢;refine AB (λaD=> ?_) λaC=> ?_
  .have J:a=1∨(a=2/\n %2=0)∨(a=4/\n %4=0):=by omega
   have j:i64 (2*a)=2*a:=AM;have v:i64 (a*2)=a*2:=AM;rw[j,v];refine⟨by omega,BI (λg=>⟨⟨rfl,?_⟩,by omega⟩) λg=>⟨rfl,?_⟩⟩
   .grind
   .rw[Int.tmod_eq_emod_of_nonneg (by omega)]at g;show a=Mp n;rcases Lt n with h|h|h|h<;>rcases J with rfl|⟨rfl,_⟩|⟨rfl,_⟩<;>omega
  .refine⟨rfl,?_⟩;show a=Mp n;rcases Lt n with h|h|h|h<;>omega
 .rintro⟨a,u⟩ _ w3 ⟨rfl,rfl⟩;refine AF ⟨_,(Pw H).2.2.2,?_⟩;have hb:=Rk C.CZ n;have y:=Lt n;refine⟨by omega,?_⟩;have j:i64 (C.CZ+Mp n)=C.CZ+Mp n:=AM;have v:i64 (C.CZ+Mp n-1)=C.CZ+Mp n-1:=AM;have O:Int.tdiv (C.CZ+Mp n-1) (Mp n)=(C.CZ+Mp n-1)/Mp n:=Int.tdiv_eq_ediv_of_nonneg (by omega);have T:i64 ((C.CZ+Mp n-1)/Mp n)=(C.CZ+Mp n-1)/Mp n:=by rcases y with h|h|h|h<;>(rw[h.1];exact AM)
  have Y:i64 ((C.CZ+Mp n-1)/Mp n*Mp n)=I5 C.CZ n:=AM (by grind) (by grind);dsimp only;rw[j,v,O,T,Y];exact hK
def cU(H:Sat (BB E c cb C::Z) w){n:Int}(ha:0<=C.CZ/\C.CZ<=16)(ht:0<=C.Ho/\C.Ho<281474976710656){K:Int->Bool->Int->World->Prop}
  (h1: ¬(1<=n/\n<16)->K 0 false 1 w)
  (h2:1<=n->n<16->C.Ho≠0->I5 C.CZ n+n<=16-> ∀w',Sat (BB E c cb {C with CZ:=I5 C.CZ n+n}::Z) w'->K (C.Ho+I5 C.CZ n) false 0 w')
  (h3:1<=n->n<16->(C.Ho=0∨16<I5 C.CZ n+n)->F.CN E (some ⟨c,0,none⟩) 2 true (λr7 r8 J=>CND ((r8:Int) !=0) (K 0 false r8 J) (F.Gv E (some ⟨c,0,none⟩) r7 n (λY=>K r7 true 0 Y) J)) w):
  F.DO E (some ⟨c,0,none⟩) n K w:=by
 unfold F.DO T0.DO;refine Aj (λst w'=>w'=w/\(st.1=true↔ ¬(1<=n/\n<16))) (AB (λg=>⟨rfl,by simp;omega⟩) λg=>⟨rfl,by simp;omega⟩) ?_;rintro⟨st,u⟩ _ w3 ⟨rfl,y⟩;dsimp only at y⊢;refine AP (λg=>h1 (y.1 g)) λg=> ?_;have v:1<=n/\n<16:=Classical.byContradiction λe=>by grind
 unfold F.Ev T0.Ev;have hb:=Rk C.CZ n;have aI:=Lt n;have e1:i64 (I5 C.CZ n+n)=I5 C.CZ n+n:=AM;refine WT H v.1 v.2 ⟨ha.1,by omega⟩ ?_;refine Aj (λst w'=>w'=w3/\(st.1=true↔(C.Ho=0∨16<I5 C.CZ n+n))) (AF ⟨_,(Pw H).2.2.1,BI (λg=>⟨rfl,by simp[g]⟩) λg=>⟨rfl,by grind⟩⟩) ?_;rintro⟨aJ,u⟩ _ w5 ⟨rfl,j⟩;dsimp only at j⊢;refine AP (λg2=>AO rfl (h3 v.1 v.2 (j.1 g2))) λg2=> ?_;have T: ¬(C.Ho=0∨16<I5 C.CZ n+n):=λe=>by grind
 refine AF ?_;have H':Sat (Cells c E.FU (Cg cb C)::Z) w5:=H;refine AV H' (o:=0) rfl (by rw[Le];decide) λJ O=> ?_;rw[Nat.zero_add,e1,K8]at O;refine AF ⟨_,(Pw O).2.2.1,AS rfl ?_⟩;have e2:u64 (I5 C.CZ n)=I5 C.CZ n:=AI;have e3:u64 (C.Ho+I5 C.CZ n)=C.Ho+I5 C.CZ n:=AI;dsimp only;rw[e2,e3];exact h2 v.1 v.2 (λe=>T (.inl e)) (by omega) J O
def Yo(H:Sat (BB E c cb C::Z) w){a n:Int}{K:World->Prop}(v: ∀w',Sat (BB E c cb (C.Px a n)::Z) w'->K w'):F.Gv E (some ⟨c,0,none⟩) a n K w:=by
 unfold F.Gv;refine Aj (λst w'=>w'=w/\(st.1=true↔(C.Ho=0∨n<C.CZ))) (AF ⟨_,(Pw H).2.2.1,BI (λg=>⟨rfl,by simp[g]⟩) λg=>AF ⟨_,(Pw H).2.2.2,rfl,by simp[g]⟩⟩) ?_;rintro⟨st,u⟩ _ T ⟨rfl,y⟩;dsimp only at y⊢;unfold KS.Px at v;refine AP (λg=> ?_) λg=> ?_
 .rw[if_pos (y.1 g)]at v;have Y:Sat (Cells c E.FU (Cg cb C)::Z) T:=H;refine AF (AV Y (o:=0) rfl (by rw[Le];decide) λw9 O=>AF ?_);rw[Nat.zero_add,N0]at O;refine AV O (o:=0) rfl (by rw[Le];decide) λJ j=> ?_;rw[Nat.zero_add,K8]at j;exact v J j
 .rw[if_neg (λe=>by grind)]at v;exact v T H
def cV(H:Sat (BB E c cb C::Z) w){k:Int}{np:Bool}(h0:C.held k np=0){K:World->Prop}(v: ∀w',Sat (BB E c cb C::Z) w'->K w'):F.CK E (some ⟨c,0,none⟩) k np K w:=by
 unfold F.CK T0.CK;refine KB H λy j=> ?_;rw[h0];exact AO rfl (v y j)
variable(hE:Vs E)
include hE
end
inductive Ku(W:SW)(U M:Af)(id:Int):Int->Bool->SW->Af->Prop
 | none:W.S.sp id=none->Ku W U M id 0 false W U
 | full {x}:W.S.sp id=some x->(∀i:Nat,(i:Int)<x.2.AK->U id i=true)->Ku W U M id 0 false W U
 | take {x uw} {n:Nat}:W.S.sp id=some x->(n:Int)<x.2.AK->U id n=false->(∀i,i<n->U id i=true)->Ku W U M id (x.2.base+n*x.2.elem) true (W.take id x uw n) (U.take id n)
def Gd.nP{W W0:SW}{C:KS}{k:Int}{np:Bool}(h:Gd W)(y:Pd W C k np W0):Gd W0:=by
 obtain⟨_,_,j,v,_⟩:=Sc y;exact⟨by rw[j];exact h.ch,by rw[v];exact h.rp⟩
def Gd.Rr{W:SW}(h:Gd W){k:Int}(j:0<k)(v:k<68):Gd (W.Rr k):=⟨chg_ch h.ch j v,h.rp⟩
def De.Rr{W:SW}{U M:Af}(h:De W U M)(k:Int):De (W.Rr k) U M:=⟨h.inv.Rr k,h.hk,h.se,h.em⟩
inductive TO(p k:Int)(np:Bool)(W:SW)(U M:Af):Int->Int->SW->Af->Af->Prop
 | iD {e W1 U1 M1}:OI W U M e W1 U1 M1->e≠0->TO p k np W U M 0 e W1 U1 M1
 | get {W1 U1 M1 id e W2 U2 M2}:OI W U M 0 W1 U1 M1->De W1 U1 M1->Gd W1->L8 p k np W1 U1 M1 id e W2 U2 M2->De W2 U2 M2->TO p k np W U M id e W2 U2 M2
inductive Ki(C:KS)(k:Int)(np:Bool)(W:SW)(U M:Af):Int->Int->KS->SW->Af->Af->Prop
 | bad: ¬(0<k/\k<68)->Ki C k np W U M 0 1 C W U M
 | dB {a W1 U1}:0<k/\k<68->Ku W U M (C.held k np) a true W1 U1->Ki C k np W U M a 0 C W1 U1 M
 | no {W0 id e W1 U1 M1}:0<k/\k<68->Ku W U M (C.held k np) 0 false W U->Pd W C k np W0->De W0 U M->Gd W0->TO C.p k np (W0.Rr k) U M id e W1 U1 M1->e≠0->Ki C k np W U M 0 e (C.hold k np 0) W1 U1 M1
 | new {W0 id W1 U1 M1 a ok W2 U2}:0<k/\k<68->Ku W U M (C.held k np) 0 false W U->Pd W C k np W0->De W0 U M->Gd W0->TO C.p k np (W0.Rr k) U M id 0 W1 U1 M1->De W1 U1 M1->Ku W1 U1 M1 id a ok W2 U2->Ki C k np W U M a 0 (C.hold k np id) W2 U2 M1
def ER.err{k:Int}{np full:Bool}{W W':SW}{U M U' M':Af}{id e:Int}{ok:Bool}(h:ER k np full W U M id ok e W' U' M')(he:e≠0):id=0:=by
 induction h with
 | none _=>rfl
 | Kg _ _ _=>rfl
 | LN _ _ _ _ _=>omega
 | go _ _ _ _ _ _ ih=>exact ih he
def L8.err{p k id e:Int}{np:Bool}{W W':SW}{U M U' M':Af}(h:L8 p k np W U M id e W' U' M')(he:e≠0):id=0:=by
 cases h with
 | bad _=>rfl
 | EO _ _ _=>omega
 | part _ _ _ h _=>exact h.err he
 | full _ _ _ _ _ h _=>exact h.err he
 | lost _ _ _ _ _ _ _ _=>rfl
 | new=>exact absurd rfl he
section
variable{E:Env}{c cb b h s r:Nat}{C:KS}{W:SW}{U M:Af}{Z:List Pr}{w:World}
def Rl(O: ∀w',Sat Z w'->Em E.AG w')(H:Sat (BB E c cb C::Ak E cb b h s r W::Z) w)(hI:De W U M){k:Int}{np:Bool}{K:Int->Bool->World->Prop}
  (y: ∀a ok W' U',Ku W U M (C.held k np) a ok W' U'->De W' U' M-> ∀w',Sat (BB E c cb C::Ak E cb b h s r W'::Z) w'->K a ok w'):F.Dz E (some ⟨c,0,none⟩) k np K w:=
 cT O H hI.inv (λh0 w' j=>y _ _ W U (.none h0) hI w' j) (λx J T w' j=>y _ _ W U (.full J T) hI w' j) λx n uw J hn hu Y v w' j=>
  y _ _ _ _ (.take J hn hu Y) ((j.front 1 rfl:Sat (Ak E cb b h s r _::_) w').El.Te v hI.em) w' j
variable(hE:Vs E)
include hE
theorem Vv(hT: ∀w',Sat Z w'->Em E.AG w'){b1 b3 b5 t1 t3 t5:Nat}{k:Int}{np:Bool}
  (H:Sat (BB E c cb C::Ak E cb b h s r W::Cells b1 t1 [.pointer (some ⟨c,0,none⟩)]::Cells b3 t3 [.int .i64 k]::Cells b5 t5 [.bool np]::Z) w)(hI:De W U M)(hN:Gd W)(hk:0<k/\k<68)(hH:Vt W C k np){K:Int->World->Prop}
  (hK: ∀W0 id e W1 U1 M1,Pd W C k np W0->De W0 U M->Gd W0->TO C.p k np (W0.Rr k) U M id e W1 U1 M1->De W1 U1 M1-> ∀w',Sat (BB E c cb (if e=0 then C.hold k np id else C.hold k np 0)::Ak E cb b h s r W1::Cells b1 t1 [.pointer (some ⟨c,0,none⟩)]::Cells b3 t3 [.int .i64 k]::Cells b5 t5 [.bool np]::Z) w'->K e w'):
  F.CJ E (some ⟨b1,0,none⟩) (some ⟨b3,0,none⟩) (some ⟨b5,0,none⟩) K w:=by
 unfold F.CJ T0.CJ;refine AF ⟨_,(H.front 2 rfl).Aa rfl,AF ⟨_,(H.front 3 rfl).Aa rfl,AF ⟨_,(H.front 4 rfl).Aa rfl,?_⟩⟩⟩;refine Vu hE H hI.inv hk hI.JI hH λW0 hl aQ w7 H7=> ?_;have T:=hN.nP hl;have aJ:W0.em.length+W0.R.length<=1099511627776:=by
  rcases hl with ⟨_,rfl⟩|⟨_,y,Gk,_,_,rfl⟩<;>exact hI.em
 have v:De W0 U M:=(H7.front 1 rfl:Sat (Ak E cb b h s r W0::_) w7).El.Te aQ aJ;refine AF ⟨_,(H7.front 2 rfl).Aa rfl,AF ⟨_,(Pw H7).1,EP (H7.front 1 rfl) (AF ⟨_,(H7.front 3 rfl).Aa rfl,Yn hE H7 hk λaK aO=> ?_⟩)⟩⟩;have a1:=Ia (c:=k) (by omega) hk.2;have aT: ∀w',Sat (Cells cb E.Bb [.pointer (some ⟨b,0,none⟩)]::BB E c cb (C.hold k np 0)::Cells b1 t1 [.pointer (some ⟨c,0,none⟩)]::Cells b3 t3 [.int .i64 k]::Cells b5 t5 [.bool np]::Z) w'->Em E.AG w':=λw' O=>hT w' O.tail.tail.tail.tail.tail;have Hs:Sat (Ap E b h s r W0::Cells cb E.Bb [.pointer (some ⟨b,0,none⟩)]::BB E c cb (C.hold k np 0)::Cells b1 t1 [.pointer (some ⟨c,0,none⟩)]::Cells b3 t3 [.int .i64 k]::Cells b5 t5 [.bool np]::Z) aK:=(aO.front 1 rfl:Sat (Ak E cb b h s r W0::_) aK).El;refine WK Hs T.ch (by omega) λa3 aP=> ?_;refine WM hE.toEnvC aT (W:=W0.Rr k) aP (v.Rr k) (T.Rr hk.1 hk.2) λe W1 U1 M1 aA J aR aE aG=>Ca (λhe=> ?_) λhe=> ?_
 .have h:=hK W0 0 e W1 U1 M1 hl v T (.iD aA he) J aE;rw[if_neg he]at h;exact h (aG.F6.perm (.swap _ _ _))
 subst he;have j:Sat (Ak E cb b h s r W1::BB E c cb (C.hold k np 0)::Cells b1 t1 [.pointer (some ⟨c,0,none⟩)]::Cells b3 t3 [.int .i64 k]::Cells b5 t5 [.bool np]::Z) aE.drew:=(aG.drew).F6;have aH:=(j.front 1 rfl:Sat (BB E c cb (C.hold k np 0)::Ak E cb b h s r W1::_) aE.drew);refine AF ⟨_,(j.front 2 rfl).Aa rfl,AF ⟨_,(Pw aH).1,AF ⟨_,(j.front 2 rfl).Aa rfl,AF ⟨_,(Pw aH).2.1,AF ⟨_,(j.front 3 rfl).Aa rfl,AF ⟨_,(j.front 4 rfl).Aa rfl,?_⟩⟩⟩⟩⟩⟩;have aS: ∀w',Sat (BB E c cb (C.hold k np 0)::Cells b1 t1 [.pointer (some ⟨c,0,none⟩)]::Cells b3 t3 [.int .i64 k]::Cells b5 t5 [.bool np]::Z) w'->Em E.AG w':=λw' O=>hT w' O.tail.tail.tail.tail;refine bN hE.toEnvC aS j J λid e W2 U2 M2 hg Y w' O=> ?_;refine⟨(O.front 2 rfl).Aa rfl,(O.front 2 rfl).Aa rfl,AF ⟨_,(O.front 2 rfl).Aa rfl,AF ⟨_,(O.front 3 rfl).Aa rfl,AF ⟨_,(O.front 4 rfl).Aa rfl,?_⟩⟩⟩⟩;refine TN (O.front 1 rfl) hk λaU aI=> ?_;rw[Sb]at aI;have hh:=hK W0 id e W2 U2 M2 hl v T (.get aA J aR hg Y) Y aU;by_cases he:e=0
 .grind
 .rw[if_neg he]at hh;rw[hg.err he]at aI;grind
theorem LG(hT: ∀w',Sat Z w'->Em E.AG w'){k:Int}{np:Bool}
  (H:Sat (BB E c cb C::Ak E cb b h s r W::Z) w)(hI:De W U M)(hN:Gd W)(hH:0<k->k<68->Vt W C k np){K:Int->Int->World->Prop}
  (hK: ∀a e C' W' U' M',Ki C k np W U M a e C' W' U' M'->De W' U' M'-> ∀w',Sat (BB E c cb C'::Ak E cb b h s r W'::Z) w'->K a e w'):F.CN E (some ⟨c,0,none⟩) k np K w:=by
 unfold F.CN T0.CN;refine AQ (vs:=[.pointer (some ⟨c,0,none⟩)]) H λb1 w2 H2 _=>AQ (vs:=[.int .i64 k]) H2 λb3 w4 H4 _=>AQ (vs:=[.bool np]) H4 λb5 w6 H6 _=> ?_;have out: ∀{C':KS} {W':SW} {w'},Sat (BB E c cb C'::Ak E cb b h s r W'::Cells b1 E.GX [.pointer (some ⟨c,0,none⟩)]::Cells b3 E.Ep [.int .i64 k]::Cells b5 E.AY [.bool np]::Z) w'->Sat (BB E c cb C'::Ak E cb b h s r W'::Z) w':=λh'=>(((((h'.front 2 rfl).tail.front 2 rfl).tail.front 2 rfl).tail));have J:Sat (BB E c cb C::Ak E cb b h s r W::Cells b1 E.GX [.pointer (some ⟨c,0,none⟩)]::Cells b3 E.Ep [.int .i64 k]::Cells b5 E.AY [.bool np]::Z) w6:=(((H6.front 1 rfl).front 2 rfl).front 4 rfl).front 4 rfl;have Y: ∀w',Sat (Cells b1 E.GX [.pointer (some ⟨c,0,none⟩)]::Cells b3 E.Ep [.int .i64 k]::Cells b5 E.AY [.bool np]::Z) w'->Em E.AG w':=λw' h'=>hT w' h'.tail.tail.tail;refine⟨k,(J.front 3 rfl).Aa rfl,kJ (λhk=>AO rfl ?_) λhk=>AS rfl (hK 0 1 C W U M (.bad hk) hI w6 (out J))⟩;refine⟨_,(J.front 2 rfl).Aa rfl,_,(J.front 3 rfl).Aa rfl,_,(J.front 4 rfl).Aa rfl,Rl Y J hI λa ok W' U' hs aA aI O=> ?_⟩;cases ok with
 | true=>exact AS rfl (hK a 0 C W' U' M (.dB hk hs) aA aI (out O))
 | false=>
  have e:a=0/\W'=W/\U'=U:=by cases hs<;>exact⟨rfl,rfl,rfl⟩
  obtain⟨rfl,rfl,rfl⟩:=e;refine AO rfl (hE.kG _ _ _ _ _ ?_);refine Vv hE hT O hI hN hk (hH hk.1 hk.2) λW0 id e W1 U1 M1 hl y T hf v aJ j=>⟨e,rfl,Ca (λhe=> ?_) λhe=> ?_⟩
  .rw[if_neg he]at j;exact hK 0 e _ W1 U1 M1 (.no hk hs hl y T hf he) v aJ (out j)
  .subst he;rw[if_pos rfl]at j;refine⟨_,(j.front 2 rfl).Aa rfl,_,(j.front 3 rfl).Aa rfl,_,(j.front 4 rfl).Aa rfl,Rl Y j v λa ok W2 U2 aC aB aK aE=> ?_⟩;rw[NH C hk.1 hk.2 id]at aC;exact hK a 0 _ W2 U2 M1 (.new hk hs hl y T hf v aC) aB aK (out aE)
end
def Ar(E:Env)(cb b h s r:Nat)(W:SW)(U M:Af):Pr:=NR [Cells cb E.Bi [.pointer (some ⟨b,0,none⟩)],Ih E b h s r W U M]
section
variable{E:Env}{cb b h s r:Nat}{W W':SW}{U M U' M':Af}{Z:List Pr}{w:World}
def Sat.Df:Sat (Ar E cb b h s r W U M::Z) w↔Sat (Ih E b h s r W U M::Cells cb E.Bi [.pointer (some ⟨b,0,none⟩)]::Z) w:=
 ⟨λh=>(Sat.star.1 h).perm (.swap _ _ _),λh=>Sat.star.2 (h.perm (.swap _ _ _))⟩
def HR(H:Sat (Ar E cb b h s r W U M::Z) w):w.cell? (Addr.mk cb 0 none)=some (.pointer (some ⟨b,0,none⟩)):=((Sat.Df.1 H).front 1 rfl).Aa rfl
def XO(H:Sat (Ar E cb b h s r W U M::Z) w):w.cell? (Addr.mk b 0 none)=some (.pointer (some ⟨h,0,none⟩))/\w.cell? ((Addr.mk b 0 none).add 1)=some (.pointer (some ⟨s,0,none⟩)):=by
 obtain⟨em,H1⟩:=Sat.Rq.1 (Sat.Df.1 H);exact⟨(H1.front 2 rfl).Aa rfl,(H1.front 2 rfl).cell rfl⟩
def cW(H:Sat (Ar E cb b h s r W U M::Z) w)(hI:BO W U M){id:Int}(Gk:Nat)(hf:W.L.length<1099511627776){K:Int->World->Prop}
  (v:W.S.sp id=none-> ∀w',Sat (Ar E cb b h s r W U M::Z) w'->K 35 w')(J:W.S.sp id≠none->(∃x∈W.L,x.id=id)-> ∀w',Sat (Ar E cb b h s r W U M::Z) w'->K 34 w')
  (O: ∀x,W.S.sp id=some x->(∀y∈W.L,y.id≠id)-> ∀w',Sat (Ar E cb b h s r {W with L:=JG W.L ⟨Gk,id,x.2.base,(x.2.cls,x.2.G5,x.2.used==x.2.AK,true)⟩} U M::Z) w'->K 0 w'):
  F.Bt E (some ⟨cb,0,none⟩) id K w:=by
 unfold F.Bt T0.Bt;exact AF ⟨some ⟨b,0,none⟩,HR H,Vr (Sat.Df.1 H) hI Gk hf (λT w' j=>v T w' (Sat.Df.2 j)) (λT hx w' j=>J T hx w' (Sat.Df.2 j)) λx hx Y w' j=>O x hx Y w' (Sat.Df.2 j)⟩
def sZ(H:Sat (Ar E cb b h s r W U M::Z) w)(J:Km W.L){k:Kd}{K:Int->Bool->World->Prop}(v:Ej W.L k=[]-> ∀w',Sat (Ar E cb b h s r W U M::Z) w'->K 0 false w')
  (y: ∀x l,Ej W.L k=x::l-> ∀w',Sat (Ar E cb b h s r {W with L:=EY W.L x.id} U M::Z) w'->K x.id true w'):F.Bk E (some ⟨s,0,none⟩) k.1 k.2.1 k.2.2.1 k.2.2.2 K w:=by
 obtain⟨em,H1⟩:=Sat.Rq.1 (Sat.Df.1 H);exact bP (H1.front 1 rfl) J (λh0 w' j=>v h0 w' (Sat.Df.2 (Sat.Rq.2 ⟨em,j.front 1 rfl⟩))) λx l O w' j=>y x l O w' (Sat.Df.2 (Sat.Rq.2 ⟨em,j.front 1 rfl⟩))
def Ln{k id e:Int}{np full ok:Bool}(H:Sat (Ar E cb b h s r W U M::Z) w)(hI:De W U M)(hc:ER k np full W U M id ok e W' U' M'){K:Int->Int->World->Prop}{K2:World->Prop}
  (h1:(ok=true∨e≠0)-> ∀w',Sat (Ar E cb b h s r W' U' M'::Z) w'->K id e w')(h2:ok=false->e=0-> ∀w',Sat (Ar E cb b h s r W' U' M'::Z) w'->K2 w'):
      A9 (Unit) (()) w λuU _ aF aE=>
       NC (some ⟨cb,0,none⟩) λa3=>
       ∃aV:(Option Addr),aF.cell? a3=some (.pointer aV)/\
       NC aV λa4=>
       ∃aW:(Option Addr),aF.cell? (a4.add 1)=some (.pointer aW)/\
       F.Bk E aW k np full false (λaO a6 aQ=>
       CND (!a6) (
        K2 aQ
       ) (
        NC (some ⟨cb,0,none⟩) λa5=>
        ∃aX:(Option Addr),aQ.cell? a5=some (.pointer aX)/\
        F.Av E aX aO true (λbG bH aU aG=>
        CND ((aU:Int) !=0) (
         K 0 aU aG
        ) (
         NC (some ⟨cb,0,none⟩) λaM=>
         ∃aA:(Option Addr),aG.cell? aM=some (.pointer aA)/\
         NC aA λaN=>
         ∃aB:(Option Addr),aG.cell? aN=some (.pointer aB)/\
         F.Aq E aB aO (λT Y=>
         NC T λO=>
         ∃v:Int,Y.drew.cell? (O.add 6)=some (.int .i64 v)/\
         F.BW E T (λaP j=>
         j.cell? (O.add 6)=some (.int .i64 v)/\
         CND (decide ((aP:Int)<v)) (
          K aO 0 j
         ) (
          aE (()) j
         )
         ) Y.drew
         ) aG
        )
        ) aQ
       )
       ) aF:=by
 refine Nl (λn _ w'=> ∃W1 U1 M1,De W1 U1 M1/\n=YS W1.L/\ER k np full W1 U1 M1 id ok e W' U' M'/\Sat (Ar E cb b h s r W1 U1 M1::Z) w') _ ⟨W,U,M,hI,rfl,hc,H⟩ ?_;rintro n _ _ aF ⟨W1,U1,M1,aC,rfl,hc,H1⟩;refine AF ⟨some ⟨b,0,none⟩,HR H1,AF ⟨some ⟨s,0,none⟩,(XO H1).2,sZ H1 aC.se (k:=(k,np,full,false)) (λh0 w' H'=>AS rfl ?_) λx l hx w' H'=>AO rfl (AF ⟨some ⟨b,0,none⟩,HR H',?_⟩)⟩⟩
 .cases hc with
  | none=>exact h2 rfl rfl w' H'
  | Kg h=>rw[h0]at h;cases h
  | LN h=>rw[h0]at h;cases h
  | go h=>rw[h0]at h;cases h
 .have J:=aC.rem x.id;have hm:=EU.1 (show x∈Ej W1.L (k,np,full,false) by rw[hx];exact List.mem_cons_self);have a2:x.EO=false:=by grind
  have a9:=RY aC.se hm.1 a2;obtain⟨y0,bF,_⟩:=aC.inv.it x hm.1;refine Jn (Sat.Df.1 H') J.inv J.hk J.JI J.em (λz hz=>(Ds.1 hz).2) (λhn=> ?_) (λz hz aL w6 H6=> ?_) λz hz aD=> ?_
  .grind
  .refine AS rfl ?_;cases hc with
   | none h=>rw[hx]at h;cases h
   | Kg h=>rw[hx]at h;cases h;exact h1 (.inr (by decide)) w6 (Sat.Df.2 H6)
   | LN h hO=>
    rw[hx]at h;cases h;obtain⟨_,_,_,_,aD,_⟩:=hO;obtain⟨i,i1,i2⟩:=aL;rw[aD i i1]at i2;cases i2
   | go h hO=>
    rw[hx]at h;cases h;obtain⟨_,_,_,_,aD,_⟩:=hO;obtain⟨i,i1,i2⟩:=aL;rw[aD i i1]at i2;cases i2
  .have cnt: ∀{W2 U2 M2 w2 y} {P Q:World->Prop},De W2 U2 M2->W2.S.sp x.id=some y->Sat (Ih E b h s r W2 U2 M2::Cells cb E.Bi [.pointer (some ⟨b,0,none⟩)]::Z) w2->(y.2.used<y.2.AK-> ∀w',Sat (Ar E cb b h s r W2 U2 M2::Z) w'->P w')->(¬y.2.used<y.2.AK-> ∀w',Sat (Ar E cb b h s r W2 U2 M2::Z) w'->Q w')->
     NC (some ⟨cb,0,none⟩) λaM=>
         ∃aA:(Option Addr),w2.cell? aM=some (.pointer aA)/\
         NC aA λaN=>
         ∃aB:(Option Addr),w2.cell? aN=some (.pointer aB)/\
         F.Aq E aB x.id (λT Y=>
         NC T λO=>
         ∃v:Int,Y.drew.cell? (O.add 6)=some (.int .i64 v)/\
         F.BW E T (λaP j=>
         j.cell? (O.add 6)=some (.int .i64 v)/\
         CND (decide ((aP:Int)<v)) (P j) (Q j)
         ) Y.drew
         ) w2:=λ{W2 U2 M2 w2 y P Q} hI2 hy H2 hP hQ=>by
    have H3:=Sat.Df.2 H2;refine AF ⟨some ⟨b,0,none⟩,HR H3,AF ⟨some ⟨h,0,none⟩,(XO H3).1,?_⟩⟩;obtain⟨em,H4⟩:=Sat.Rq.1 H2;refine Yl H4 hI2.inv.hI (λhn=>by grind) λy' q R aT H5 _=>AF ?_;rw[hy]at aT;cases aT;have H6:=H5.drew;have c6:w2.drew.cell? ((Addr.mk q 0 none).add 6)=some (.int .i64 y.2.AK):=by
     obtain⟨_,_,_,_,_,_,h7⟩:=Sat.Hb.1 H6;exact h7.cell rfl
    have hg:=(hI2.inv.sp _ _ hy).2.cnt;refine⟨_,c6,Kh H6 ⟨c6,AB (λg=>hP (by omega) _ H3.drew) λg=>hQ (by omega) _ H3.drew⟩⟩
   cases hc with
   | none h=>grind
   | Kg h hzs aL=>grind
   | LN h hO hOk hy hlt=>
    rw[hx]at h;cases h;exact⟨_,_,_,_,_,hO,hOk.inv,λw2 H2=>AO rfl (cnt hOk hy H2 (λ_ w' H'=>h1 (.inl rfl) w' H') λg=>absurd hlt g)⟩
   | go h hO hOk hy heq hc=>
    rw[hx]at h;cases h;obtain⟨_,bE,_⟩:=hO.kept J.inv;refine⟨_,_,_,_,_,hO,hOk.inv,λw2 H2=>AO rfl (cnt hOk hy H2 (λg=>absurd g (by omega)) λ_ w' H'=>⟨_,?_,_,_,_,hOk,rfl,hc,H'⟩)⟩
    grind
def tA(p k:Int)(np:Bool)(id e:Int)(W':SW)(U' M':Af)(j:SW)(y v:Af):Prop:=
 (∃S2,RM j.S p (AX k).2.1 S2/\id=0/\e=13/\W'={j with S:=S2}/\U'=y/\M'=v)∨
 ∃page S2 J X,Found j.S p (AX k).2.1 page S2/\Next S2 id X/\e=0/\W'={j with S:=S2.Cr id (J,Gx page (AX k).2.1 k np) page (AX k).2.1 X}/\U'=y.set id GA/\M'=v.set id GA
def tB(k:Int)(np full:Bool)(id e:Int)(W':SW)(U' M':Af)(N:SW->Af->Af->Prop)(y:SW)(v j:Af):Prop:=
 (∃ok,ER k np full y v j id ok e W' U' M'/\(ok=true∨e≠0))∨ ∃W2 U2 M2,ER k np full y v j 0 false 0 W2 U2 M2/\De W2 U2 M2/\N W2 U2 M2
def tC(p k:Int)(np:Bool)(id e:Int)(W':SW)(U' M':Af):Nat->SW->Af->Af->Prop
 | 0=>tB k np false id e W' U' M' (tB k np true id e W' U' M' (tA p k np id e W' U' M'))
 | 1=>tB k np true id e W' U' M' (tA p k np id e W' U' M')
 | _=>tA p k np id e W' U' M'
def iE{p k id e:Int}{np:Bool}(H:Sat (Ar E cb b h s r W U M::Z) w)(hI:De W U M)(hG:L8 p k np W U M id e W' U' M'){K:Int->Int->World->Prop}(hK: ∀w',Sat (Ar E cb b h s r W' U' M'::Z) w'->K id e w'):
  F.CD E (some ⟨cb,0,none⟩) p k np K w:=by
 unfold F.CD T0.CD;have bN:(decide (k<1)||decide (k>67))=decide (¬(1<=k/\k<68)):=by grind
 suffices hs:1<=k/\k<68->NC (some ⟨cb,0,none⟩) _ by
  refine AU (AB (λg j=>AS rfl ?_) λg j=>AB (λg2=> ?_) λg2=>hs (by omega))
  all_goals
   cases hG with
   | bad _=>exact hK w H
   | _=>omega
 rintro⟨k0,k1⟩;have aT:(∃x l,Ej W.L (k,np,false,true)=x::l/\id=x.id/\e=0/\W'={W with L:=EY W.L x.id}/\U'=U/\M'=M)∨(Ej W.L (k,np,false,true)=[]/\tC p k np id e W' U' M' 0 W U M):=by
  cases hG with
  | bad h=>omega
  | EO _ _ h=>grind
  | part _ _ h J ho=>exact .inr ⟨h,.inl ⟨_,J,ho⟩⟩
  | full _ _ h J Au hc2 ho=>exact .inr ⟨h,.inr ⟨_,_,_,J,Au,.inl ⟨_,hc2,ho⟩⟩⟩
  | lost _ _ h J Au hc2 hok2 hl=>exact .inr ⟨h,.inr ⟨_,_,_,J,Au,.inr ⟨_,_,_,hc2,hok2,.inl ⟨_,hl,rfl,rfl,rfl,rfl,rfl⟩⟩⟩⟩
  | new _ _ h J Au hc2 hok2 hf hx _=>exact .inr ⟨h,.inr ⟨_,_,_,J,Au,.inr ⟨_,_,_,hc2,hok2,.inr ⟨_,_,_,_,hf,hx,rfl,rfl,rfl,rfl⟩⟩⟩⟩
 refine AF ⟨some ⟨b,0,none⟩,HR H,AF ⟨some ⟨s,0,none⟩,(XO H).2,sZ H hI.se (k:=(k,np,false,true)) (λh0 aU aG=>AO rfl ?_) λx l hx aU aG=>AS rfl ?_⟩⟩
 rotate_left
 .rcases aT with ⟨x',l',aB,e1,e2,e3,e4,e5⟩|⟨h0,_⟩
  .rw[hx]at aB;cases aB;rw[e1,e2,e3,e4,e5]at hK;exact hK aU aG
  .rw[hx]at h0;cases h0
 have hR:tC p k np id e W' U' M' 0 W U M:=by
  rcases aT with ⟨x',l',aB,_⟩|⟨_,h⟩
  .rw[h0]at aB;cases aB
  .exact h
 refine AQ (vs:=[.bool false,.bool true]) aG λaA bO a0 _=> ?_;refine AJ (λst w'=> ∃(i:Nat) (O:SW) (U1 M1:Af),st.1=(i:Int)/\i<=2/\De O U1 M1/\tC p k np id e W' U' M' i O U1 M1/\Sat (Ar E cb b h s r O U1 M1::Cells aA E.AY [.bool false,.bool true]::Z) w') (λst _=>(2-st.1).toNat) ⟨0,W,U,M,rfl,by decide,hI,hR,a0.front 1 rfl⟩ ?_;rintro⟨i',u⟩ _ bP ⟨i,O,U1,M1,hi,bM,v,aI,y⟩;dsimp only at hi⊢;subst hi;have fin: ∀w',Sat (Ar E cb b h s r W' U' M'::Cells aA E.AY [.bool false,.bool true]::Z) w'->K id e w':=λw' H'=>hK w' (H'.front 1 rfl).tail;have bad: ∀{ok:Bool} {P:Prop},(ok=true∨e≠0)->ok=false->e=0->P:=λ{ok P} ho h1 h2=>by grind
 have aE: ∀{P:Prop},(false=true∨(0:Int)≠0)->P:=λ{P} ho=>by grind
 have a6:i=0∨i=1∨i=2:=by omega
 rcases a6 with rfl|rfl|rfl
 .refine AS rfl ⟨⟨by decide,by decide⟩,false,(y.front 1 rfl).Aa rfl,?_⟩;rcases aI with ⟨ok,J,ho⟩|⟨W2,U2,M2,J,Au,hn⟩
  .exact Ln y v J (λ_=>fin) λh1 h2=>bad ho h1 h2
  .exact Ln y v J (λg=>aE g) λ_ _ w' H'=>⟨⟨1,W2,U2,M2,by rw[AM (by decide) (by decide)];rfl,by decide,Au,hn,H'⟩,by rw[AM (by decide) (by decide)];decide⟩
 .refine AS rfl ⟨⟨by decide,by decide⟩,true,(y.front 1 rfl).cell (o:=0) (m:=1) rfl,?_⟩;rcases aI with ⟨ok,J,ho⟩|⟨W2,U2,M2,J,Au,hn⟩
  .exact Ln y v J (λ_=>fin) λh1 h2=>bad ho h1 h2
  .exact Ln y v J (λg=>aE g) λ_ _ w' H'=>⟨⟨2,W2,U2,M2,by rw[AM (by decide) (by decide)];rfl,by decide,Au,hn,H'⟩,by rw[AM (by decide) (by decide)];decide⟩
 .refine AO rfl (O4 y λaD bQ a1=>AF ?_);have Hd:=a1.drew;have Hc:=Hd.front 1 rfl;refine⟨some ⟨b,0,none⟩,HR Hc,AF ⟨some ⟨h,0,none⟩,(XO Hc).1,?_⟩⟩;have hl:=Hd.Gb (by decide) Ae;rw[IZ]at hl;obtain⟨x,hx⟩:=Hd.FY (by decide) Ae (i:=k.toNat) (by rw[IZ];omega);have cell: ∀{w'} {Y:List Pr},Sat (Row E.At 4 aD (Ao Ig LP)::Y) w'->w'.cell? (((Addr.mk x 0 none).add (Int.toNat k*4)).add 1)=some (.int .i64 (AX k).2.1):=λh=>by
   rw[add_add];exact h.Bp Ae hx (K4 (by omega) k1) (j:=1) rfl
  rw[hx];have bK:=Ia (c:=k) (by omega) k1;have bL:=L7 (c:=k) (by omega) k1;refine AF ⟨⟨by omega,by omega⟩,_,cell Hd,?_⟩;rw[AI (n:=(AX k).2.1)];have aF: ¬Gl 0 (AX k).2.1 k:=by unfold Gl;omega
  obtain⟨em,aO⟩:=Sat.Rq.1 (Sat.Df.1 Hc);have cl: ∀{W2:SW} {U2 M2:Af} {w'},W2.L=O.L->W2.R=O.R->W2.em=O.em->E4 h s r em W2=E4 h s r em O->Sat (Lg E h W2.S (V5 U2 M2)::(IS E b h s r O em++Cells cb E.Bi [.pointer (some ⟨b,0,none⟩)]::Row E.At 4 aD (Ao Ig LP)::Cells aA E.AY [.bool false,.bool true]::Z)) w'->
    Sat (Ar E cb b h s r W2 U2 M2::Row E.At 4 aD (Ao Ig LP)::Cells aA E.AY [.bool false,.bool true]::Z) w':=λ{W2 U2 M2 w'} e1 e2 e3 e4 h'=>by
   have er:IS E b h s r W2 em=IS E b h s r O em:=by unfold IS;grind
   exact Sat.Df.2 (Sat.Rq.2 ⟨em,by rw[er];exact h'⟩)
  have last: ∀{w'},Sat (Ar E cb b h s r W' U' M'::Row E.At 4 aD (Ao Ig LP)::Cells aA E.AY [.bool false,.bool true]::Z) w'->w'.cell? (((Addr.mk x 0 none).add (Int.toNat k*4)).add 1)=some (.int .i64 (AX k).2.1)/\w'.cell? (Addr.mk cb 0 none)=some (.pointer (some ⟨b,0,none⟩))/\K id e w':=λ{w'} h'=>
   ⟨cell (h'.front 1 rfl),HR h',fin w' (h'.front 1 rfl).tail⟩
  rcases aI with ⟨S2,hL,e1,e2,e3,e4,e5⟩|⟨page,S2,bl,X,hF,hX,e2,e3,e4,e5⟩
  .rw[e1,e2,e3,e4,e5]at last;refine Rh aO v.inv.hI v.hk (by omega) (by omega) (λc=>absurd c aF) (λ_ S3 aH aV T=> ?_) λ_ page S3 a9 X hF _ _ _=>(hF.not hL).elim;rw[aH.uniq hL]at T;exact last (cl (W2:={O with S:=S2}) rfl rfl rfl rfl T)
  .rw[e2,e3,e4,e5]at last;refine Rh aO v.inv.hI v.hk (by omega) (by omega) (λc=>absurd c aF) (λ_ S3 aH aV T=>(hF.not aH).elim) λ_ bB S3 a9 X' a4 a5 aV T=> ?_;obtain⟨rfl,rfl⟩:=hF.uniq a4;obtain⟨rfl,rfl⟩:=hX.uniq a5;have aP:=T bl;rw[kE]at aP;exact last (cl (W2:={O with S:=S2.Cr id (bl,Gx page (AX k).2.1 k np) page (AX k).2.1 X}) (U2:=U1.set id GA) (M2:=M1.set id GA) rfl rfl rfl rfl aP)
end
def ZB(S:HS):Prop:= ∀id x,S.sp id=some x->x.2.f8=false/\x.2.f9=false
def ZB.put{S:HS}(h:ZB S){id:Int}{x:Nat×SI}{I:SI}(J:S.sp id=some x)(K:I.f8=x.2.f8)(O:I.f9=x.2.f9):ZB (S.put id (x.1,I)):=λj y v=>by
 have v:(if j=id then some (x.1,I)else S.sp j)=some y:=v;by_cases c:j=id
 .rw[if_pos c]at v;cases v;have:=h id x J
  grind
 .rw[if_neg c]at v;exact h j y v
def Rm{S j:HS}{p n:Int}(h:Iu S p n j):j.fx=S.fx:=by
 rcases h with ⟨_,rfl⟩|⟨i,_,_,_,⟨_,q,_,rfl⟩|⟨_,rfl⟩,_⟩<;>rfl
def got_fx{S S2:HS}{p n page:Int}(h:dJ S p n page S2):S2.fx=S.fx:=by
 rcases h with ⟨v,i,k,y,_,_,⟨_,q,_,rfl⟩|⟨_,rfl⟩,_,_,_,_,rfl⟩|⟨v,j,_,rfl⟩
 .rfl
 .rfl
 .exact(show v.fx=S.fx from Rm j)
def xF{S S2:HS}{p n:Int}(h:RM S p n S2):S2.fx=S.fx:=by
 rcases h with ⟨v,j,_,⟨r,_,rfl⟩|⟨_,_,rfl⟩⟩|⟨S1,page,r,y,_,_,rfl⟩
 .exact(show v.fx=S.fx from Rm j)
 .exact(show v.fx=S.fx from Rm j)
 .rcases y with y|⟨v,J,j,_,⟨_,at_,_,rfl⟩,_,rfl⟩
  .exact(show S1.fx=S.fx from got_fx y)
  .exact(show v.fx=S.fx from Rm j)
structure Vw(W W':SW):Prop where
 n:W'.S.fx.n=W.S.fx.n
 f:ZB W.S->ZB W'.S
 out: ∀j,W.S.sp j≠none->(∀x∈W.L,x.id≠j)->W'.S.sp j≠none/\ ∀x∈W'.L,x.id≠j
def Vw.refl(W:SW):Vw W W:=⟨rfl,λc=>c,λj h1 h2=>⟨h1,h2⟩⟩
def Vw.trans{A B C:SW}(h:Vw A B)(g:Vw B C):Vw A C:=⟨g.n.trans h.n,λc=>g.f (h.f c),λj h1 h2=>let⟨a,b⟩:=h.out j h1 h2;g.out j a b⟩
def Vw.rem(W:SW)(id:Int):Vw W {W with L:=EY W.L id}:=⟨rfl,λc=>c,λj h1 h2=>⟨h1,λx v=>h2 x (Ds.1 v).1⟩⟩
def O2.Ii{W W':SW}{U M U' M':Af}{id:Int}{Cr gone:Bool}{n:Nat}(h:O2 {W with L:=EY W.L id} U M id Cr n gone W' U' M')(aF: ∃x∈W.L,x.id=id):Vw W W':=by
 obtain⟨x,t,uw,hx,-,-,-,-,-,J,aA,hc⟩:=h;have hx:W.S.sp id=some x:=hx;have Y:J.L=EY W.L id:=by rw[aA]
 have K:J.S=W.S.put id (x.1,J0 x.2 uw λi=>U id i&&t.m i):=by rw[aA]
 have O:ZB W.S->ZB J.S:=λc=>by rw[K];exact c.put hx rfl rfl
 have T:J.S.fx.n=W.S.fx.n:=by rw[K];rfl
 have aG: ∀j,j≠id->J.S.sp j=W.S.sp j:=λj hj=>by rw[K];exact if_neg hj
 have aB: ∀j,(∀x∈W.L,x.id≠j)->j≠id:=λj hj e=>by grind
 rcases hc with ⟨_,_,_,e⟩|⟨_,_,_,a,ha,e⟩|⟨_,_,_,Gk,e⟩
 .rw[e];exact⟨T,O,λj h1 h2=>⟨by grind,λy v=>h2 y (Ds.1 (by rw[Y]at v;exact v)).1⟩⟩
 .rw[e];refine⟨T,λc j y v=> ?_,λj h1 h2=>⟨?_,λy v=>h2 y (Ds.1 (by rw[<-Y];exact v)).1⟩⟩
  .have v:(if j=(a:Int)+1 then none else J.S.sp j)=some y:=v;split at v
   .cases v
   .exact O c j y v
  .show(if j=(a:Int)+1 then none else J.S.sp j)≠none
   grind
 .rw[e];refine⟨T,O,λj h1 h2=>⟨by grind,λy v=> ?_⟩⟩;rcases LR.1 v with rfl|v
  .exact λe=>aB j h2 e.symm
  .exact h2 y (Ds.1 v).1
def ER.Ii{k:Int}{np full:Bool}{W W':SW}{U M U' M':Af}{id e:Int}{ok:Bool}(h:ER k np full W U M id ok e W' U' M'):Vw W W'/\(ok=true->e=0/\W'.S.sp id≠Option.none/\(∀x∈W'.L,x.id≠id)/\ ∃x∈W.L,x.id=id):=by
 have hd: ∀{L:List DW} {kd x r},Ej L kd=x::r->x∈L:=λh=>(EU.1 (by rw[h];exact List.mem_cons_self)).1
 induction h with
 | none=>exact⟨Vw.refl _,λc=>by cases c⟩
 | Kg=>exact⟨Vw.rem _ _,λc=>by cases c⟩
 | @LN W U M x r n W' U' M' y h0 hO Au j hlt=>
  refine⟨hO.Ii ⟨x,hd h0,rfl⟩,λ_=>⟨rfl,by grind,?_,x,hd h0,rfl⟩⟩;obtain⟨x',t,uw,aA,-,-,-,-,-,J,v,hc⟩:=hO;have Y:J.S.sp x.id=some (x'.1,J0 x'.2 uw λi=>U x.id i&&t.m i):=by rw[v];exact HS.IQ
  rcases hc with ⟨_,_,_,e⟩|⟨_,_,c,_⟩|⟨h1,_,_,Gk,e⟩
  .rw[e,v];exact λz hz=>(Ds.1 hz).2
  .cases c
  .rw[e]at j;have j:J.S.sp x.id=some y:=j;rw[Y]at j;cases j;exact absurd ⟨rfl,hlt⟩ h1
 | @go W U M x r n J U1 M1 y id ok e W' U' M' h0 hO Au j hlt hc ih=>
  have e1:=hO.Ii ⟨x,hd h0,rfl⟩;refine⟨e1.trans ih.1,λc=> ?_⟩;obtain⟨a1,a2,a3,z,hz,a4⟩:=ih.2 c;refine⟨a1,a2,a3,?_⟩;obtain⟨x',t,uw,aA,-,-,-,-,-,W2,O,T⟩:=hO;have K:W2.L=EY W.L x.id:=by rw[O]
  rcases T with ⟨_,_,_,e⟩|⟨_,_,c,_⟩|⟨_,_,_,Gk,e⟩
  .rw[e,K]at hz;exact⟨z,(Ds.1 hz).1,a4⟩
  .cases c
  .rw[e]at hz;rcases LR.1 hz with rfl|hz
   .grind
   .exact⟨z,(Ds.1 hz).1,a4⟩
structure TW(W:SW)(U M:Af)(l:List Int)(B:Nat):Prop where
 n:W.S.fx.n<=B
 ok:De W U M
 f:ZB W.S
 nd:l.Nodup
 hd: ∀id∈l,W.S.sp id≠none/\ ∀x∈W.L,x.id≠id
def TW.mono{W:SW}{U M:Af}{l:List Int}{B C:Nat}(h:TW W U M l B)(j:B<=C):TW W U M l C:={h with n:=Nat.le_trans h.n j}
def TW.Ii{W W':SW}{U M U' M':Af}{l:List Int}{B:Nat}(h:TW W U M l B)(hE:Vw W W')(Au:De W' U' M'):TW W' U' M' l B:=⟨hE.n▸h.n,Au,hE.f h.f,h.nd,λid T7=>hE.out id (h.hd id T7).1 (h.hd id T7).2⟩
def TW.add{W:SW}{U M:Af}{l:List Int}{B:Nat}{id:Int}(h:TW W U M l B)(h1:id∉l)(h2:W.S.sp id≠none)(y: ∀x∈W.L,x.id≠id):TW W U M (l++[id]) B:=by
 refine⟨h.n,h.ok,h.f,?_,λj v=> ?_⟩
 .rw[List.nodup_append];refine⟨h.nd,by simp,λa J b K e=> ?_⟩
  grind
 .rcases List.mem_append.1 v with v|v
  .exact h.hd j v
  grind
def L8.Ii{p k id e:Int}{np:Bool}{W W':SW}{U M U' M':Af}{l:List Int}{B:Nat}(h:L8 p k np W U M id e W' U' M')(hC:TW W U M l B)(Au:De W' U' M'):if e=0 then TW W' U' M' (l++[id]) (B+1)else TW W' U' M' l (B+1):=by
 have aC: ∀{L:List DW} {kd x r},Ej L kd=x::r->x∈L:=λh=>(EU.1 (by rw[h];exact List.mem_cons_self)).1;have nl: ∀{x:DW},x∈W.L->x.id∉l:=λ{x} J c=>(hC.hd _ c).2 x J rfl;cases h with
 | bad _=>exact hC.mono (Nat.le_succ B)
 | @EO x r _ _ h0=>
  have J:=aC h0;obtain⟨y,K,_⟩:=hC.ok.inv.it x J;exact((hC.Ii (Vw.rem _ x.id) Au).mono (Nat.le_succ B)).add (nl J) (by grind) λz hz=>(Ds.1 hz).2
 | @part id ok e _ _ _ _ _ h0 hc ho=>
  obtain⟨h1,h2⟩:=hc.Ii;cases hk:ok with
  | true=>
   obtain⟨e0,a1,a2,x,J,Y⟩:=h2 hk;rw[if_pos e0];exact((hC.Ii h1 Au).mono (Nat.le_succ B)).add (Y▸nl J) a1 a2
  | false=>
   rw[if_neg (ho.resolve_left (by grind))];exact(hC.Ii h1 Au).mono (Nat.le_succ B)
 | @full W1 U1 M1 id ok e _ _ _ _ _ h0 hc hok1 hc2 ho=>
  obtain⟨g1,_⟩:=hc.Ii;obtain⟨h1,h2⟩:=hc2.Ii;have O:=hC.Ii g1 hok1;cases hk:ok with
  | true=>
   obtain⟨e0,a1,a2,x,J,Y⟩:=h2 hk;rw[if_pos e0];exact((O.Ii h1 Au).mono (Nat.le_succ B)).add (λc=>(O.hd _ c).2 x J Y) a1 a2
  | false=>
   rw[if_neg (ho.resolve_left (by grind))];exact(O.Ii h1 Au).mono (Nat.le_succ B)
 | @lost W1 U1 M1 W2 U2 M2 S2 _ _ h0 hc hok1 hc2 hok2 hL=>
  have v:=(hC.Ii hc.Ii.1 hok1).Ii hc2.Ii.1 hok2;have es:S2.sp=W2.S.sp:=bK hL;exact(v.Ii (show Vw W2 {W2 with S:=S2}from⟨congrArg FX.n (xF hL),λc j y K=>c j y (by grind),λj h1 h2=>⟨by grind,h2⟩⟩) Au).mono (Nat.le_succ B)
 | @new W1 U1 M1 W2 U2 M2 page S2 bl id X k0 k1 h0 hc hok1 hc2 hok2 hF hX hnone=>
  have v:=(hC.Ii hc.Ii.1 hok1).Ii hc2.Ii.1 hok2;have es:S2.sp=W2.S.sp:=hF.same.sp;have T: ∀j,(S2.Cr id (bl,Gx page (AX k).2.1 k np) page (AX k).2.1 X).sp j=if j=id then some (bl,Gx page (AX k).2.1 k np)else S2.sp j:=λ_=>rfl
  have hn:X.n<=B+1:=by
   have h1:=v.n;have h2:S2.fx=W2.S.fx:=hF.same.fx;rcases hX with ⟨_,_,e⟩|⟨_,_,_,_,e⟩<;>rw[e,h2]<;>dsimp only<;>omega
  have aB:TW {W2 with S:=S2.Cr id (bl,Gx page (AX k).2.1 k np) page (AX k).2.1 X} (U2.set id GA) (M2.set id GA) l (B+1):=by
   refine⟨hn,Au,λj y K=> ?_,v.nd,λj hj=>⟨?_,(v.hd j hj).2⟩⟩
   .have K:(S2.Cr id (bl,Gx page (AX k).2.1 k np) page (AX k).2.1 X).sp j=some y:=K;rw[T]at K;split at K
    .cases K;exact⟨rfl,rfl⟩
    .exact v.f j y (by grind)
   .show(S2.Cr id (bl,Gx page (AX k).2.1 k np) page (AX k).2.1 X).sp j≠none;rw[T];split
    .grind
    .rw[es];exact(v.hd j hj).1
  refine aB.add (λc=>(v.hd _ c).1 hnone) ?_ λx J e=> ?_
  .grind
  .obtain⟨y,K,_⟩:=hok2.inv.it x J
   grind
section
variable{E:Env}{bb cb cq b h s r b2 h2 s2 r2:Nat}{W W':SW}{U M U' M':Af}{l:List Int}{Z:List Pr}{w:World}
end
section
variable{E:Env}{bb cb cq b h s r b2 h2 s2 r2:Nat}{W W':SW}{U M U' M':Af}{l:List Int}{B:Nat}{Z:List Pr}{w:World}
def rwSw(H:Sat (Ar E cq b2 h2 s2 r2 W U M::Z) w){S':HS}(j:S'.V=W.S.V)(v:S'.T=W.S.T)(J:S'.ca=W.S.ca)(K:S'.fx=W.S.fx)(O:S'.hint=W.S.hint)(Y: ∀id,(S'.sp id).map (λy=>y.2.rs)=(W.S.sp id).map λy=>y.2.rs):Sat (Ar E cq b2 h2 s2 r2 {W with S:=S'} U M::Z) w:=
 Sat.Df.2 ((Sat.Df.1 H).rwSame j v J K O Y)
variable(hE:EnvC E)
include hE
end
def BP(E:Env)(c cb:Nat)(C:KS):Pr:=Cells c E.CF (Cg cb C)
def Zh(C:KS):Prop:=C.hd 0=0/\C.hd 1=0
def Zh.hold{C:KS}(h:Zh C){k:Int}(hk:0<k)(np:Bool)(id:Int):Zh (C.hold k np id):=by
 have:TM k np≠0/\TM k np≠1:=by unfold TM;omega
 refine⟨?_,?_⟩<;>(show(if _=TM k np then id else _)=_;rw[if_neg (by omega)])
 .exact h.1
 .exact h.2
def Zh.at{C:KS}(h:Zh C){k:Int}(j:0<=k)(v:k<68)(np:Bool):C.hd (TM k np)=C.held k np:=by
 unfold KS.held;by_cases g:0<k
 .omega
 .obtain rfl:k=0:=by omega
  rw[if_neg (by omega)];cases np
  .exact h.1
  .exact h.2
def L8.live{p k id:Int}{np:Bool}{W W':SW}{U M U' M':Af}(h:L8 p k np W U M id 0 W' U' M')(hI:BO W U M):W'.S.sp id≠none:=by
 generalize he:(0:Int)=e at h;cases h with
 | bad _=>cases he
 | EO _ _ hx=>
  obtain⟨y,j,_⟩:=hI.it _ (EU.1 (show _∈Ej W.L _ by rw[hx];exact List.mem_cons_self)).1
  grind
 | part _ _ _ hc ho=>exact(hc.Ii.2 (ho.resolve_right λc=>c he.symm)).2.1
 | full _ _ _ _ _ hc ho=>exact(hc.Ii.2 (ho.resolve_right λc=>c he.symm)).2.1
 | lost=>cases he
 | new=>
  show(if _=_ then some _ else _)≠none
  grind
section
variable{E:Env}{c cb b h s r:Nat}{C:KS}{W W':SW}{U M U' M':Af}{Z:List Pr}{w:World}
def NI(H:Sat (BP E c cb C::Z) w):w.cell? (Addr.mk c 0 none)=some (.pointer (some ⟨cb,0,none⟩))/\w.cell? ((Addr.mk c 0 none).add 1)=some (.int .i64 C.p)/\w.cell? ((Addr.mk c 0 none).add 138)=some (.int .u64 C.Ho)/\w.cell? ((Addr.mk c 0 none).add 139)=some (.int .i64 C.CZ):=by
 have j:Sat (Cells c E.CF (Cg cb C)::Z) w:=H;exact⟨j.Aa rfl,j.cell rfl,j.cell (by rw[Nat.zero_add];exact kH cb C),j.cell (by rw[Nat.zero_add];exact kI cb C)⟩
def Yp{np:Bool}{K:Int->World->Prop}(j:K (if np=true then 1 else 0) w):F.Fw E np K w:=by
 unfold F.Fw;cases np
 .exact AO rfl j
 .exact AS rfl j
def rkAt(H:Sat (BP E c cb C::Z) w){k:Int}{np:Bool}(v:0<=k)(y:k<68):w.cell? ((((Addr.mk c 0 none).add 2).add (Int.toNat k*2)).add (Int.toNat (if np=true then 1 else 0)*1))=some (.int .i64 (C.hd (TM k np))):=by
 have j:Sat (Cells c E.CF (Cg cb C)::Z) w:=H;rw[add_add,add_add];have e:2+(Int.toNat k*2+Int.toNat (if np=true then 1 else 0)*1)=TM k np+2:=by unfold TM;grind
 rw[e];exact j.cell (by rw[Nat.zero_add];exact yK cb C (Ym v y))
def rkSt(H:Sat (BP E c cb C::Z) w){k id:Int}{np:Bool}(J:0<=k)(O:k<68){K:World->Prop}(y: ∀w',Sat (BP E c cb (C.hold k np id)::Z) w'->K w'):
  stCells ((((Addr.mk c 0 none).add 2).add (Int.toNat k*2)).add (Int.toNat (if np=true then 1 else 0)*1)) 0 [.int .i64 id] w K:=by
 have v:Sat (Cells c E.CF (Cg cb C)::Z) w:=H;rw[add_add,add_add];have e:2+(Int.toNat k*2+Int.toNat (if np=true then 1 else 0)*1)=TM k np+2:=by unfold TM;grind
 rw[e];refine AV v (o:=0) rfl (by rw[Le];omega) λw' j=>y w' ?_;rw[Nat.zero_add,cS cb C (Ym J O)]at j;exact j
def kwr{np:Bool}:((0:Int)<=(if np=true then 1 else 0)/\((if np=true then 1 else 0:Int))<(2:Nat)):=by omega
def O9(H:Sat (BP E c cb C::Z) w)(y:Zh C){k:Int}{np:Bool}{K:Int->World->Prop}(v: ∀w',Sat (BP E c cb C::Z) w'->K (C.held k np) w'):F.Br E (some ⟨c,0,none⟩) k np K w:=by
 unfold F.Br T0.Br;have bad: ¬(0<=k/\k<68)->K 0 w:=λg=>by
  have:=v w H;unfold KS.held at this
  grind
 refine AU (AB (λg j=>AS rfl (bad (by omega))) λg1 j=>AP (λg=>bad (by grind)) λg=> ?_);have g2:=of_decide_eq_false g;refine AF ⟨by omega,Yp ⟨kwr,_,rkAt H.drew (by omega) (by omega),?_⟩⟩;rw[y.at (by omega) (by omega)];exact v _ H.drew
def QW(H:Sat (BP E c cb C::Ar E cb b h s r W U M::Z) w)(hI:De W U M)(hZ:Zh C){k a:Int}{np ok:Bool}(hL:C.held k np≠0->W.S.sp (C.held k np)≠none)(hs:Ku W U M (C.held k np) a ok W' U'){K:Int->Bool->World->Prop}
  (hK: ∀w',Sat (BP E c cb C::Ar E cb b h s r W' U' M::Z) w'->K a ok w'):F.Cl E (some ⟨c,0,none⟩) k np K w:=by
 unfold F.Cl T0.Cl;refine O9 H hZ λw2 H2=>BI (λe0=> ?_) λe0=> ?_
 .have h0:=kK hI.inv;cases hs with
  | none _=>grind
  | full _ _=>grind
  | take hx _ _ _=>grind
 have H3:=H2.front 1 rfl;obtain⟨em,H4⟩:=Sat.Rq.1 (Sat.Df.1 H3)
 let Y:List Pr:=IS E b h s r W em++(Cells cb E.Bi [.pointer (some ⟨b,0,none⟩)]::BP E c cb C::Z)
 have bk: ∀{x:Nat×SI} {q:Nat} {R:List Pr} {u:Nat->Bool} {w'},(∀{Y:List Pr} {u m:Nat->Bool} {w'},Sat (A4 E q x.2 u m::(R++Y)) w'->Sat (Lg E h W.S (V5 (U.set (C.held k np) u) (M.set (C.held k np) m))::Y) w')->Sat (A4 E q x.2 u (M (C.held k np))::(R++Y)) w'->Sat (Ar E cb b h s r W (U.set (C.held k np) u) M::BP E c cb C::Z) w':=λ{x q R u w'} b5 h'=>by
  have h1:=b5 h';rw[Af.O3]at h1;exact Sat.Df.2 (Sat.Rq.2 ⟨em,h1⟩)
 refine AF ⟨_,(NI H2).1,AF ⟨_,HR H3,AF ⟨_,(XO H3).1,Yl H4 hI.inv.hI (λT=> ?_) λx q R hx H5 b5=> ?_⟩⟩⟩
 .exact absurd T (hL e0)
 have H5:Sat (A4 E q x.2 (U (C.held k np)) (M (C.held k np))::(R++Y)) w2:=H5;obtain⟨Au,hg⟩:=hI.inv.sp _ x hx;cases hs with
 | none h0=>grind
 | full hx' v=>
  rw[hx]at hx';cases hx';refine TB H5 (by rw[Au.st];decide) hg.sl.1 (λ_=>AS rfl (hK _ (H2))) λn T J=> ?_
  grind
 | @take x' uw n hx' T J hul=>
  rw[hx]at hx';cases hx';refine TB H5 (by rw[Au.st];decide) hg.sl.1 (λv=> ?_) λn' aS y aA aU aD=>AO rfl ?_
  .have:=v n T
   grind
  obtain rfl:n=n':=by
   rcases Nat.lt_trichotomy n n' with c|c|c
   .rw[aA n c]at J;cases J
   .exact c
   .rw[hul n' c]at y;cases y
  have O:=Au.ba;have aT:=Au.pg;have aI:=Au.size;have h4:=aI.2.2.2.2;rw[Int.mul_comm x.2.elem]at h4;have hmul:(n:Int)*x.2.elem<=x.2.AK*x.2.elem:=Int.mul_le_mul_of_nonneg_right (by omega) (by omega);refine TK aD ⟨O.1,O.2.1⟩ T ⟨by omega,by omega⟩ (by omega) λaK aE=> ?_
  .have h1:=bk b5 aE;have h2:=rwSw (S':=W.S.put (C.held k np) (x.1,{x.2 with uw:=uw,used:=x.2.used+1,look:=(n:Int)+1})) h1 rfl rfl rfl rfl rfl λj=> ?_
   .exact hK aK (h2.front 1 rfl)
   .show(if j=C.held k np then some _ else W.S.sp j).map _=_;by_cases cj:j=C.held k np
    .rw[if_pos cj,cj,hx];rfl
    grind
def PA{W0:SW}(H:Sat (BP E c cb C::Ar E cb b h s r W U M::Z) w)(hI:De W U M)(hZ:Zh C){k:Int}{np:Bool}(j:0<=k)(v:k<68)(hl:Pd W C k np W0){K:World->Prop}
  (hK: ∀w',Sat (BP E c cb (C.hold k np 0)::Ar E cb b h s r W0 U M::Z) w'->K w'):F.Bs E (some ⟨c,0,none⟩) k np K w:=by
 unfold F.Bs T0.Bs;have J:=hZ.at j v np;refine Yp (AF ⟨⟨j,v⟩,kwr,_,rkAt H j v,?_⟩);rw[J];rcases hl with ⟨h0,rfl⟩|⟨O,y,Gk,hy,aE,rfl⟩
 .refine Ca (λc=>absurd h0 c) λ_=> ?_;have e:C.hold k np 0=C:=by
   unfold KS.hold;have:(λi=>if i=TM k np then(0:Int)else C.hd i)=C.hd:=by grind
   rw[this]
  grind
 .refine Ca (λ_=> ?_) λc=>by omega
  refine AF ⟨_,(NI H).1,cW (H.front 1 rfl) hI.inv Gk hI.JI (λhn=> ?_) (λ_ hex=> ?_) λx T _ w8 H8=> ?_⟩
  .grind
  .grind
  .rw[hy]at T;cases T;exact AF ⟨⟨j,v⟩,kwr,rkSt (H8.front 1 rfl) j v λw' Y=>hK w' Y⟩
def Yq(H:Sat Z w){k:Int}(hk:0<k/\k<68){K:Int->World->Prop}(J: ∀w',Sat Z w'->K ((AX k).2.1*8192) w'):F.EE E k K w:=by
 unfold F.EE T0.EE;refine O4 H λr1 Y v=> ?_;have T:=v.Gb (by decide) Ae;rw[IZ]at T;obtain⟨x,y⟩:=v.FY (by decide) Ae (i:=k.toNat) (by rw[IZ];omega);have O:=Ia (c:=k) (by omega) hk.2;rw[y];refine AF ⟨⟨by omega,by omega⟩,_,by rw[add_add];exact v.Bp Ae y (K4 (by omega) hk.2) (j:=1) rfl,?_⟩;rw[AI (n:=(AX k).2.1),AI];exact J Y v.tail
def N1(H:Sat (BP E c cb C::Ar E cb b h s r W U M::Z) w)(hI:De W U M)(hN:Gd W)(hZ:Zh C){k a e:Int}{np:Bool}{C':KS}(hH:0<k->k<68->Vt W C k np)(hA:Ki C k np W U M a e C' W' U' M'){K:Int->Int->World->Prop}
  (hK: ∀w',Sat (BP E c cb C'::Ar E cb b h s r W' U' M'::Z) w'->K a e w'):F.Bc E (some ⟨c,0,none⟩) k np K w:=by
 unfold F.Bc T0.Bc;have bad: ¬(0<k/\k<68)->K 0 1 w:=λg=>by
  cases hA with
  | bad _=>exact hK w H
  | dB hk _=>exact absurd hk g
  | no hk=>exact absurd hk g
  | new hk=>exact absurd hk g
 refine AU (AB (λg j=>AS rfl (bad (by omega))) λg1 j=>AP (λg=>bad (by grind)) λg=> ?_);have g2:=of_decide_eq_false g;have hk:0<k/\k<68:=⟨by omega,by omega⟩;have a5:=Ia (c:=k) (by omega) hk.2;have hL:C.held k np≠0->W.S.sp (C.held k np)≠none:=λa6=>by
  rcases hH hk.1 hk.2 with h0|⟨_,y,hy,_⟩
  .omega
  grind
 have cs:(∃J v,Ku W U M (C.held k np) a true J v/\e=0/\C'=C/\W'=J/\U'=v/\M'=M)∨
   ∃W0 id e1 J v M1,Ku W U M (C.held k np) 0 false W U/\Pd W C k np W0/\De W0 U M/\Gd W0/\TO C.p k np (W0.Rr k) U M id e1 J v M1/\
    ((e1≠0/\a=0/\e=e1/\C'=C.hold k np 0/\W'=J/\U'=v/\M'=M1)∨(e1=0/\De J v M1/\ ∃ok,Ku J v M1 id a ok W' U'/\e=0/\C'=C.hold k np id/\M'=M1)):=by
  cases hA with
  | bad g=>omega
  | dB _ hs=>grind
  | no _ hs hl Au hn hf he=>grind
  | new _ hs hl Au hn hf h1 aM=>grind
 rcases cs with ⟨J,v,hs,rfl,rfl,rfl,rfl,rfl⟩|⟨W0,id,e1,J,v,M1,hs,hl,aK,aI,hf,hc⟩
 .exact QW H hI hZ hL hs λw6 H6=>AS rfl (hK w6 H6)
 refine QW H hI hZ hL hs λw6 H6=>AO rfl (PA H6 hI hZ (by omega) hk.2 hl λw7 H7=> ?_);have Hd:=H7.drew;refine AF ⟨_,(NI Hd).1,AF ⟨_,HR (Hd.front 1 rfl),Yq Hd hk λa7 Y=>⟨HR (Y.front 1 rfl),(NI Y).1,?_⟩⟩⟩;refine WS (Sat.Df.1 (Y.front 1 rfl)) aI.ch (by omega) λaW aQ=> ?_;have O:Sat (Ar E cb b h s r (W0.Rr k) U M::BP E c cb (C.hold k np 0)::Z) aW:=Sat.Df.2 aQ;have aD:=O.front 1 rfl;refine⟨(NI aD).1,AF ⟨_,(NI aD).1,AF ⟨_,HR O,?_⟩⟩⟩;have T:=aK.Rr k;have aJ:=aI.Rr hk.1 hk.2;have back: ∀{W2:SW} {U2 M2:Af} {w'},Sat (Ih E b h s r W2 U2 M2::Cells cb E.Bi [.pointer (some ⟨b,0,none⟩)]::BP E c cb (C.hold k np 0)::Z) w'->Sat (BP E c cb (C.hold k np 0)::Ar E cb b h s r W2 U2 M2::Z) w':=λh'=>(Sat.Df.2 h').perm (.swap _ _ _);cases hf with
 | iD hr he=>
  refine Ri (Sat.Df.1 O) T aJ hr λaN aA=>Ca (λ_=> ?_) λc=>absurd c he;rcases hc with ⟨_,rfl,rfl,rfl,rfl,rfl,rfl⟩|⟨h0,_⟩
  .exact hK aN (back aA)
  .exact absurd h0 he
 | get hr hok2 hN2 hg hok3=>
  refine Ri (Sat.Df.1 O) T aJ hr λaN aA=>Ca (λc=>absurd rfl c) λ_=> ?_;have aB:=(back aA).drew;refine AF ⟨_,(NI aB).1,AF ⟨_,(NI aB).2.1,iE (aB.front 1 rfl) hok2 hg λaO aR=> ?_⟩⟩;have aE:Sat (BP E c cb (C.hold k np 0)::Ar E cb b h s r J v M1::Z) aO:=aR.front 1 rfl;rcases hc with ⟨he,rfl,rfl,rfl,rfl,rfl,rfl⟩|⟨rfl,aL,ok,aM,rfl,rfl,rfl⟩
  .exact Ca (λ_=>hK aO aE) λc=>absurd c he
  .refine Ca (λc=>absurd rfl c) λ_=>AF ⟨⟨by omega,hk.2⟩,Yp ⟨kwr,rkSt (np:=np) (id:=id) aE.drew (by omega) hk.2 λa8 aF=> ?_⟩⟩;rw[Sb]at aF;refine QW aF aL (hZ.hold hk.1 np id) (λ_=> ?_) (by rw[NH C hk.1 hk.2 id];exact aM) λaX aS=>hK aX aS;rw[NH C hk.1 hk.2 id];exact hg.live hok2.inv
end
end Go.Sh
namespace Go.Sh
def Out(W:SW)(id:Int):Prop:=W.S.sp id≠none/\ ∀x∈W.L,x.id≠id
structure TnOk(C:KS):Prop where
 aw:0<=C.CZ/\C.CZ<=16
 ti:0<=C.Ho/\C.Ho<281474976710656
structure Yr(W:SW)(C:KS):Prop where
 z:Zh C
 t:TnOk C
 o: ∀k np,C.held k np≠0->Out W (C.held k np)
 i: ∀k np l mp,C.held k np≠0->C.held k np=C.held l mp->k=l/\np=mp
structure KF(W:SW)(U M:Af)(C D:KS):Prop where
 ok:De W U M
 nm:Gd W
 f:ZB W.S
 c:Yr W C
 d:Yr W D
 x: ∀k np l mp,C.held k np≠0->C.held k np≠D.held l mp
variable{W W' W0:SW}{U M U' M':Af}{C C' D:KS}
def KF.swap(h:KF W U M C D):KF W U M D C:=⟨h.ok,h.nm,h.f,h.d,h.c,λk np l mp h0 e=>h.x l mp k np (by omega) e.symm⟩
def Out.pos{id:Int}(h:Out W id)(hI:BO W U M):0<id:=by
 obtain⟨x,j⟩:=Option.ne_none_iff_exists'.1 h.1;exact(hI.hI.sp id x j).1
def Out.Ii{id:Int}(h:Out W id)(hE:Vw W W'):Out W' id:=hE.out id h.1 h.2
def Yr.PB(h:Yr W C)(hI:BO W U M)(k:Int)(np:Bool):Vt W C k np:=by
 by_cases c:C.held k np=0
 .exact .inl c
 .have:=h.o k np c;obtain⟨x,j⟩:=Option.ne_none_iff_exists'.1 this.1;exact .inr ⟨this.pos hI,x,j,this.2⟩
def Yr.Ii(h:Yr W C)(hE: ∀id,Out W id->Out W' id):Yr W' C:=⟨h.z,h.t,λk np h0=>hE _ (h.o k np h0),h.i⟩
def OI.Ii{e:Int}(h:OI W U M e W' U' M'):Vw W W':=by
 induction h with
 | done _=>exact Vw.refl _
 | empty _ _=>exact Vw.refl _
 | Kg _ _ _ _=>exact Vw.rem _ _
 | go _ hx hO _ _ _ ih=>exact(hO.Ii ⟨_,hx.1,rfl⟩).trans ih
def L8.out{p k id e j:Int}{np:Bool}(h:L8 p k np W U M id e W' U' M')(hI:De W U M)(y:De W' U' M')(hf:ZB W.S):ZB W'.S/\(Out W j->Out W' j)/\(e=0->Out W' id/\(Out W j->j≠id)):=by
 have h0:=h.Ii (l:=[]) (B:=W.S.fx.n) ⟨Nat.le_refl _,hI,hf,.nil,λi J=>(by cases J)⟩ y;have h1:Out W j->_:=λv=>h.Ii (l:=[j]) (B:=W.S.fx.n) ⟨Nat.le_refl _,hI,hf,List.nodup_cons.2 ⟨λc=>(by cases c),.nil⟩,λi J=>(by obtain rfl:=List.mem_singleton.1 J;exact v)⟩ y;by_cases he:e=0
 .rw[if_pos he]at h0;refine⟨h0.f,λv=> ?_,λ_=>⟨h0.hd id (by simp),λv=> ?_⟩⟩
  .have:=h1 v;rw[if_pos he]at this;exact this.hd j (by simp)
  .have:=h1 v;rw[if_pos he]at this;have K:=this.nd
   grind
 .rw[if_neg he]at h0;refine⟨h0.f,λv=> ?_,λc=>absurd c he⟩;have:=h1 v;rw[if_neg he]at this;exact this.hd j (by simp)
def Ku.out{id a j:Int}{ok:Bool}(h:Ku W U M id a ok W' U')(hI:BO W U M)(hf:ZB W.S):ZB W'.S/\(Out W j->Out W' j)/\W'.BG=W.BG/\W'.Dg=W.Dg/\0<=a/\a<281474976710656:=by
 cases h with
 | none _=>grind
 | full _ _=>grind
 | @take x uw n hx hn _ _=>
  obtain⟨Au,Y⟩:=hI.sp id x hx;have K:=Au.ba;have v:=Au.size;have J:=v.2.2.2.2;rw[Int.mul_comm x.2.elem]at J;have hmul:((n:Int)+1)*x.2.elem<=x.2.AK*x.2.elem:=Int.mul_le_mul_of_nonneg_right (by omega) (by omega);have O:((n:Int)+1)*x.2.elem=n*x.2.elem+x.2.elem:=by grind
  have T:0<=(n:Int)*x.2.elem:=Int.mul_nonneg (by omega) (by omega);refine⟨hf.put hx rfl rfl,λy=>⟨?_,y.2⟩,rfl,rfl,by omega,by omega⟩;show(if j=id then some _ else W.S.sp j)≠Option.none;split
  .grind
  .exact y.1
def F7{k l:Int}{np mp:Bool}(hk:0<k/\k<68)(id:Int):(C.hold k np id).held l mp=if l=k/\mp=np then id else C.held l mp:=by
 by_cases c:l=k/\mp=np
 .obtain⟨rfl,rfl⟩:=c;rw[if_pos ⟨rfl,rfl⟩,NH C hk.1 hk.2]
 .rw[if_neg c,iC C hk.1 c]
def KF.nP{k:Int}{np:Bool}(h:KF W U M C D)(hk:0<k/\k<68)(O:Pd W C k np W0)(Au:De W0 U M):KF W0 U M (C.hold k np 0) D/\ ∀j,Out W j->j≠C.held k np->Out W0 j:=by
 have out: ∀j,Out W j->j≠C.held k np->Out W0 j:=λj K T=>by
  rcases O with ⟨_,rfl⟩|⟨_,y,Gk,_,_,rfl⟩
  .exact K
  .refine⟨K.1,λx Y=> ?_⟩;rcases LR.1 Y with rfl|Y
   .exact λe=>T e.symm
   .exact K.2 x Y
 have hS:=(Sc O).1;have J: ∀l mp,¬(l=k/\mp=np)->C.held l mp≠0->C.held l mp≠C.held k np:=λl mp c h0 e=>c (h.c.i l mp k np h0 e);refine⟨⟨Au,h.nm.nP O,by rw[hS];exact h.f,⟨h.c.z.hold hk.1 np 0,⟨h.c.t.aw,h.c.t.ti⟩,λl mp h0=> ?_,λl mp l2 v h0 e=> ?_⟩,⟨h.d.z,h.d.t,λl mp h0=>out _ (h.d.o l mp h0) λe=> ?_,h.d.i⟩,λl mp l2 v h0=> ?_⟩,out⟩
 .rw[F7 hk]at h0⊢;by_cases c:l=k/\mp=np
  .rw[if_pos c]at h0;exact absurd rfl h0
  .rw[if_neg c]at h0⊢;exact out _ (h.c.o l mp h0) (J l mp c h0)
 .rw[F7 hk]at h0;rw[F7 hk,F7 hk]at e;by_cases c:l=k/\mp=np
  .grind
  .rw[if_neg c]at h0 e;by_cases c2:l2=k/\v=np
   .grind
   .rw[if_neg c2]at e;exact h.c.i l mp l2 v h0 e
 .have hc:C.held k np≠0:=by omega
  exact h.x k np l mp hc e.symm
 .rw[F7 hk]at h0⊢;by_cases c:l=k/\mp=np
  .grind
  .rw[if_neg c]at h0⊢;exact h.x l mp l2 v h0
def KF.Rr{k:Int}(h:KF W U M C D)(hk:0<k/\k<68):KF (W.Rr k) U M C D:=⟨h.ok.Rr k,h.nm.Rr hk.1 hk.2,h.f,h.c.Ii λ_ h=>h,h.d.Ii λ_ h=>h,h.x⟩
def KF.Ii(h:KF W U M C D)(hE:Vw W W')(Au:De W' U' M')(j:Gd W'):KF W' U' M' C D:=⟨Au,j,hE.f h.f,h.c.Ii λ_ g=>g.Ii hE,h.d.Ii λ_ g=>g.Ii hE,h.x⟩
def KF.held{k id:Int}{np:Bool}(h:KF W U M C D)(hk:0<k/\k<68)(Au:De W' U' M')(O:Gd W')(hf:ZB W'.S)(K: ∀j,Out W j->Out W' j)(T:Out W' id)(J: ∀j,Out W j->j≠id):KF W' U' M' (C.hold k np id) D:=by
 have y:=h.c.Ii K;have hd:=h.d.Ii K;refine⟨Au,O,hf,⟨y.z.hold hk.1 np id,⟨y.t.aw,y.t.ti⟩,λl mp h0=> ?_,λl mp l2 v h0 e=> ?_⟩,hd,λl mp l2 v h0=> ?_⟩
 .rw[F7 hk]at h0⊢;split
  .exact T
  .rename_i c;rw[if_neg c]at h0;exact y.o l mp h0
 .rw[F7 hk]at h0;rw[F7 hk,F7 hk]at e;by_cases c:l=k/\mp=np<;>by_cases c2:l2=k/\v=np
  .grind
  .rw[if_pos c,if_neg c2]at e;rw[if_pos c,e]at h0;exact absurd e.symm (J _ (h.c.o l2 v h0))
  .rw[if_neg c,if_pos c2]at e;rw[if_neg c]at h0;exact absurd e (J _ (h.c.o l mp h0))
  .rw[if_neg c,if_neg c2]at e;rw[if_neg c]at h0;exact y.i l mp l2 v h0 e
 .rw[F7 hk]at h0⊢;split
  .intro e;rename_i c;rw[if_pos c,e]at h0;exact J _ (h.d.o l2 v h0) e.symm
  .rename_i c;rw[if_neg c]at h0;exact h.x l mp l2 v h0
def KF.slot{id a:Int}{ok:Bool}(h:KF W U M C D)(hs:Ku W U M id a ok W' U')(Au:De W' U' M):KF W' U' M C D:=by
 obtain⟨hf,v,y,J,_⟩:=hs.out (j:=id) h.ok.inv h.f;have v: ∀j,Out W j->Out W' j:=λj=>(hs.out (j:=j) h.ok.inv h.f).2.1;exact⟨Au,⟨by rw[y];exact h.nm.ch,by rw[J];exact h.nm.rp⟩,hf,h.c.Ii v,h.d.Ii v,h.x⟩
def OI.num{e:Int}(h:OI W U M e W' U' M')(j:Gd W):Gd W':=by
 induction h with
 | done _=>exact j
 | empty _ _=>exact j
 | Kg _ _ _ _=>exact⟨j.ch,j.rp⟩
 | @go W U M x n gone W1 U1 M1 e W' U' M' _ hx hO _ _ _ ih=>exact ih (hO.num (W:={W with L:=EY W.L x.id}) ⟨j.ch,j.rp⟩)
def ER.num{k id e:Int}{np full ok:Bool}(h:ER k np full W U M id ok e W' U' M')(j:Gd W):Gd W':=by
 induction h with
 | none=>exact j
 | Kg=>exact⟨j.ch,j.rp⟩
 | @LN W U M x r n W' U' M' y h0 hO Au hy hlt=>exact hO.num (W:={W with L:=EY W.L x.id}) ⟨j.ch,j.rp⟩
 | @go W U M x r n W1 U1 M1 y id ok e W' U' M' h0 hO Au hy hlt hc ih=>exact ih (hO.num (W:={W with L:=EY W.L x.id}) ⟨j.ch,j.rp⟩)
def L8.num{p k id e:Int}{np:Bool}(h:L8 p k np W U M id e W' U' M')(j:Gd W):Gd W':=by
 cases h with
 | bad _=>exact j
 | EO _ _ _=>exact⟨j.ch,j.rp⟩
 | part _ _ _ hc _=>exact hc.num j
 | full _ _ _ h1 _ hc _=>exact hc.num (h1.num j)
 | lost _ _ _ h1 _ h2 _ _=>exact⟨(h2.num (h1.num j)).ch,(h2.num (h1.num j)).rp⟩
 | new _ _ _ h1 _ h2=>exact⟨(h2.num (h1.num j)).ch,(h2.num (h1.num j)).rp⟩
def KF.alloc{k a e:Int}{np:Bool}(h:KF W U M C D)(K:Ki C k np W U M a e C' W' U' M')(Au:De W' U' M'):KF W' U' M' C' D/\0<=a/\a<281474976710656/\C'.Ho=C.Ho/\C'.CZ=C.CZ:=by
 cases K with
 | bad _=>grind
 | dB hk hs=>
  obtain⟨_,_,_,_,h1,h2⟩:=hs.out (j:=0) h.ok.inv h.f;exact⟨h.slot hs Au,h1,h2,rfl,rfl⟩
 | no hk hs hl hok0 hN0 hf he=>
  have h0:=((h.nP hk hl hok0).1).Rr hk;refine⟨?_,by decide,by decide,rfl,rfl⟩;cases hf with
  | iD hr _=>exact h0.Ii hr.Ii Au (hr.num h0.nm)
  | get hr hok1 hN1 hg hok2=>
   have h1:=h0.Ii hr.Ii hok1 hN1;have v: ∀j,_:=λj=>(hg.out (j:=j) hok1 Au h1.f);exact⟨Au,hg.num hN1,(v 0).1,h1.c.Ii λj=>(v j).2.1,h1.d.Ii λj=>(v j).2.1,h1.x⟩
 | new hk hs hl hok0 hN0 hf hok1 hs2=>
  have h0:=((h.nP hk hl hok0).1).Rr hk;cases hf with
  | iD hr he=>omega
  | get hr hok3 hN3 hg hok2=>
   have h1:=h0.Ii hr.Ii hok3 hN3;have v: ∀j,_:=λj=>(hg.out (j:=j) hok3 hok1 h1.f);have h2:=h1.held (k:=k) (np:=np) hk hok1 (hg.num hN3) (v 0).1 (λj=>(v j).2.1) ((v 0).2.2 rfl).1 λj O=>((v j).2.2 rfl).2 O;rw[Sb]at h2;obtain⟨_,_,_,_,y,J⟩:=hs2.out (j:=0) h2.ok.inv h2.f;exact⟨h2.slot hs2 Au,y,J,rfl,rfl⟩
end Go.Sh
namespace Go.Sh
inductive tQ(U M:Af):Nat->KS->SW->KS->SW->Prop
 | stop {C W}:tQ U M 68 C W C.kL W
 | step {i:Nat} {C W W1 W2 C' W'}:i<68->Pd W C i false W1->De W1 U M->Pd W1 (C.hold i false 0) i true W2->De W2 U M->tQ U M (i+1) ((C.hold i false 0).hold i true 0) W2 C' W'->tQ U M i C W C' W'
def tD{C:KS}(h:Zh C)(np:Bool):C.hold 0 np 0=C:=by
 unfold KS.hold;have:(λi=>if i=TM 0 np then(0:Int)else C.hd i)=C.hd:=by
  funext i;by_cases c:i=TM 0 np
  .rw[if_pos c,c];cases np
   .exact h.1.symm
   .exact h.2.symm
  omega
 rw[this]
def Zh.iK{C:KS}(h:Zh C){k:Int}(j:0<=k)(np:Bool):Zh (C.hold k np 0):=by
 by_cases g:0<k
 .exact h.hold g np 0
 .obtain rfl:k=0:=by omega
  rw[tD h];exact h
section
variable{E:Env}{c cb b h s r:Nat}{W W':SW}{U M:Af}{C D C':KS}{Z:List Pr}{w:World}
def Rn(H:Sat (BP E c cb C::Ar E cb b h s r W U M::Z) w)(hI:De W U M)(hZ:Zh C)(hF:tQ U M 0 C W C' W'){K:World->Prop}
  (hK: ∀w',Sat (BP E c cb C'::Ar E cb b h s r W' U M::Z) w'->K w'):F.Be E (some ⟨c,0,none⟩) K w:=by
 unfold F.Be T0.Be;refine AJ (λst w'=> ∃(i:Nat) (v:KS) (y:SW),st.1=(i:Int)/\i<=68/\De y U M/\Zh v/\tQ U M i v y C' W'/\Sat (BP E c cb v::Ar E cb b h s r y U M::Z) w') (λst _=>(68-st.1).toNat) ⟨0,C,W,rfl,by decide,hI,hZ,hF,H⟩ ?_;rintro⟨i',u⟩ _ w2 ⟨i,v,y,hi,aJ,O,j,J,Y⟩;dsimp only at hi⊢;subst hi;cases J with
 | stop=>
  refine AB (λT=>by omega) λ_=>AF ?_;have H3:Sat (Cells c E.CF (Cg cb v)::Ar E cb b h s r W' U M::Z) w2:=Y;refine AV H3 (o:=0) rfl (by rw[Le];omega) λw7 H7=> ?_;rw[Nat.zero_add,N0]at H7;refine AF (AV H7 (o:=0) rfl (by rw[Le];omega) λw9 H9=>hK w9 ?_);rw[Nat.zero_add,K8]at H9;exact H9
 | @step _ _ _ Wa Wb _ _ T h1 hk1 h2 hk2 hF2=>
  refine AB (λ_=> ?_) λg=>by omega
  refine PA Y O j (by omega) (by omega) h1 λw4 H4=>PA H4 hk1 (j.iK (by omega) false) (by omega) (by omega) h2 λw5 H5=> ?_;rw[AM (n:=(i:Int)+1)];exact⟨⟨i+1,_,Wb,by omega,by omega,hk2,(j.iK (by omega) false).iK (by omega) true,hF2,H5⟩,by omega⟩
variable(hE:Vs E)
include hE
theorem TP(H:Sat (BB E c cb C::Ak E cb b h s r W::Z) w)(hI:KF W U M C D){k:Int}{np:Bool}(k0:0<=k)(k1:k<68){K:World->Prop}
  (Y: ∀W0,Pd W C k np W0->KF W0 U M (C.hold k np 0) D-> ∀w',Sat (BB E c cb (C.hold k np 0)::Ak E cb b h s r W0::Z) w'->K w'):F.CK E (some ⟨c,0,none⟩) k np K w:=by
 by_cases g:0<k
 .refine Vu hE H hI.ok.inv ⟨g,k1⟩ hI.ok.JI (hI.c.PB hI.ok.inv k np) λW0 T O w' J=> ?_;have j:W0.em.length+W0.R.length<=1099511627776:=by
   rcases T with ⟨_,rfl⟩|⟨_,y,Gk,_,_,rfl⟩<;>exact hI.ok.em
  have v:De W0 U M:=(J.front 1 rfl:Sat (Ak E cb b h s r W0::_) w').El.Te O j;exact Y W0 T (hI.nP ⟨g,k1⟩ T v).1 w' J
 .obtain rfl:k=0:=by omega
  have h0:C.held 0 np=0:=by unfold KS.held;omega
  refine cV H h0 λw' J=>Y W (.inl ⟨h0,rfl⟩) ?_ w' ?_
  .rw[tD hI.c.z];exact hI
  .rw[tD hI.c.z];exact J
theorem Py(H:Sat (BB E c cb C::Ak E cb b h s r W::Z) w)(hI:KF W U M C D){K:Int->World->Prop}
  (hK: ∀C' W',tQ U M 0 C W C' W'->KF W' U M C' D-> ∀w',Sat (BB E c cb C'::Ak E cb b h s r W'::Z) w'->K 0 w'):F.Da E (some ⟨c,0,none⟩) K w:=by
 unfold F.Da T0.Da;refine AJ (λst w'=> ∃(i:Nat) (y:KS) (Y:SW),st.1=(i:Int)/\i<=68/\KF Y U M y D/\(∀C' W',tQ U M i y Y C' W'->tQ U M 0 C W C' W')/\Sat (BB E c cb y::Ak E cb b h s r Y::Z) w') (λst _=>(68-st.1).toNat) ⟨0,C,W,rfl,by decide,hI,λ_ _ h=>h,H⟩ ?_;rintro⟨i',u⟩ _ w2 ⟨i,y,Y,hi,aQ,v,aD,H2⟩;dsimp only at hi⊢;subst hi;refine AB (λaR=> ?_) λaP=> ?_
 .refine AQ (vs:=[.bool false,.bool true]) H2 λb4 w5 H5 _=> ?_;have H6:Sat (BB E c cb y::Ak E cb b h s r Y::Cells b4 E.AY [.bool false,.bool true]::Z) w5:=(H5.front 2 rfl).front 2 rfl;refine AJ (λst w'=>(st.1=0/\Sat (BB E c cb y::Ak E cb b h s r Y::Cells b4 E.AY [.bool false,.bool true]::Z) w')∨
   (st.1=1/\ ∃O,Pd Y y i false O/\KF O U M (y.hold i false 0) D/\Sat (BB E c cb (y.hold i false 0)::Ak E cb b h s r O::Cells b4 E.AY [.bool false,.bool true]::Z) w')∨
   (st.1=2/\ ∃O Wb,Pd Y y i false O/\KF O U M (y.hold i false 0) D/\Pd O (y.hold i false 0) i true Wb/\KF Wb U M ((y.hold i false 0).hold i true 0) D/\Sat (BB E c cb ((y.hold i false 0).hold i true 0)::Ak E cb b h s r Wb::Cells b4 E.AY [.bool false,.bool true]::Z) w')) (λst _=>(2-st.1).toNat) (.inl ⟨rfl,H6⟩) ?_
  rintro⟨j,u⟩ _ w7 hq;dsimp only at hq⊢;rcases hq with ⟨rfl,T⟩|⟨rfl,O,h1,J,T⟩|⟨rfl,O,Wb,h1,J,h2,aA,T⟩
  .refine AS rfl ⟨⟨by decide,by decide⟩,false,(T.front 2 rfl).cell rfl,TP hE T v (by omega) (by omega) λO hl J aG aB=> ?_⟩;exact⟨.inr (.inl ⟨by rw[AM (by decide) (by decide)];rfl,O,hl,J,aB⟩),by rw[AM (by decide) (by decide)];decide⟩
  .refine AS rfl ⟨⟨by decide,by decide⟩,true,(T.front 2 rfl).cell rfl,TP hE T J (by omega) (by omega) λWb hl aA aG aB=> ?_⟩;exact⟨.inr (.inr ⟨by rw[AM (by decide) (by decide)];rfl,O,Wb,h1,J,hl,aA,aB⟩),by rw[AM (by decide) (by decide)];decide⟩
  .refine AO rfl ?_;rw[AM (n:=(i:Int)+1)];exact⟨⟨i+1,_,Wb,by omega,by omega,aA,λC' W' hf=>aD _ _ (.step (by omega) h1 J.ok h2 aA.ok hf),(T.front 2 rfl).tail⟩,by omega⟩
 .obtain rfl:i=68:=by omega
  have H3:Sat (Cells c E.FU (Cg cb y)::Ak E cb b h s r Y::Z) w2:=H2;refine AF (AV H3 (o:=0) rfl (by rw[Le];omega) λw7 T=> ?_);rw[Nat.zero_add,N0]at T;refine AF (AV T (o:=0) rfl (by rw[Le];omega) λw9 H9=> ?_);rw[Nat.zero_add,K8]at H9;exact hK y.kL Y (aD _ _ .stop) ⟨v.ok,v.nm,v.f,⟨v.c.z,⟨⟨Int.le_refl 0,by show(0:Int)<=16;decide⟩,Int.le_refl 0,by show(0:Int)<281474976710656;decide⟩,v.c.o,v.c.i⟩,v.d,v.x⟩ w9 H9
end
inductive OF(C:KS)(n:Int)(W:SW)(U M:Af):Int->Bool->Int->KS->SW->Af->Af->Prop
 | bad: ¬(1<=n/\n<16)->OF C n W U M 0 false 1 C W U M
 | piece:1<=n->n<16->C.Ho≠0->I5 C.CZ n+n<=16->OF C n W U M (C.Ho+I5 C.CZ n) false 0 {C with CZ:=I5 C.CZ n+n} W U M
 | no {a e C1 W1 U1 M1}:1<=n->n<16->(C.Ho=0∨16<I5 C.CZ n+n)->Ki C 2 true W U M a e C1 W1 U1 M1->e≠0->OF C n W U M 0 false e C1 W1 U1 M1
 | new {a C1 W1 U1 M1}:1<=n->n<16->(C.Ho=0∨16<I5 C.CZ n+n)->Ki C 2 true W U M a 0 C1 W1 U1 M1->OF C n W U M a true 0 (C1.Px a n) W1 U1 M1
def KF.Ho{W W':SW}{U M U' M':Af}{C D C':KS}{n a e:Int}{ok:Bool}(h:KF W U M C D)(j:OF C n W U M a ok e C' W' U' M')(Au:De W' U' M'):KF W' U' M' C' D:=by
 have y:=Rk C.CZ n;have v:=h.c.t.aw;cases j with
 | bad _=>exact h
 | piece h1 h2 _ h3=>exact⟨h.ok,h.nm,h.f,⟨h.c.z,⟨⟨by grind,h3⟩,h.c.t.ti⟩,h.c.o,h.c.i⟩,h.d,h.x⟩
 | no _ _ _ j _=>exact(h.alloc j Au).1
 | @new a C1 W1 U1 M1 h1 h2 _ j=>
  obtain⟨g,a0,a1,_,_⟩:=h.alloc j Au;unfold KS.Px;split
  .exact⟨g.ok,g.nm,g.f,⟨g.c.z,⟨⟨by grind,by grind⟩,a0,a1⟩,g.c.o,g.c.i⟩,g.d,g.x⟩
  .exact g
section
variable{E:Env}{c cb b h s r:Nat}{W W':SW}{U M U' M':Af}{C D C':KS}{Z:List Pr}{w:World}
def Ys{n:Int}(H:Sat (BP E c cb C::Z) w)(hT:TnOk C)(h1:1<=n)(h2:n<16){K:Int->Bool->World->Prop}(J:(C.Ho=0∨16<I5 C.CZ n+n)->K 0 false w)
  (aH:C.Ho≠0->I5 C.CZ n+n<=16-> ∀w',Sat (BP E c cb {C with CZ:=I5 C.CZ n+n}::Z) w'->K (C.Ho+I5 C.CZ n) true w'):F.Fz E (some ⟨c,0,none⟩) n K w:=by
 unfold F.Fz;have ha:=hT.aw;have ht:=hT.ti;have hb:=Rk C.CZ n;have aG:=Lt n;have h3:Sat (Cells c E.CF (Cg cb C)::Z) w:=H;refine AF ⟨_,(NI H).2.2.2,?_⟩;have m8:Int.tmod n 8=n %8:=Int.tmod_eq_emod_of_nonneg (by omega);have m4:Int.tmod n 4=n %4:=Int.tmod_eq_emod_of_nonneg (by omega);have m2:Int.tmod n 2=n %2:=Int.tmod_eq_emod_of_nonneg (by omega);rw[m8,m4,m2];refine IT (λst w'=>w'=w/\st.1=Mp n) ?_ ?_
 .refine⟨by decide,BI (λe=>⟨rfl,by omega⟩) λe=>⟨by decide,BI (λe4=>⟨rfl,by omega⟩) λe4=>⟨by decide,BI (λe2=>⟨rfl,by omega⟩) λe2=>⟨rfl,by omega⟩⟩⟩⟩
 rintro⟨al,u⟩ _ _ ⟨rfl,O⟩;dsimp only at O⊢;subst O;have aC:1<=Mp n/\Mp n<=8:=by omega
 refine⟨by omega,Am λoff v=> ?_⟩;have hmul:0<=(C.CZ+Mp n-1)/Mp n:=Int.ediv_nonneg (by omega) (by omega);have hle:(C.CZ+Mp n-1)/Mp n<=C.CZ+Mp n-1:=Int.ediv_le_self _ (by omega);rw[AM (n:=C.CZ+Mp n),AM (n:=C.CZ+Mp n-1),Int.tdiv_eq_ediv_of_nonneg (by omega),AM (n:=(C.CZ+Mp n-1)/Mp n)]at v;rw[show(C.CZ+Mp n-1)/Mp n*Mp n=I5 C.CZ n from rfl,AM (n:=I5 C.CZ n)]at v;subst v;rw[AM (n:=I5 C.CZ n+n),AI (n:=I5 C.CZ n)];refine AU (AF ⟨_,(NI H).2.2.1,BI (λe j=>AS rfl (J (.inl e))) λe j=>AB (λg=>J (.inr g)) λg=>AF ?_⟩);refine AV h3 (o:=0) rfl (by rw[Le];omega) λaA y=> ?_;rw[Nat.zero_add,K8]at y;have T:Sat (BP E c cb {C with CZ:=I5 C.CZ n+n}::Z) aA:=y;refine AF ⟨_,(NI T).2.2.1,Am λt Y=> ?_⟩;have e1:t=C.Ho+I5 C.CZ n:=by rw[Y];exact AI (by grind) (by grind)
 grind
def Yt{a n:Int}(H:Sat (BP E c cb C::Z) w){K:World->Prop}(Y: ∀w',Sat (BP E c cb (C.Px a n)::Z) w'->K w'):F.F1 E (some ⟨c,0,none⟩) a n K w:=by
 unfold F.F1;have h3:Sat (Cells c E.CF (Cg cb C)::Z) w:=H;have yes:(C.Ho=0∨n<C.CZ)->NC (some ⟨c,0,none⟩) λp8=>stCells (p8.add 138) 0 [.int .u64 a] w λJ=>NC (some ⟨c,0,none⟩) λv=>stCells (v.add 139) 0 [.int .i64 n] J λy=>K y:=λg=>by
  refine AF (AV h3 (o:=0) rfl (by rw[Le];omega) λw7 O=> ?_);rw[Nat.zero_add,N0]at O;refine AF (AV O (o:=0) rfl (by rw[Le];omega) λJ T=>Y J ?_);rw[Nat.zero_add,K8]at T;unfold KS.Px;rw[if_pos g];exact T
 refine AU (AF ⟨_,(NI H).2.2.1,BI (λe j=>AS rfl (yes (.inl e))) λe=>AF ⟨_,(NI H).2.2.2,λj=>AB (λg=>yes (.inr g)) λg=>Y w ?_⟩⟩);unfold KS.Px;rw[if_neg (by omega)];exact H
def cX{n a e:Int}{ok:Bool}(H:Sat (BP E c cb C::Ar E cb b h s r W U M::Z) w)(hI:KF W U M C D)(v:OF C n W U M a ok e C' W' U' M'){K:Int->Bool->Int->World->Prop}
  (y: ∀w',Sat (BP E c cb C'::Ar E cb b h s r W' U' M'::Z) w'->K a ok e w'):F.CW E (some ⟨c,0,none⟩) n K w:=by
 unfold F.CW T0.CW;have bad: ¬(1<=n/\n<16)->K 0 false 1 w:=λg=>by
  cases v with
  | bad _=>exact y w H
  | piece h1 h2=>exact absurd ⟨h1,h2⟩ g
  | no h1 h2=>exact absurd ⟨h1,h2⟩ g
  | new h1 h2=>exact absurd ⟨h1,h2⟩ g
 refine AU (AB (λg j=>AS rfl (bad (by omega))) λg1 j=>AP (λg=>bad (by grind)) λg=> ?_);have g2:=of_decide_eq_false g;refine Ys H hI.c.t (by omega) (by omega) (λT=>AO rfl ?_) λg3 g4 w6 H6=>AS rfl ?_
 .cases v with
  | bad g=>exact absurd ⟨by omega,by omega⟩ g
  | piece _ _ h3 h4=>exact absurd T (by omega)
  | no _ _ _ v he=>exact N1 H hI.ok hI.nm hI.c.z (λ_ _=>hI.c.PB hI.ok.inv 2 true) v λw9 O=>Ca (λ_=>y w9 O) λc=>absurd c he
  | @new _ C1 _ _ _ _ _ _ v=>
   refine N1 H hI.ok hI.nm hI.c.z (λ_ _=>hI.c.PB hI.ok.inv 2 true) v λw9 O=>Ca (λc=>absurd rfl c) λ_=> ?_;exact Yt O λY J=>y Y J
 .cases v with
  | bad g=>exact absurd ⟨by omega,by omega⟩ g
  | piece _ _ h3 h4=>exact y w6 H6
  | no _ _ h _ _=>exact absurd h (by omega)
  | new _ _ h _=>exact absurd h (by omega)
variable(hE:Vs E)
include hE
theorem N3(hT: ∀w',Sat Z w'->Em E.AG w'){n:Int}(H:Sat (BB E c cb C::Ak E cb b h s r W::Z) w)(hI:KF W U M C D){K:Int->Bool->Int->World->Prop}
  (y: ∀a ok e C' W' U' M',OF C n W U M a ok e C' W' U' M'->KF W' U' M' C' D-> ∀w',Sat (BB E c cb C'::Ak E cb b h s r W'::Z) w'->K a ok e w'):F.DO E (some ⟨c,0,none⟩) n K w:=by
 refine cU H hI.c.t.aw hI.c.t.ti (λg=>y _ _ _ _ _ _ _ (.bad g) hI w H) (λh1 h2 v h4 w' H'=> ?_) λh1 h2 v=> ?_
 .have j:OF C n W U M _ false 0 _ W U M:=.piece h1 h2 v h4;exact y _ _ _ _ _ _ _ j (hI.Ho j hI.ok) w' H'
 .refine LG hE hT H hI.ok hI.nm (λ_ _=>hI.c.PB hI.ok.inv 2 true) λa e T W1 U1 M1 hA Au w9 Y=>Ca (λhe=> ?_) λhe=> ?_
  .have j:OF C n W U M 0 false e T W1 U1 M1:=.no h1 h2 v hA he;exact y _ _ _ _ _ _ _ j (hI.Ho j Au) w9 Y
  .subst he;have j:OF C n W U M a true 0 (T.Px a n) W1 U1 M1:=.new h1 h2 v hA;exact Yo Y λO J=>y _ _ _ _ _ _ _ j (hI.Ho j Au) O J
end
section
variable{E:Env}{bb cb cq b h s r b2 h2 s2 r2:Nat}{W W':SW}{U M U' M':Af}{l:List Int}{B:Nat}{Z:List Pr}{w:World}
variable(hE:EnvC E)
include hE
end
section
variable{E:Env}{bb cb cq b h s r b2 h2 s2 r2:Nat}{W W':SW}{U M U' M':Af}{l:List Int}{B:Nat}{Z:List Pr}{w:World}
variable(hE:EnvC E)
include hE
end
section
variable{E:Env}{bb cb cq b h s r b2 h2 s2 r2:Nat}{W W':SW}{U M U' M':Af}{l:List Int}{B:Nat}{Z:List Pr}{w:World}
def QP.some{S S':HS}(h:QP S S'){id:Int}{y:Nat×SI}(j:S'.sp id=some y): ∃x mw,S.sp id=some x/\y=(x.1,{x.2 with mw:=mw}):=by
 cases hx:S.sp id with
 | none=>rw[h.no id hx]at j;cases j
 | some x=>
  obtain⟨mw,e⟩:=h.sp id x hx
  grind
variable(hE:EnvC E)
include hE
end
def dL.len{S:HS}{g:RG}{fl:Int->Bool}(j:dL S g)(hI:BS S fl):g.L.length<=S.fx.n:=by
 have h:=VK S.fx.n (g.L.map (·.1)) j.nd λn v=>by
  obtain⟨a,e,h1,_⟩:=(hI.sf n).1 ((j.mem n).1 v);omega
 grind
section
variable{E:Env}{bb cb cq b h s r b2 h2 s2 r2:Nat}{W W':SW}{U M U' M':Af}{l:List Int}{B:Nat}{Z:List Pr}{w:World}
variable(hE:EnvC E)
include hE
end
def xG{W:SW}{U M:Af}(hI:BO W U M){b:Int}(v:EV W.S b){i:Int}{x:Nat×SI}(y:W.S.sp i=some x):4194304<=x.2.base:=by
 obtain⟨a1,a2,J,_,j⟩:=hI.hI.sp i x y;have:=j (x.2.base/8192) (by omega) (by omega);have h1:=(hI.hI.ow (x.2.base/8192) (by omega)).1;have:=(v.la _).1 ((hI.hI.la _).2 h1);omega
section
variable{E:Env}{w:World}{Z:List Pr}{c cb b h s r:Nat}{C D:KS}{W:SW}{U M:Af}
variable(hE:Vs E)
include hE
end
section
variable{E:Env}{c:Nat}{V:VS}{Z:List Pr}{w:World}{g:MG}{P:tP}{W:wZ}
end
def Yu(i:Nat){t:Nat}{Ps:List Pr}{w:World}{K:Nat->World->Prop}(H:Sat Ps w)(j:Ps[i]? =some iN)(y: ∀b w',Sat (Ps.set i (Row t 1 ⟨some ⟨b,0,none⟩,0,0⟩ [])) w'->K b w'):AL (.cells ⟨[]⟩ t) w K:=
 IU (n:=0) (z:=1) (H.front i j).tail rfl (by decide) λb w' v=>y b w' (Sat.back i v (List.getElem?_eq_some_iff.1 j).1)
def PC(i:Nat){t bytes b:Nat}{zs:Array Value}{a:Ac}{vs:List Value}{Ps:List Pr}{w:World}{K:Ac->World->Prop}(H:Sat Ps w)(J:Ps[i]? =some (Row t 1 ⟨some ⟨b,0,none⟩,0,0⟩ []))(hz:zs.size=1)
  (j: ∀w',Sat (Ps.eraseIdx i) w'->rowAt w' a.base a.len vs)(hl:vs.length=a.len)(hlen:a.len<=1099511627776)(y:bytes<=8)(Y: ∀v∈vs,v.oneCell'=true)(T: ∀s' w',Sat (Ps.set i (Row t 1 s' vs)) w'->K s' w'):
  APP t 1 bytes zs ⟨some ⟨b,0,none⟩,0,0⟩ a w K:=by
 have hm:(0+a.len)*bytes<=1099511627776*8:=Nat.mul_le_mul (by omega) y;exact Gq (H.front i J) hz (by simpa using j w (H.front i J).tail) (by omega) Y (by grind) (by grind) λs' w' O _=>T s' w' (Sat.back i O (List.getElem?_eq_some_iff.1 J).1)
section
variable{E:Env}{b c:Nat}{V:VS}{Z Rs:List Pr}{w:World}
def xH(pl:List Int)(rf:List Bool)(fl:List Int):WH (MF pl rf fl):=
 ⟨trivial,trivial,trivial,λp h=>absurd h (Bq p),λp h=>absurd h (Bq p),λp h=>absurd h (Bq p),λp h=>absurd h (Bq p),λ_ _ _ _ _=>rfl,by show HE []+HE []<=HE [];decide⟩
def cY{b1 t1:Nat}{vs:List Value}{s0 s1 s2:Ac}{pl:List Int}{rf:List Bool}{fl:List Int}(j: ∀x∈pl,0<=x/\x<18446744073709551616)
  (H:Sat (Cells c E.Ay [GJ s0,GJ s1,GJ s2,.slice none 0 0,.slice none 0 0]::Cells b1 t1 vs::Row E.AD 1 s0 (ints .u64 pl)::Row E.AY 1 s1 (BA rf)::Row E.AD 1 s2 (ints .u64 fl)::Rs) w):Sat (Gz E c (MF pl rf fl)::Rs) w:=by
 refine Sat.Vn.2 ⟨⟨s0,s1,s2,⟨none,0,0⟩,⟨none,0,0⟩⟩,[],[],⟨xH pl rf fl,.nil,.nil,λp=>⟨λh=>absurd h (Bq p),λ⟨e,he,_⟩=>(by cases he)⟩,λe he=>(by cases he),λe he=>(by cases he),λe he=>(by cases he),j⟩,?_⟩;have h1:=(H.front 1 rfl).tail;have h2:=(h1.front 1 rfl).tY;have v:=(h2.front 2 rfl).tY;have y:=(v.front 3 rfl).tY;have J:=(y.nil E.As 3);have K:=(J.nil E.IV 2);exact K.perm ((List.reverse_perm [_,_,_,_,_,_]).symm.append_right Rs)
def nQ(H:Sat Rs w){a0 a1 a2:Ac}{pl:List Int}{rf:List Bool}{fl:List Int}(v: ∀x∈pl,0<=x/\x<18446744073709551616)
  (h0: ∀w',Sat Rs w'->rowAt w' a0.base a0.len (ints .u64 pl))(l0:pl.length=a0.len)(k0:a0.len<=1099511627776)
  (h1: ∀w',Sat Rs w'->rowAt w' a1.base a1.len (BA rf))(l1:rf.length=a1.len)(k1:a1.len<=1099511627776)
  (h2: ∀w',Sat Rs w'->rowAt w' a2.base a2.len (ints .u64 fl))(l2:fl.length=a2.len)(k2:a2.len<=1099511627776)
  {K:Option Addr->World->Prop}(hK: ∀b w',Sat (Gz E b (MF pl rf fl)::Rs) w'->K (some ⟨b,0,none⟩) w'):F.KT E a0 a1 a2 K w:=by
 unfold F.KT;have y:(ints IntKind.u64 pl).length=a0.len:=by rw[ints,List.length_map];exact l0
 have Y:(BA rf).length=a1.len:=by rw[BA,List.length_map];exact l1
 have J:(ints IntKind.u64 fl).length=a2.len:=by rw[ints,List.length_map];exact l2
 refine AQ (vs:=[GJ a0,GJ a1,GJ a2]) H.emp.emp.emp λb1 w2 H2 _=> ?_;have T:=H2.drew;clear H2;have t4: ∀{P0 P1 P2:Pr} {w'},Sat (P0::P1::P2::Rs) w'->Sat Rs w':=λh=>h.tail.tail.tail;refine⟨a0,T.Aa rfl,a1,T.cell rfl,a2,T.cell rfl,?_⟩
 repeat' first
  | (exact Sat.cell (by assumption) (by rfl))
  | (exact Sat.Aa (by assumption) (by rfl))
  | (refine PC 1 (a:=a0) (vs:=ints .u64 pl) (by assumption) (by rfl) rfl (by intro w' h;exact h0 w' (t4 h)) y k0 (by decide) (T4 _ _) λs' w' j=> ?_)
  | (refine PC 1 (a:=a2) (vs:=ints .u64 fl) (by assumption) (by rfl) rfl (by intro w' h;exact h2 w' (t4 h)) J k2 (by decide) (T4 _ _) λs' w' j=> ?_)
  | (refine PC 2 (a:=a1) (vs:=BA rf) (by assumption) (by rfl) rfl (by intro w' h;exact h1 w' (t4 h)) Y k1 (by decide) (sL _) λs' w' j=> ?_)
  | (refine PC 3 (a:=a0) (vs:=ints .u64 pl) (by assumption) (by rfl) rfl (by intro w' h;exact h0 w' (t4 h)) y k0 (by decide) (T4 _ _) λs' w' j=> ?_)
  | (refine PC 3 (a:=a2) (vs:=ints .u64 fl) (by assumption) (by rfl) rfl (by intro w' h;exact h2 w' (t4 h)) J k2 (by decide) (T4 _ _) λs' w' j=> ?_)
  | (refine Yu 2 (t:=E.AY) (by assumption) (by rfl) λO w' j=> ?_)
  | (refine Yu 1 (t:=E.AD) (by assumption) (by rfl) λO w' j=> ?_)
  | (refine Yu 3 (t:=E.AD) (by assumption) (by rfl) λO w' j=> ?_)
  | (refine AQ (vs:=[GJ _,GJ _,GJ _,.slice none 0 0,.slice none 0 0]) (by assumption) λO w' j _=>hK _ _ (cY v j))
  | (refine AQ (vs:=[GJ _,GJ _,GJ _,.slice none 0 0,.slice none 0 0]) (by assumption) λO w' j _=>hK _ _ (cY v (j.perm (.cons _ (.cons _ (((List.Perm.swap _ _ _).trans (.cons _ (.swap _ _ _))).trans (.swap _ _ _)))))))
  | (refine And.intro ?_ ?_)
end
section
variable{E:Env}{bb cb cq b h s r b2 h2 s2 r2:Nat}{W W':SW}{U M U' M':Af}{l:List Int}{B:Nat}{Z:List Pr}{w:World}
variable(hE:EnvC E)
include hE
end
section
variable{E:Env}{bb cb cq b h s r b2 h2 s2 r2:Nat}{W W':SW}{U M U' M':Af}{l:List Int}{B:Nat}{Z:List Pr}{w:World}
end
def iF{E:Env}{h:Nat}{S:HS}{U M:Af}{Z:List Pr}{w:World}(H:Sat (Lg E h S (V5 U M)::Z) w){K:Option Addr->World->Prop}(T: ∀b s r w',Sat (Ih E b h s r (SW.new S) U M::Z) w'->K (some ⟨b,0,none⟩) w'):F.JZ E (some ⟨h,0,none⟩) K w:=by
 unfold F.JZ;refine AQ (vs:=[.slice none 0 0]) H λs w2 j _=>AQ (vs:=[.slice none 0 0]) j λr w4 v _=>AQ (vs:=E4 h s r ⟨none,0,0⟩ (SW.new S)) v λb w6 y _=>T b s r w6 ?_;have J:=(Sat.Pc (L:=[]) (q:=s) (E:=E)).2 ⟨⟨none,0,0⟩,[],.refl _,((y.nil E.Ah 6).front 3 rfl)⟩;have O:=(Sat.YU (R:=[]) (q:=r) (E:=E)).2 ⟨⟨.nil,λx Y=>(by cases Y),Nat.zero_le _⟩,⟨none,0,0⟩,((J.nil E.AN 3).front 3 rfl)⟩;exact Sat.Rq.2 ⟨⟨none,0,0⟩,((((O.nil E.AN 3).front 1 rfl).front 3 rfl).front 3 rfl).front 4 rfl⟩
section
end
end Go.Sh

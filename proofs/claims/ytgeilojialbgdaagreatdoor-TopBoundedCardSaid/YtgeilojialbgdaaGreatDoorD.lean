/- The law's walk, joined; what is lifted of it. No further condition. -/
import Derived.Test.YtgeilojialbgdaaGreatDoorG
import Derived.Test.YtgeilojialbgdaaGreatDoorB
import Derived.Test.YtgeilojialbgdaaGreatDoorK
import Derived.Test.YtgeilojialbgdaaGreatDoorQ
import Derived.Test.YtgeilojialbgdaaGreatDoorW
import Derived.Test.YtgeilojialbgdaaGreatDoorJ
import Derived.Test.YtgeilojialbgdaaGreatDoorA
import Derived.Test.YtgeilojialbgdaaGreatDoorCards
import Derived.Test.YtgeilojialbgdaaGreatDoorTie
import Derived.WalkKit
import Derived.ProofKit
import Derived.OpenShut
import Derived.Deep.DeepHandedRow
import Derived.Lib.LaidTab
set_option linter.all false
set_option maxRecDepth 50000
set_option maxHeartbeats 16000000
namespace Go.Sh
theorem kW:(A0 5).1=48/\(A0 5).2.1=1/\(A0 1).1<40/\(A0 2).1<40/\(A0 3).1<40/\(A0 4).1<40:=by decide+kernel
theorem uV:HK 40 5 1:=.inl ⟨by decide,⟨by decide,by decide,by rw[kW.1];decide,λj h0 h1=>by
 obtain⟨_,_,g1,g2,g3,g4⟩:=kW
 grind⟩,kW.2.1.symm⟩
theorem bZ:HK 100000 0 13:=.inr ⟨by decide,rfl,by decide⟩
theorem uW{α:Type}{p:α}: ∀{L:List α},L.Nodup->(∀q∈L,q=p)->p∈L->L=[p]
 | [],_,_,h=>by cases h
 | [a],_,h,_=>by grind
 | a::b::l,hn,h,_=>by simp_all
section
variable{E:Env}{rb:Nat}{g:Nu}{S:B4}{Z:List Pr}{w:World}
theorem cA{e:Nat}{t:Nat}{a:Int}(H:Sat (AA E rb g S++Cells e t [.int .u64 a]::Z) w)(hI:F5 S){op p n:Int}{i:Nat}(hp:p=(i:Int)){q:AY×List Int}(hq:S.Q[i]? =some q)(aA:1<=op/\op<=9)(hf:S.L.length<999999/\q.2.length<999999){K:Int->Int->World->Prop}
  (hK: ∀O s1 s' b w',s1.len=1->F5 (S.asked i s' q.2 b (.new op p n s1))->Sat (AA E rb O (S.asked i s' q.2 b (.new op p n s1))++Row E.AF 1 s1 (ints .u64 [a])::Cells e t [.int .u64 a]::Z) w'->K (S.L.length:Int) 0 w'):F.Ev E (sM rb) op p n 0 0 0 false 0 ⟨none,0,0⟩ ⟨some ⟨e,0,none⟩,1,1⟩ K w:=by
 refine Vn H hI hp hq aA hf (λs'=>[Row E.AF 1 s' (ints .u64 [a])]) (λY w' K' h hk=>WO (vs:=[a]) h rfl (λu T=> ?_) rfl (show(1:Nat)<=1000000 by decide) λs' u T=>hk s' u (T.perm (List.perm_middle (l₁:=Y)).symm)) λO s1 s' b w4 Bl H4=> ?_
 .have h3:Sat (Cells e t [.int .u64 a]::(Y++Z)) u:=T.perm (List.perm_middle (l₁:=Y));refine⟨rfl,λj v J=> ?_⟩
  match j,J with
  | 0,J=>
   cases J;exact h3.AW rfl
  | j+1,J=>simp[ints]at J
 .have:=(H4.front 12 rfl:Sat (Row E.AF 1 s1 (ints .u64 [a])::_) w4).CK;exact hK O s1 s' b w4 (by simp[ints]at this;omega) Bl H4
theorem No{α β:Type}{f:α->β}: ∀{l:List α},(l.map f).Nodup-> ∀{a b:α},a∈l->b∈l->f a=f b->a=b
 | [],_,_,_,h,_,_=>by cases h
 | x::l,hn,a,b,u,v,e=>by
  rw[List.map_cons,List.nodup_cons]at hn;rcases List.mem_cons.1 u with e1|h1<;>rcases List.mem_cons.1 v with e2|j
  .rw[e1,e2]
  .exact absurd (List.mem_map.2 ⟨b,j,by rw[<-e,e1]⟩) hn.1
  .exact absurd (List.mem_map.2 ⟨a,h1,by rw[e,e2]⟩) hn.1
  .exact No hn.2 h1 j e
theorem Kh.mkOf{W:SW}{CL:List (Nat×KS)}{U M:Aq}{n:Nat}{B Bw:List Bk}(h:Kh W CL U M n B Bw){p:Bk}(u:p∈B){d:Int}(h0:0<=d)(h1:d<p.z):Go.Sh.mkOf W.S (p.a+d)=some (p.id,p.m):=by
 obtain⟨x,j,e1,e2⟩:=h.isB u;have e:inB x.2 p.m (p.a+d):=by unfold inB;omega
 obtain⟨g1,g2,_,g4⟩:=e.Wq (h.inv.sp _ _ j.sp).1 j.lt;unfold Go.Sh.mkOf;rw[(j.own h.inv e).1,j.sp]
 grind
theorem cB(hE:Ku E)(hH:QI E){Y:List Pr}(H:Sat Y w)(hT: ∀aJ,Sat Y aJ->Ec E.AH aJ){K:Bool->World->Prop}(hK: ∀aJ,Sat Y aJ->K true aJ):F.Dr E K w:=by
 unfold F.Dr T0.Dr;refine TU (rf:=[]) (ps:=2) H (λw' _=>(show rowAt w' none 0 []from rfl)) rfl (λw' _=>(show rowAt w' none 0 (Hu [])from rfl)) rfl (by decide) (λw' _=>(show rowAt w' none 0 []from rfl)) rfl (by decide) (by decide) λrb g S w3 hN H3=> ?_;refine Ad (AR rfl λjj=>AR rfl ?_);have aO:XS none 5 2 0 S (λ_=>D8):=hN.rest0 (by decide) none (λn e=>by cases e) (by decide) S.o0 S.o1;have b8:S.L.length=0:=by rw[hN.l];rfl
 have a2:=bY.start (ns:=λk=>if k=0 then 40 else 100000) aO (by decide);have bD:S.Q[0]? =some (⟨none,0,0⟩,[]):=by rw[hN.q];rfl
 have dH:S.Q[1]? =some (⟨none,0,0⟩,[]):=by rw[hN.q];rfl
 have b5:WR 5 none (.new 1 ((0:Nat):Int) 40 ⟨none,0,0⟩):=⟨rfl,by show(16:Int)<=40;decide,by show(40:Int)<=1000000;decide,λcls pg hw=>⟨.inr (hw.uniq uV).1,λn e=>by cases e⟩⟩;have b6:WR 5 none (.new 1 ((1:Nat):Int) 100000 ⟨none,0,0⟩):=⟨rfl,by show(16:Int)<=100000;decide,by show(100000:Int)<=1000000;decide,λcls pg hw=>⟨.inl (hw.uniq bZ).1,λn e=>by cases e⟩⟩;refine MR H3 aO.id.ok (p:=((0:Nat):Int)) (i:=0) rfl bD (by decide) ⟨by omega,by grind⟩ λg4 s4 b0 w4 aG H4=> ?_;have a3:=a2.step aO bD b5 aG (by decide) (by decide) (by omega);have dC:(S.asked 0 s4 [] b0 (.new 1 ((0:Nat):Int) 40 ⟨none,0,0⟩)).L.length=1:=by show(S.L++[_]).length=_;grind
 have aS:(S.asked 0 s4 [] b0 (.new 1 ((0:Nat):Int) 40 ⟨none,0,0⟩)).Q[1]? =some (⟨none,0,0⟩,[]):=by show(S.Q.set 0 _)[1]? =_;grind
 refine MR H4 aG (p:=((1:Nat):Int)) (i:=1) rfl aS (by decide) ⟨by grind,by grind⟩ λg5 s5 b1 w5 bB H5=> ?_;have aU:=a3.step aO aS b6 bB (by decide) (by decide) (by grind);clear a2 a3 H3 H4 aG;refine kO hE hT aU.pa (by decide) (by rw[aU.ql];decide) H5 (a1:=⟨none,0,0⟩) (vs:=[]) rfl (by grind) (λ_ _=>rfl) λg6 S6 U6 dJ B6 cH hP hq w6 H6=>AR rfl ?_;have O:=hP.idle hq;rw[cH,aU.ql]at O;have dA:=(hP.quiet hq).1;have dD:S6.L.length=2:=by rw[hP.ln,b8]
 obtain⟨y0,aH⟩: ∃y,S6.L[0]? =some y:=⟨_,List.getElem?_eq_getElem (by omega)⟩;obtain⟨y1,aI⟩: ∃y,S6.L[1]? =some y:=⟨_,List.getElem?_eq_getElem (by omega)⟩;have cF:y0.2.n=40:=hP.nz 0 y0 (by omega) aH;have cG:y1.2.n=100000:=hP.nz 1 y1 (by omega) aI;obtain⟨p0,dG,bV,bX,c7,cls0,dL,bG,bI⟩:=hP.rep 0 y0 (by omega) aH (O.dn 0 y0 aH);obtain⟨p1,aD,bW,b4,c8,cO,dM,bH,bJ⟩:=hP.rep 1 y1 (by omega) aI (O.dn 1 y1 aI);rw[cF]at bG bI;rw[cG]at bH bJ;have bU:p0.z=48:=by rw[bI,(bG.uniq uV).1];exact kW.1
 have bT:p1.z=106496:=by rw[bJ,(bH.uniq bZ).1];rfl
 have dE:=hP.ma.tp.at8 aD;have aR: ∀{x y z:Int},∀v∈([.int .u64 x,.int .u64 y,.int .i64 z]:List Value),v.oneCell'=true:=by intro x y z v hv;simp only[List.mem_cons,List.not_mem_nil,or_false]at hv;rcases hv with rfl|rfl|rfl<;>rfl
 refine Rf (k:=0) H6 aH (O.dn 0 y0 aH) λw7 H7=> ?_;refine AJ (vs:=[.int .u64 0,.int .u64 0,.int .i64 0]) H7 λaN w8 H8 _=>Bm (news:=[.int .u64 y0.2.ad,.int .u64 y0.2.nn,.int .i64 y0.2.co]) H8 rfl aR λw9 H9=> ?_;refine Rf (k:=1) (E8 H9) aI (O.dn 1 y1 aI) λdO bM=> ?_;refine AJ (vs:=[.int .u64 0,.int .u64 0,.int .i64 0]) bM λaC dP bN _=>Bm (news:=[.int .u64 y1.2.ad,.int .u64 y1.2.nn,.int .i64 y1.2.co]) bN rfl aR λdQ aY=> ?_;refine⟨_,aY.AW rfl,AJ (vs:=[.int .u64 (u64 (y1.2.ad+5000))]) aY λa0 dR aT _=> ?_⟩;rw[bW,AP (n:=p1.a+5000)]at aT;rw[bV,bX,bU,b4,bT]at aT;have mv: ∀{A B:Pr} {L Z:List Pr} {w'},Sat (A::B::(L++Z)) w'->Sat (L++A::B::Z) w':=λh=>h.perm ((List.perm_middle.trans (List.perm_middle.cons _)).symm);have bO:=mv aT;have aW: ∃s,S6.Q[0]? =some (s,[]):=by
  obtain⟨q,cI⟩: ∃q,S6.Q[0]? =some q:=⟨_,List.getElem?_eq_getElem (by rw[O.ql];decide)⟩;have:=O.q 0 q cI
  grind
 obtain⟨sz,aW⟩:=aW;refine cA bO O.ok (p:=0) (i:=0) rfl aW (by decide) ⟨by omega,by grind⟩ λg15 s2 Sr b2 dS cD aF bP=> ?_;have a9:=hP.ma.tp.mkOf aD (d:=5000) (by decide) (by omega);have a7:=hP.ma.tp.bl;have a8:=hP.ma.tp.bs;have bA:=hP.ma.tp.nd;have aQ:=hP.ma;rw[Nat.sub_zero]at aQ;have dF:=hP.me;obtain⟨x0,x1,x2,b9⟩:=PB.start (as_:=[p1.a+5000]) (o:=none) O (by decide) aQ aF trivial (by omega) (λa ha id j hj=>by
  rw[List.mem_singleton.1 ha]at hj;have cC:=a9.symm.trans hj;cases cC;obtain⟨x,h1,h2,_⟩:=a8 p1 aD;exact(a7 _ x _ h1 h2).2 (List.mem_map.2 ⟨p1,aD,rfl⟩))
 have cP:(S6.asked 0 Sr [] b2 (.new 6 0 0 s2)).L.length=3:=by show(S6.L++[_]).length=_;grind
 have aX:(S6.asked 0 Sr [] b2 (.new 6 0 0 s2)).Q[0]? =some (Sr,[(S6.L.length:Int)]):=by
  show(S6.Q.set 0 _)[0]? =_
  grind
 refine MR bP aF (p:=0) (i:=0) rfl aX (by decide) ⟨by grind,by grind⟩ λg16 Zf b3 cK aV bQ=> ?_;have a5:=b9.ask aV (by omega) (by omega)
 let S8:B4:=(S6.asked 0 Sr [] b2 (.new 6 0 0 s2)).asked 0 Zf [(S6.L.length:Int)] b3 (.new 7 0 9 ⟨none,0,0⟩)
 have aZ:Sat (AA E rb g16 S8++Row E.AF 1 s2 (ints .u64 [p1.a+5000])::Cells a0 E.AF [.int .u64 (p1.a+5000)]::Cells aC E.CT [.int .u64 p1.a,.int .u64 106496,.int .i64 y1.2.co]::Cells aN E.CT [.int .u64 p0.a,.int .u64 48,.int .i64 y0.2.co]::Y) cK:=bQ;refine AG ⟨_,Gx aZ,?_⟩;refine KP (S:=S8) hH aZ (U:=U6) hP.ma.inv (B:=B6) bA a7 a8 (by omega) λs18 dT cU _ bR=> ?_;have Hd:=bR.drew;have u: ∀{g' S' w'},Sat (AA E rb g' S'++Row E.AF 1 s2 (ints .u64 [p1.a+5000])::Cells a0 E.AF [.int .u64 (p1.a+5000)]::Cells aC E.CT [.int .u64 p1.a,.int .u64 106496,.int .i64 y1.2.co]::Cells aN E.CT [.int .u64 p0.a,.int .u64 48,.int .i64 y0.2.co]::Y) w'->
  w'.cell? (Addr.mk aC 0 none)=some (.int .u64 p1.a)/\w'.cell? ((Addr.mk aC 0 none).add 1)=some (.int .u64 106496)/\w'.cell? ((Addr.mk aN 0 none).add 1)=some (.int .u64 48):=λh=>
  ⟨(h.front 14 rfl:Sat (Cells aC E.CT _::_) _).AW rfl,(h.front 14 rfl:Sat (Cells aC E.CT _::_) _).cell (o:=0) (m:=1) rfl,(h.front 15 rfl:Sat (Cells aN E.CT _::_) _).cell (o:=0) (m:=1) rfl⟩
 refine Aa rfl (Aa rfl (Aa (by grind) ⟨_,(u Hd).2.2,Aa rfl ⟨_,(u Hd).2.1,Aa rfl ?_⟩⟩));refine Yp hE hH (λw' h=>hT w' h.tail.tail.tail.tail) (yc:=(b2,.new 6 0 0 s2)) (as_:=[p1.a+5000]) (λw' h=>by have:=h.LP;rwa[Nat.mul_one]at this) cD.symm (by show s2.len<=_;omega) (λa ha=>by grind) (.inl ⟨_,_,_,_,_,_,_,a5⟩) (by omega) Hd λg19 S9 m9 U9 M9 dN I9 B9 t0 t1 t2 l9 v0 v1 hC bE dU aM=> ?_;obtain⟨a4,cJ,cE,bF,_⟩:=hC.quiet bE;have J:=hC.mc;have a6:=hC.dn rfl cJ cE;have aP: ∀id j,Gf.mark S6.W.S [p1.a+5000] id j=true↔(p1.id,p1.m)=(id,j):=λid j=>by
  unfold Aq.mark;simp only[List.any_cons,List.any_nil,Bool.or_false];rw[show Go.Sh.mkOf S6.W.S (p1.a+5000)=some (p1.id,p1.m)from a9];show(false||_)=true↔_;simp
 have b7:B9=[p1]:=uW ((List.pairwise_map.1 J.nd).imp λh e=>h (by rw[e])) (λp hp=>by
  obtain⟨x,hx,_⟩:=J.bs p hp;rcases J.Vv p.id x hx with g|⟨z,hz,e⟩
  .rw[bF]at g;cases g
  .have h1:=(aP p.id p.m).1 ((J.sw z hz (a6 z hz)).1 p hp e.symm);exact No bA (hC.bb.1 p hp) aD h1.symm) (hC.bb.2 p1 aD ((aP _ _).2 rfl))
 subst b7;refine⟨(u aM).2.1,(u aM).2.2,Aa rfl (AG ⟨_,Gx aM,?_⟩)⟩;refine KP hH aM J.inv J.nd J.bl J.bs (by grind) λwH dV cV _ aE=>⟨(u aE).2.1,(u aE).2.2,Aa (by grind) (AG ⟨_,Gx aE,_,(u aE).1,?_⟩)⟩;refine KP hH aE J.inv J.nd J.bl J.bs (by grind) λUm cL cW CO T=> ?_;obtain⟨p,hp,hc⟩:=CO p1 rfl;refine⟨(u T).1,(u T).2.1,(u T).2.2,Ij hp ⟨⟨by decide,by grind⟩,_,hc,Aa (beq_self_eq_true _) ?_⟩⟩;refine Rd hE T a4.ok ⟨hc,(u T).1,(u T).2.1,(u T).2.2,?_⟩;rw[bE];exact hK cL T.tail.tail.tail.tail.tail.tail.tail.tail.tail.tail.tail.tail.tail.tail.tail.tail
end
theorem Tl{E:Env}{w:World}(hE:Ku E)(hH:QI E)(O:nX E)(hT:Ec E.AH w)
  {a0 a1 a2 u:Int}{j:AY}{T:Nat->Int}(v:RowA w (.int .i64) j T){K:Bool->World->Prop}(J: ∀w',Ext AN w w'->K true w'):F.BJ E a0 a1 a2 u j K w:=
 Yu hE hH O hT (λY w' H e K' a=>cB hE hH H e a) v J
end Go.Sh
namespace Go.Sh
open Go.Proofs
theorem envS:EnvS env where
 at1:=by
  intro i p1 a K w h;refine⟨(jM #[.int .i64 i,.pointer p1,.pointer a] w (λv w'=> ∃b,v= .bool b/\K b w') Fi ?_).1,(jM #[.int .i64 i,.pointer p1,.pointer a] w (λv w'=> ∃b,v= .bool b/\K b w') Fi ?_).2⟩<;>
  exact(show F.D6 env i p1 a (λb w'=> ∃e,Value.bool b= .bool e/\K e w') w from qY (λb w' h=>⟨b,rfl,h⟩) h)
 mono:=Zl
theorem envA:EnvA env where
 toEnvS:=envS
 yI:=by
  intro x y p1 a R w h;refine⟨(jL #[.int .u64 x,.int .u64 y,.pointer p1,.pointer a] w R Fi ?_).1,(jL #[.int .u64 x,.int .u64 y,.pointer p1,.pointer a] w R Fi ?_).2⟩<;>
  exact h
theorem envW:EnvW env where
 toEnvA:=envA
 sQ:=by
  intro i p1 a R w h;refine⟨(jK #[.int .i64 i,.pointer p1,.pointer a] w R Fi ?_).1,(jK #[.int .i64 i,.pointer p1,.pointer a] w R Fi ?_).2⟩<;>
  exact h
theorem envC:EnvC env where
 toEnvW:=envW
theorem envK:EnvK env where
 toEnvC:=envC
theorem envH:QI env where
 toEnvA:=envA
 sK:=by
  intro x y p R w h;refine⟨(dO #[.int .i64 x,.int .i64 y,.pointer p] w R Fi ?_).1,(dO #[.int .i64 x,.int .i64 y,.pointer p] w R Fi ?_).2⟩<;>
  exact h
theorem uX{E:Env}{i:Int}{p1 e:Option Addr}{w:World}{K a:Bool->World->Prop}(O: ∀b w',K b w'->a b w')(h:F.Ga E i p1 e K w):F.Ga E i p1 e a w:=by
 unfold F.Ga at h⊢;obtain⟨q1,rfl,x2,j,h⟩:=G4 h;obtain⟨q3,u,hi,T,v,h⟩:=G4 h;obtain⟨q5,rfl,Y,J,h⟩:=G4 h;refine⟨x2,j,?_⟩;show NC x2.base _;rw[u];exact⟨hi,T,v,Y,J,O _ _ h⟩
theorem envT:Ku env where
 toEnvK:=envK
 of1:=by
  intro i p1 a K w h;refine⟨(Xy #[.int .i64 i,.pointer p1,.pointer a] w (λv w'=> ∃b,v= .bool b/\K b w') Fi ?_).1,(Xy #[.int .i64 i,.pointer p1,.pointer a] w (λv w'=> ∃b,v= .bool b/\K b w') Fi ?_).2⟩<;>
  exact(show F.Ga env i p1 a (λb w'=> ∃e,Value.bool b= .bool e/\K e w') w from uX (λb w' h=>⟨b,rfl,h⟩) h)
 wait1:=by
  intro p R w h;refine⟨(qV #[.pointer p] w R Fi ?_).1,(qV #[.pointer p] w R Fi ?_).2⟩<;>
  exact h
 uB:=by
  intro p R w h;refine⟨(qN #[.pointer p] w R Fi ?_).1,(qN #[.pointer p] w R Fi ?_).2⟩<;>
  exact h
 look1:=by
  intro r t R w h;refine⟨(dP #[.pointer r,.pointer t] w R Fi ?_).1,(dP #[.pointer r,.pointer t] w R Fi ?_).2⟩<;>
  exact h
 uC:=by
  intro r t R w h;refine⟨(dQ #[.pointer r,.pointer t] w R Fi ?_).1,(dQ #[.pointer r,.pointer t] w R Fi ?_).2⟩<;>
  exact h
 take1:=by
  intro r t R w h;refine⟨(qR #[.pointer r,.pointer t] w R Fi ?_).1,(qR #[.pointer r,.pointer t] w R Fi ?_).2⟩<;>
  exact h
 kJ:=by
  intro r t R w h;refine⟨(dU #[.pointer r,.pointer t] w R Fi ?_).1,(dU #[.pointer r,.pointer t] w R Fi ?_).2⟩<;>
  exact h
 grow1:=by
  intro r t R w h;refine⟨(qT #[.pointer r,.pointer t] w R Fi ?_).1,(qT #[.pointer r,.pointer t] w R Fi ?_).2⟩<;>
  exact h
 uD:=by
  intro r t R w h;refine⟨(dY #[.pointer r,.pointer t] w R Fi ?_).1,(dY #[.pointer r,.pointer t] w R Fi ?_).2⟩<;>
  exact h
 one1:=by
  intro r t R w h;refine⟨(dZ #[.pointer r,.pointer t] w R Fi ?_).1,(dZ #[.pointer r,.pointer t] w R Fi ?_).2⟩<;>
  exact h
 do1:=by
  intro r t R w h;refine⟨(dX #[.pointer r,.pointer t] w R Fi ?_).1,(dX #[.pointer r,.pointer t] w R Fi ?_).2⟩<;>
  exact h
 stop1:=by
  intro r t R w h;refine⟨(eA #[.pointer r,.pointer t] w R Fi ?_).1,(eA #[.pointer r,.pointer t] w R Fi ?_).2⟩<;>
  exact h
 wt1:=by
  intro r t R w h;refine⟨(eB #[.pointer r,.pointer t] w R Fi ?_).1,(eB #[.pointer r,.pointer t] w R Fi ?_).2⟩<;>
  exact h
 uE:=by
  intro r t R w h;refine⟨(eC #[.pointer r,.pointer t] w R Fi ?_).1,(eC #[.pointer r,.pointer t] w R Fi ?_).2⟩<;>
  exact h
 flip1:=by
  intro r t R w h;refine⟨(qU #[.pointer r,.pointer t] w R Fi ?_).1,(qU #[.pointer r,.pointer t] w R Fi ?_).2⟩<;>
  exact h
theorem cC{K:World->Prop}{e:Ending}{w':World}(h:Ends (λ_ w'=>K w') Fi e w'):(∃v,e= .returned v)/\K w':=by
 obtain⟨v,j,a⟩:=h.val;exact⟨⟨v,j⟩,a⟩
theorem seqC{c:Option Addr}{xs:List Int}{Q:Pr}(h: ∀(l:Nat) (J:Nat->List Pr->Prop) (j:List Pr->Prop) (W:World) (Rs:List Pr),
  (∀(i:Nat) (x:Int) (Rs:List Pr) (u:World) (X:Pr),xs[i]? =some x->J i Rs->Sat (X::Q::Rs) u->
   env.pT l #[.int .u64 x] u λv W'=>(v= .bool true/\ ∃a,J (i+1) a/\Sat (X::Q::a) W')∨(v= .bool false/\ ∃a,j a/\Sat (X::Q::a) W'))->
  J 0 Rs->Sat (Q::Rs) W->
  F.Cc env (.func (.yield l) #[] #[]) c (λW'=>(∃a,J xs.length a/\Sat (Q::a) W')∨ ∃a,j a/\Sat (Q::a) W') W):V4 Tryz.prog 91 #[.pointer c] xs Q:=
 ⟨λargs w=>Tryz.call91 args w,λl J j W Rs K h0 HS=>(fits91 #[.func (.yield l) #[] #[],.pointer c] W (λ_ W'=>(∃a,J xs.length a/\Sat (Q::a) W')∨ ∃a,j a/\Sat (Q::a) W') Fi (h l J j W Rs K h0 HS)).2.mono λe w' he=>cC he⟩
theorem seqI{c:Option Addr}{xs:List Int}{Q:Pr}(h: ∀(l:Nat) (J:Nat->List Pr->Prop) (j:List Pr->Prop) (W:World) (Rs:List Pr),
  (∀(i:Nat) (x:Int) (Rs:List Pr) (u:World) (X:Pr),xs[i]? =some x->J i Rs->Sat (X::Q::Rs) u->
   env.pT l #[.int .u64 x] u λv W'=>(v= .bool true/\ ∃a,J (i+1) a/\Sat (X::Q::a) W')∨(v= .bool false/\ ∃a,j a/\Sat (X::Q::a) W'))->
  J 0 Rs->Sat (Q::Rs) W->
  F.II env (.func (.yield l) #[] #[]) c (λW'=>(∃a,J xs.length a/\Sat (Q::a) W')∨ ∃a,j a/\Sat (Q::a) W') W):V4 Tryz.prog 124 #[.pointer c] xs Q:=
 ⟨λargs w=>Tryz.call124 args w,λl J j W Rs K h0 HS=>(yB #[.func (.yield l) #[] #[],.pointer c] W (λ_ W'=>(∃a,J xs.length a/\Sat (Q::a) W')∨ ∃a,j a/\Sat (Q::a) W') Fi (h l J j W Rs K h0 HS)).2.mono λe w' he=>cC he⟩
theorem envR:nX env where
 toEnvA:=envA
 uT:=λl args w K e a ⟨fn,tmps,assign,body,h1,h2⟩=>⟨fn,tmps,assign,body,h1,h2.mono a⟩
 kT:=λc xs Q h=>seqI h
 kU:=λc xs Q h=>seqC h
end Go.Sh
namespace Go.Proofs.YtgeilojialbgdaaGreatDoor.topBounded
open Go.ChangeShapes Go.WideShapes Go.ChangeAt Go.RowKit
set_option linter.unusedVariables false
set_option linter.unusedSimpArgs false
theorem own:ownKnob Tryz.prog.godebug=none:=by kernel_rfl
theorem laidOut:laidOutB Tryz.prog=true:=by kernel_rfl
theorem gTab:Tryz.prog.globalNamed "math/bits.deBruijn64tab" =some 1:=by kernel_rfl
theorem gTabType:(Tryz.prog.globals[1]?).map (·.type)=some 377:=by kernel_rfl
theorem und1:Tryz.prog.underlying 377=some (.array 64 5):=by kernel_rfl
theorem und2:Tryz.prog.underlying 5=some (.int .u8):=by kernel_rfl
theorem cells1:Tryz.prog.cellsOf 377=64:=by kernel_rfl
theorem cells2:Tryz.prog.cellsOf 5=1:=by kernel_rfl
theorem table{W:World}(h:laidMetH Tryz.prog Rows.topBoundedRow.laid W):Go.Sh.Ec Go.Sh.env.AH W:=by
 have a:=Lib.tabIs_of_head (rest:=[]) (k:=.u8) (zs:=Lib.deBruijn64tab.map fun n:Nat=>(n:Int)) gTab gTabType und1 und2 cells2 cells1 h;intro i hi;have:=a.cell gTab i (by rw[List.length_map];exact hi);rw[show(Lib.deBruijn64tab.map fun n:Nat=>(n:Int)).getD i 0=((Lib.deBruijn64tab.getD i 0:Nat):Int) by rw[List.getD_eq_getElem?_getD,List.getD_eq_getElem?_getD,List.getElem?_map];cases Lib.deBruijn64tab[i]? <;>rfl]at this;exact this
theorem walk(x:Go.Sh.ZY [.int .i64,.int .i64,.int .u64,.int .i64,.sl (.int .i64)])(w:World)(h:Go.Sh.dC w [.int .i64,.int .i64,.int .u64,.int .i64,.sl (.int .i64)] x)(hT:Go.Sh.Ec Go.Sh.env.AH w):
  Calls Tryz.prog 3 ⟨Go.Sh.Tp [.int .i64,.int .i64,.int .u64,.int .i64,.sl (.int .i64)] x⟩ w fun e w'=>e= .returned (.bool true)/\Below w.heap.size w w':=by
 obtain⟨a0,a1,a2,j,J,u⟩:=x;obtain⟨w0,w1,K,O,a,_⟩:=h;obtain⟨T,a⟩:=a;refine(Go.Sh.fits3 _ w (fun v w'=>v= .bool true/\Below w.heap.size w w') Go.Sh.Fi ?_).2.mono ?_
 ·show Go.Sh.F.BJ Go.Sh.env a0 a1 a2 j J (fun r w'=>Value.bool r= .bool true/\Below w.heap.size w w') w;exact Go.Sh.Tl Go.Sh.envT Go.Sh.envH Go.Sh.envR hT a fun w' h=>⟨rfl,h.below (Nat.le_refl _) fun _ f=>f.elim⟩
 ·intro e w' hE;obtain⟨v,rfl,rfl,h⟩:=hE.val;exact⟨rfl,h⟩
noncomputable def laidWorld(os:Os):World:=
 {World.holding Tryz.prog os ⟨#[],#[],[]⟩with heap:=(World.holding Tryz.prog os ⟨#[],#[],[]⟩).heap.modify 1 fun
   | .cells _ t frozen=>.cells ⟨Lib.deBruijn64tab.map fun n:Nat=>.int .u8 (n:Int)⟩ t frozen
   | o=>o}
theorem laid_met(os:Os):laidMet Tryz.prog Rows.topBoundedRow.laid ((laidWorld os).forCall (fun _ _=>0) ⟨#[],#[.int .i64 0,.int .i64 0,.int .u64 0,.int .i64 0,.slice none 0 0],[]⟩).memory:=
 laidMet_of_run' 8 (by kernel_rfl) (by kernel_rfl)
theorem reads(os:Os){H:Type}(enc:TypeId×Value->H): ∃places,DataW.whole enc Tryz.prog ((laidWorld os).forCall (fun _ _=>0) ⟨#[],#[.int .i64 0,.int .i64 0,.int .u64 0,.int .i64 0,.slice none 0 0],[]⟩).memory Tryz.f3.params.toList Rows.topBoundedSpec.vars false (#[.int .i64 0,.int .i64 0,.int .u64 0,.int .i64 0,.slice none 0 0]:Array Value).toList 8=some ([.lit (.int .i64 0),.lit (.int .i64 0),.lit (.int .u64 0),.lit (.int .i64 0),.nil],[],places):=
 ⟨[],by kernel_rfl⟩
set_option maxRecDepth 100000 in
theorem lifted(os:Os)(started:os.Started)(H:Type)(enc:TypeId×Value->H)(F:Stop.Interp):
  ReturnsInHanded {} Tryz.checked os 3 .any ((OpenSpec.ofChange Rows.topBoundedSpec).preRow enc Tryz.prog Tryz.f3 Rows.topBoundedRow.domain false Rows.topBoundedRow.laid) (((OpenSpec.ofChange Rows.topBoundedSpec).at F).post enc Tryz.prog Tryz.f3 false true false false):=by
 obtain⟨places,T⟩:=reads os enc;refine returnsInHanded_of_row (C:=Tryz.checked) (s:=OpenSpec.ofChange Rows.topBoundedSpec) own started (by kernel_rfl) Tryz.func3
  (witness_row_at (enc:=enc) (C:=Tryz.checked) false (laidWorld os) #[.int .i64 0,.int .i64 0,.int .u64 0,.int .i64 0,.slice none 0 0] rfl (by kernel_rfl) (by kernel_rfl) (by kernel_rfl)
   (OpenSpec.preRow_of_cond 8 T (by kernel_rfl) (fun k hk=>by cases hk) (by kernel_rfl) (laid_met os))) ?_
 intro W base args J gs before u Y _ _ _ hL _ _;have O:=Y;obtain⟨p,q,K,hV,rfl,aC,aF⟩:=Y;obtain⟨rfl,rfl⟩:=trodVars_none hV;have a:=Go.Sh.iT (P:=Tryz.prog) (shs:=[.int .i64,.int .i64,.int .u64,.int .i64,.sl (.int .i64)]) (by kernel_rfl) (fun j t v ht hv=>u j t v (by simpa using ht) (by simpa using hv)) K;obtain⟨x,T,Bl⟩:=Go.Sh.UU a;obtain rfl:args=⟨Go.Sh.Tp [.int .i64,.int .i64,.int .u64,.int .i64,.sl (.int .i64)] x⟩:=Array.toList_inj.1 (by simpa using T);have hlen:=Go.Sh.So K;obtain⟨d0,d1,d2,d3,d4,rfl⟩: ∃d0 d1 d2 d3 d4,J=[d0,d1,d2,d3,d4]:=by
  have hl:J.length=5:=hlen
  match J,hl with
  | [d0,d1,d2,d3,d4],_=>exact⟨d0,d1,d2,d3,d4,rfl⟩
 refine(walk x W Bl (table hL)).mono fun e W' ⟨he,bel⟩=> ?_;subst he;exact⟨_,rfl,_,_,_,[],_,[],O,trodAll_mk1 (shut_bool Tryz.underlying4 _),Go.Sh.Pd laidOut bel (by kernel_rfl) K,rfl,bel.frame _,fun h=>by cases h⟩
end Go.Proofs.YtgeilojialbgdaaGreatDoor.topBounded

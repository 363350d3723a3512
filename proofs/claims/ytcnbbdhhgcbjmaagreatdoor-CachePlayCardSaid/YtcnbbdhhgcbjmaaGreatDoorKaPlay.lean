/- The law CachePlay holds (its card: math/bits' table as the program's text lays it): for every input the Go function returns true and leaves its arguments alone. No further condition. -/
import Derived.Test.YtcnbbdhhgcbjmaaGreatDoorG
import Derived.Test.YtcnbbdhhgcbjmaaGreatDoorK
import Derived.Test.YtcnbbdhhgcbjmaaGreatDoorJ
import Derived.Test.YtcnbbdhhgcbjmaaGreatDoorB
import Derived.Test.YtcnbbdhhgcbjmaaGreatDoorW
import Derived.Test.YtcnbbdhhgcbjmaaGreatDoorA
import Derived.Test.YtcnbbdhhgcbjmaaGreatDoorCards
import Derived.Test.YtcnbbdhhgcbjmaaGreatDoorTie
import Derived.WalkKit
import Derived.ProofKit
import Derived.OpenShut
import Derived.Deep.DeepHandedRow
import Derived.Lib.LaidTab
set_option linter.all false
set_option maxRecDepth 50000
set_option maxHeartbeats 4000000
namespace Go.Sh
section
variable{E:Env}{cb cq b h s r b2 h2 s2 r2:Nat}{W W':SW}{U M U' M':Af}{C D:KS}{Z:List Pr}{w:World}
def KF.mark(hC:KF W U M C D){S':HS}(hm:QP W.S S')(Au:De {W with S:=S',L:=Ib W.L} U M'):KF {W with S:=S',L:=Ib W.L} U M' C D:=by
 have out: ∀j,Out W j->Out {W with S:=S',L:=Ib W.L} j:=λj O=>by
  refine⟨λK=> ?_,λx v e=> ?_⟩
  .have K:S'.sp j=none:=K;obtain⟨x,v⟩:=Option.ne_none_iff_exists'.1 O.1;obtain⟨mw,e⟩:=hm.sp j x v
   grind
  .obtain⟨y,J,rfl⟩:=List.mem_map.1 v;exact O.2 y J e
 refine⟨Au,⟨hC.nm.ch,hC.nm.rp⟩,λid y J=> ?_,hC.c.Ii out,hC.d.Ii out,hC.x⟩;obtain⟨x,mw,v,rfl⟩:=hm.some J;exact hC.f id x v
variable(hE:EnvC E)
include hE
theorem mk20{s1 sl:Ac}{j:List Int}(H:Sat (Row E.AD 1 s1 (ints .u64 j)::Row E.AD 1 sl (ints .u64 j)::Ak E cb b h s r W::Ar E cq b2 h2 s2 r2 W U M::Z) w)(hC:KF W U M C D)(hl:j.length<=1000000)(has: ∀a∈j,0<=a/\a<18446744073709551616){K:Bool->World->Prop}
  (hK: ∀W' M' w',KF W' U M' C D->W'.S.fx.n=W.S.fx.n->Sat (Ak E cb b h s r W'::Ar E cq b2 h2 s2 r2 W' U M'::Z) w'->K true w'):
  F.B4 E (some ⟨b,0,none⟩) s1 (λT y=>
   y.cell? (Addr.mk cq 0 none)=some (.pointer (some ⟨b2,0,none⟩))/\
   F.A3 E (some ⟨b2,0,none⟩) sl (λaA aB=>K ((T:Int)==aA) aB) y) w:=by
 have row: ∀{t:Ac} {Y:List Pr} {w':World},Sat (Row E.AD 1 t (ints .u64 j)::Y) w'->rowAt w' t.base t.len (ints .u64 j)/\j.length=t.len:=λ{t Y w'} v=>by
  have h1:=v.KN;have h2:=v.EA;unfold ints at h2
  grind
 have l1:=(row H).2;have l2:=(row H.tail).2;have Hc:=(H.front 2 rfl).El;refine bD hE.toEnvW Hc hC.ok.inv (λw' v=>(row v.tail).1) l1 (by omega) has (λO w' H'=> ?_) λaL S' hm aE w' H'=> ?_
 .have J:=H'.F6;refine⟨HR (J.front 3 rfl),TL (Sat.Df.1 (J.front 3 rfl)) hC.ok.inv hC.ok.hk hC.ok.se (λw' v=>(row v.tail.tail.tail).1) l2 (by omega) has (λ_=> ?_) λaG=> ?_⟩
  .exact hK W M w' hC rfl ((J.front 1 rfl).tail.front 1 rfl).tail
  .have:MH W.L false=0:=by
    unfold MH;rw[List.length_eq_zero_iff,List.filter_eq_nil_iff]
    grind
   omega
 .have Au:=H'.Te aE hC.ok.em;have J:=H'.F6;refine⟨HR (J.front 3 rfl),TL (Sat.Df.1 (J.front 3 rfl)) hC.ok.inv hC.ok.hk hC.ok.se (λw' v=>(row v.tail.tail.tail).1) l2 (by omega) has (λO=> ?_) λ_ w8 H8=> ?_⟩
  .have:MH W.L false=0:=by
    unfold MH;rw[List.length_eq_zero_iff,List.filter_eq_nil_iff]
    grind
   omega
  .have H9:Sat (Ar E cq b2 h2 s2 r2 {W with S:=S',L:=Ib W.L} U (M.mark W.S j)::Ak E cb b h s r {W with S:=S',L:=Ib W.L}::Row E.AD 1 s1 (ints .u64 j)::Row E.AD 1 sl (ints .u64 j)::Z) w8:=by
    refine rwSw (W:={W with L:=Ib W.L}) (Sat.Df.2 H8) ?_ ?_ ?_ ?_ ?_ λid=> ?_
    .rw[hm.rest]
    .rw[hm.rest]
    .rw[hm.rest]
    .rw[hm.rest]
    .rw[hm.rest]
    .show(S'.sp id).map _=(W.S.sp id).map _;cases hx:W.S.sp id with
     | none=>rw[hm.no id hx]
     | some x=>
      obtain⟨mw,e⟩:=hm.sp id x hx;rw[e];rfl
   have aD:=((H9.front 2 rfl).tail.front 2 rfl).tail;rw[show((0:Int)==0)=true from rfl];exact hK _ _ w8 (hC.mark hm Au) (by show S'.fx.n=_;rw[hm.rest]) (aD.front 1 rfl)
theorem sw20(hT: ∀w',Sat Z w'->Em E.AG w'){sl:Ac}{O:List Int}(H:Sat (Row E.AD 1 sl (ints .u64 O)::Ak E cb b h s r W::Ar E cq b2 h2 s2 r2 W U M::Z) w)(hC:KF W U M C D)(hl:O.length<=1000000)(has: ∀a∈O,0<=a/\a<18446744073709551616){K:Bool->World->Prop}
  (hK: ∀W' U' M' w',KF W' U' M' C D->W'.S.fx.n=W.S.fx.n->Sat (Ak E cb b h s r W'::Ar E cq b2 h2 s2 r2 W' U' M'::Z) w'->K true w'):
   A9 (Unit) (()) w λs35 _ aY aO=>
    F.A6 E (some ⟨cb,0,none⟩) (λbV cC=>
    F.B3 E bV (λa4 a5 a7=>
    NC (some ⟨cq,0,none⟩) λbT=>
    ∃bH:(Option Addr),a7.cell? bT=some (.pointer bH)/\
    F.A2 E bH (λa6 bW a8=>
    An (Bool×Unit) (λa2=>
     CND ((a4:Int) !=a6) (
      a2 (true,()) a8
     ) (
      a2 (!(a5==bW),()) a8
     )
    ) λzD _ aL=>
     CND (zD.1) (
      K false aL
     ) (
      CND (!a5) (
       NC (some ⟨cq,0,none⟩) λaC=>
       ∃aB:(Option Addr),aL.drew.cell? aC=some (.pointer aB)/\
       (
        F.A6 E (some ⟨cb,0,none⟩) (λbX a9=>
        a9.cell? aC=some (.pointer aB)/\
        AL (.cells ⟨[]⟩ E.AD) a9 λaX aQ=>
        aQ.cell? aC=some (.pointer aB)/\
        APP E.AD 1 8 #[.int .u64 0] ⟨(some (Addr.mk aX 0 none)),0,0⟩ sl aQ λRp aR=>
        aR.cell? aC=some (.pointer aB)/\
        F.B4 E bX Rp (λbY bA=>
        bA.cell? aC=some (.pointer aB)/\
        F.A3 E aB sl (λbZ cE=>
        K ((bY:Int)==bZ) cE
        ) bA
        ) aR
        ) aL.drew
       )/\(
        AL (.cells ⟨[]⟩ E.AD) aL.drew λbM bB=>
        bB.cell? aC=some (.pointer aB)/\
        F.A6 E (some ⟨cb,0,none⟩) (λb0 bC=>
        bC.cell? aC=some (.pointer aB)/\
        APP E.AD 1 8 #[.int .u64 0] ⟨(some (Addr.mk bM 0 none)),0,0⟩ sl bC λtL bD=>
        bD.cell? aC=some (.pointer aB)/\
        F.B4 E b0 tL (λb1 bE=>
        bE.cell? aC=some (.pointer aB)/\
        F.A3 E aB sl (λb3 cF=>
        K ((b1:Int)==b3) cF
        ) bE
        ) bD
        ) bB
       )
      ) (
       F.A6 E (some ⟨cb,0,none⟩) (λb4 cG=>
       F.BR E b4 a4 false (λb5 b6 b7 bF=>
       NC (some ⟨cq,0,none⟩) λbU=>
       ∃bI:(Option Addr),bF.cell? bU=some (.pointer bI)/\
       F.Av E bI a6 false (λb8 b9 cA aZ=>
       An (Bool×Unit) (λaW=>
        CND ((b5:Int) !=b8) (
         aW (true,()) aZ
        ) (
         CND (!(b6==b9)) (
          aW (true,()) aZ
         ) (
          aW ((b7:Int) !=cA,()) aZ
         )
        )
       ) λzN _ bG=>
        CND (zN.1) (
         K false bG
        ) (
         aO (()) bG
        )
       ) bF
       ) cG
       ) aL
      )
     )
    ) a7
    ) cC
    ) aY:=by
 have one: ∀v∈ints .u64 O,v.oneCell'=true:=λv hv=>by
  obtain⟨x,_,rfl⟩:=List.mem_map.1 hv;rfl
 refine Nl (λn _ w'=> ∃J U1 M1,KF J U1 M1 C D/\n=YS J.L/\J.S.fx.n=W.S.fx.n/\Sat (Row E.AD 1 sl (ints .u64 O)::Ak E cb b h s r J::Ar E cq b2 h2 s2 r2 J U1 M1::Z) w') _ ⟨W,U,M,hC,rfl,rfl,H⟩ ?_;rintro n _ _ aY ⟨J,U1,M1,T,rfl,aN,H1⟩;have Hc:Sat (Ak E cb b h s r J::Row E.AD 1 sl (ints .u64 O)::Ar E cq b2 h2 s2 r2 J U1 M1::Z) aY:=H1.front 1 rfl;refine EP Hc (O1 hE.toEnvW Hc.El T.ok.inv (λaK w8 H8=> ?_) λx hx cN w8 H8=> ?_)
 .have H9:=H8.F6;have aH:Sat (Ar E cq b2 h2 s2 r2 J U1 M1::Ak E cb b h s r J::Row E.AD 1 sl (ints .u64 O)::Z) w8:=H9.front 2 rfl;refine AF ⟨_,HR aH,LX (Sat.Df.1 aH) T.ok.se (λ_ aP aU=> ?_) λx hx=> ?_⟩
  .have aD:=(Sat.Df.2 aU).drew;refine AU (AO rfl λj=>AO rfl (AS rfl (AF ⟨_,HR aD,?_,?_⟩)))
   .refine EP (aD.front 1 rfl) ⟨HR aD,?_⟩;have Hd:Sat (Row E.AD 1 sl (ints .u64 O)::Ak E cb b h s r J::Ar E cq b2 h2 s2 r2 J U1 M1::Z) aP.drew:=(aD.front 1 rfl).front 2 rfl;have pq: ∀{A B:Pr} {w'},Sat (A::B::Ak E cb b h s r J::Ar E cq b2 h2 s2 r2 J U1 M1::Z) w'->w'.cell? (Addr.mk cq 0 none)=some (.pointer (some ⟨b2,0,none⟩)):=λh'=>HR (h'.front 3 rfl);refine IU (n:=0) (z:=1) Hd rfl (by decide) λaX aQ aF=>⟨pq aF,?_⟩;have bR:O.length=sl.len:=by
     have h2:=Hd.EA;unfold ints at h2
     grind
    refine RW aF rfl one (by grind) (by grind) λRp aR aJ=>⟨pq aJ,mk20 hE aJ T hl has λW' M' w' h1 h2 h3=>hK W' U1 M' w' h1 (h2.trans aN) h3⟩
   .have Hd:Sat (Row E.AD 1 sl (ints .u64 O)::Ak E cb b h s r J::Ar E cq b2 h2 s2 r2 J U1 M1::Z) aP.drew:=(aD.front 1 rfl).front 2 rfl;have pq: ∀{A B:Pr} {w'},Sat (A::B::Ak E cb b h s r J::Ar E cq b2 h2 s2 r2 J U1 M1::Z) w'->w'.cell? (Addr.mk cq 0 none)=some (.pointer (some ⟨b2,0,none⟩)):=λh'=>HR (h'.front 3 rfl);have bR:O.length=sl.len:=by
     have h2:=Hd.EA;unfold ints at h2
     grind
    refine IU (n:=0) (z:=1) Hd rfl (by decide) λaX aQ aF=>⟨pq aF,EP (aF.front 2 rfl) ⟨pq aF,?_⟩⟩;refine RW aF rfl one (by grind) (by grind) λRp aR aJ=>⟨pq aJ,mk20 hE aJ T hl has λW' M' w' h1 h2 h3=>hK W' U1 M' w' h1 (h2.trans aN) h3⟩
  .have:=aK x hx.1;rw[hx.2.1]at this;cases this
 .have H9:=H8.F6;have aH:Sat (Ar E cq b2 h2 s2 r2 J U1 M1::Ak E cb b h s r {J with L:=EY J.L x.id}::Row E.AD 1 sl (ints .u64 O)::Z) w8:=H9.front 2 rfl;refine AF ⟨_,HR aH,LX (Sat.Df.1 aH) T.ok.se (λaK=> ?_) λx' bS aP aU=> ?_⟩
  .have:=aK x hx.1;rw[hx.2.1]at this;cases this
  obtain rfl:=hx.uniq T.ok.se bS;have Y:=T.ok.rem x.id;have cM:=RY T.ok.se hx.1 hx.2.1;have aD:Sat (Ak E cb b h s r {J with L:=EY J.L x.id}::Ar E cq b2 h2 s2 r2 {J with L:=EY J.L x.id} U1 M1::Row E.AD 1 sl (ints .u64 O)::Z) aP:=(Sat.Df.2 aU).front 1 rfl;refine AU (Ca (λc=>absurd rfl c) λ_ j=>AO rfl (AO rfl ?_));have bP: ∀w',Sat (Cells cb E.Bb [.pointer (some ⟨b,0,none⟩)]::Ar E cq b2 h2 s2 r2 {J with L:=EY J.L x.id} U1 M1::Row E.AD 1 sl (ints .u64 O)::Z) w'->Em E.AG w':=λw' h'=>hT w' h'.tail.tail.tail;refine EP aD (Nq hE.toEnvW bP aD.El Y.inv Y.JI Y.em (λz hz=>(Ds.1 hz).2) (λhn=> ?_) (λz hz cR w6 H6=> ?_) λn gone W2 U2 M2 aA bO w6 H6=> ?_)
  .obtain⟨y,hy,_⟩:=T.ok.inv.it x hx.1
   grind
  .have aI:Sat (Ar E cq b2 h2 s2 r2 {J with L:=EY J.L x.id} U1 M1::Ak E cb b h s r {J with L:=EY J.L x.id}::Row E.AD 1 sl (ints .u64 O)::Z) w6:=H6.F6.front 1 rfl;refine AF ⟨_,HR aI,Jn (Sat.Df.1 aI) Y.inv Y.hk Y.JI Y.em (λz hz=>(Ds.1 hz).2) (λhn=> ?_) (λz' _ _ cB aV=> ?_) λz' _ bQ=> ?_⟩
   .grind
   .refine AU (Ca (λc=>absurd rfl c) λ_=>AO rfl λj=>AO rfl (⟨_,?_,_,U1,M1,T.Ii (Vw.rem J x.id) Y ⟨T.nm.ch,T.nm.rp⟩,rfl,aN,((Sat.Df.2 aV).front 1 rfl).front 2 rfl⟩))
    grind
   grind
  .have aT:=H6.Te bO (Nat.le_trans aA.len Y.em);have aI:Sat (Ar E cq b2 h2 s2 r2 {J with L:=EY J.L x.id} U1 M1::Ak E cb b h s r W2::Row E.AD 1 sl (ints .u64 O)::Z) w6:=H6.F6.front 1 rfl;have aS:=aA.Ii ⟨x,hx.1,rfl⟩;refine AF ⟨_,HR aI,Jn (Sat.Df.1 aI) Y.inv Y.hk Y.JI Y.em (λz hz=>(Ds.1 hz).2) (λhn=> ?_) (λz _ hz=> ?_) λz _ _=>⟨_,_,_,_,_,aA,aT.inv,λcB aV=> ?_⟩⟩
   .obtain⟨y,_,_,hy,_⟩:=aA
    grind
   .obtain⟨y,_,_,_,bQ,_⟩:=aA
    grind
   .refine AU (Ca (λc=>absurd rfl c) λ_=>AP (λg=> ?_) λ_ j=>AO rfl ⟨_,?_,W2,U2,M2,T.Ii aS aT (aA.num (W:={J with L:=EY J.L x.id}) ⟨T.nm.ch,T.nm.rp⟩),rfl,aS.n.trans aN,((Sat.Df.2 aV).front 1 rfl).front 2 rfl⟩)
    .cases gone<;>cases g
    .rw[aA.YS]
     grind
end
def xI{α:Type}(A C j:α)(R T Z:List α):(A::(R++(T++C::j::Z))).Perm (R++(T++C::j::A::Z)):=by
 classical
 exact List.perm_iff_count.2 λa=>by grind
section
variable{E:Env}{cb cq b h s r b2 h2 s2 r2:Nat}{W W':SW}{U M U' M':Af}{C D:KS}{Z:List Pr}{w:World}
variable(hE:EnvC E)
include hE
theorem Yv(hT: ∀w',Sat Z w'->Em E.AG w')(H:Sat (Ak E cb b h s r W::Ar E cq b2 h2 s2 r2 W U M::Z) w)(hC:KF W U M C D)(hB:W.S.fx.n<=1000){N:Int}{K:Bool->World->Prop}
  (hK: ∀W' U' M' w',KF W' U' M' C D->W'.S.fx.n=W.S.fx.n->Sat (Ak E cb b h s r W'::Ar E cq b2 h2 s2 r2 W' U' M'::Z) w'->K true w'):F.EF E (some ⟨cb,0,none⟩) (some ⟨cq,0,none⟩) N K w:=by
 unfold F.EF T0.EF;obtain⟨em,H3⟩:=Sat.Rq.1 (Sat.Df.1 (H.front 1 rfl));obtain⟨g,hR,H4⟩:=Sat.Ie.1 H3;have bG:=hR.len hC.ok.inv.hI
 let Z2:List Pr:=IS E b2 h2 s2 r2 W em++Cells cq E.Bi [.pointer (some ⟨b2,0,none⟩)]::Ak E cb b h s r W::Z
 let Q:List Pr:=FD E h2 W.S (V5 U M) g++Z2
 have H4:Sat Q w:=H4;have aJ: ∀{w'},Sat Q w'->Sat Z2 w':=λO=>Sat.rest (Ps:=FD E h2 W.S (V5 U M) g) O;have p2: ∀{w'},Sat Q w'->w'.cell? (Addr.mk cq 0 none)=some (.pointer (some ⟨b2,0,none⟩)):=λO=>((aJ O).front 4 rfl).Aa rfl;have p3: ∀{w'},Sat Q w'->w'.cell? (Addr.mk b2 0 none)=some (.pointer (some ⟨h2,0,none⟩)):=λO=>((aJ O).front 1 rfl).Aa rfl;have p4: ∀{w'},Sat Q w'->w'.cell? ((Addr.mk h2 0 none).add 8259)=some (.slice g.sl.base g.sl.len g.sl.cap):=λO=>dM O;have back: ∀{A:Pr} {w'},Sat (A::Q) w'->Sat (A::Ak E cb b h s r W::Ar E cq b2 h2 s2 r2 W U M::Z) w':=λ{A w'} O=>by
  have h6:Sat (FD E h2 W.S (V5 U M) g++(IS E b2 h2 s2 r2 W em++Cells cq E.Bi [.pointer (some ⟨b2,0,none⟩)]::Ak E cb b h s r W::A::Z)) w':=O.perm (xI _ _ _ _ _ _);have h5:Sat (Ar E cq b2 h2 s2 r2 W U M::Ak E cb b h s r W::A::Z) w':=Sat.Df.2 (Sat.Rq.2 ⟨em,Sat.Ie.2 ⟨g,hR,h6⟩⟩);exact(h5.front 1 rfl).front 2 rfl
 have bE:=Nx (H4.front 4 rfl);have wl: ∀{sl:Ac} {v:List Int} {Y:List Pr} {w'},Sat (Row E.AD 1 sl (ints .u64 v)::Y) w'->v.length=sl.len:=λO=>by
  have h2:=O.EA;unfold ints at h2
  grind
 refine AJ (λst w'=> ∃(i:Nat) (v:List Int),st.2.1=(i:Int)/\i<=g.L.length/\v.length<=i*300/\(∀a∈v,0<=a/\a<18446744073709551616)/\Sat (Row E.AD 1 st.1 (ints .u64 v)::Q) w') (λst _=>((g.L.length:Int)-st.2.1).toNat) ⟨0,[],rfl,Nat.zero_le _,Nat.zero_le _,λa ha=>(by cases ha),H4.nil E.AD 1⟩ ?_;rintro⟨sl,i',u⟩ _ bM ⟨i,v,hi,bH,bC,has,T⟩;dsimp only at hi T⊢;subst hi;have Hq:=T.tail;refine AF ⟨_,p2 Hq,AF ⟨_,p3 Hq,AF ⟨g.sl,p4 Hq,AB (λaP=>AF ⟨_,p2 Hq,AF ⟨_,p3 Hq,AF ⟨g.sl,p4 Hq,?_⟩⟩⟩) λbF=> ?_⟩⟩⟩
 .obtain⟨x,hx⟩: ∃x,g.L[i]? =some x:=⟨_,List.getElem?_eq_getElem (by omega)⟩;obtain⟨bh,aH⟩:=(Hq.front 4 rfl).FY (by decide) Bz (i:=i) (by omega);have Ch:=(Hq.front 4 rfl).Bp Bz aH hx (j:=1) rfl
  try dsimp only
  rw[aH];refine AF ⟨⟨by omega,aP⟩,some ⟨x.2,0,none⟩,by rw[add_add];exact Ch,?_⟩;obtain⟨y,hy⟩: ∃y,W.S.sp x.1=some y:=Option.ne_none_iff_exists'.1 ((hR.mem x.1).1 (List.mem_map.2 ⟨x,List.mem_of_getElem? hx,rfl⟩));obtain⟨Au,hg⟩:=hC.ok.inv.sp x.1 y hy;have aQ:=Au.size;have aG:=Au.ba;have bK:=Au.pg;have op: ∀{w'},Sat Q w'-> ∃R',Sat (A4 E x.2 y.2 (U x.1) (M x.1)::R') w':=λO=>by
   obtain⟨y',R',aI,h6⟩:=kC (O.front 5 rfl) hR hx;rw[hy]at aI;cases aI;exact⟨R',h6⟩
  rw[AM (n:=(i:Int)+1)];refine AJ (λst w'=> ∃(k:Nat) (v:List Int),st.2.1=(k:Int)/\k<=300/\(k:Int)<=y.2.AK/\v.length<=i*300+k/\(∀a∈v,0<=a/\a<18446744073709551616)/\Sat (Row E.AD 1 st.1 (ints .u64 v)::Q) w') (λst _=>(y.2.AK-st.2.1).toNat) ⟨0,v,rfl,by decide,by omega,by omega,has,T⟩ ?_;rintro⟨sk,k',u'⟩ _ aK ⟨k,ak,hk,bI,bJ,aZ,aC,J⟩;dsimp only at hk J⊢;subst hk;have Hk:=J.tail;obtain⟨R',H6⟩:=op Hk;have done: ∀{w'},Sat (Row E.AD 1 sk (ints .u64 ak)::Q) w'->(∃(aD:Nat) (v:List Int),(i:Int)+1=(aD:Int)/\aD<=g.L.length/\v.length<=aD*300/\(∀a∈v,0<=a/\a<18446744073709551616)/\Sat (Row E.AD 1 sk (ints .u64 v)::Q) w')/\((g.L.length:Int)-((i:Int)+1)).toNat<((g.L.length:Int)-(i:Int)).toNat:=
   λO=>⟨⟨i+1,ak,by omega,by omega,by omega,aC,O⟩,by omega⟩
  refine AF ⟨y.2.AK,by obtain⟨_,_,_,_,_,_,h7⟩:=Sat.Hb.1 H6;exact h7.cell rfl,AB (λhs=>AB (λaV=> ?_) λ_=>done J) λ_=>done J⟩;rw[AM (n:=(k:Int)+1)];have skip:=show(∃(aA:Nat) (v:List Int),(k:Int)+1=(aA:Int)/\aA<=300/\(aA:Int)<=y.2.AK/\v.length<=i*300+aA/\(∀a∈v,0<=a/\a<18446744073709551616)/\Sat (Row E.AD 1 sk (ints .u64 v)::Q) aK)/\(y.2.AK-((k:Int)+1)).toNat<(y.2.AK-(k:Int)).toNat from⟨⟨k+1,ak,by omega,by omega,by omega,by omega,aC,J⟩,by omega⟩
  refine AU (O7 H6 (AP (λhu=>AB (λh7=>⟨by omega,λj=>AP (λhm=> ?_) λ_=>skip⟩) λ_ j=>AO rfl skip) λ_ j=>AO rfl skip));have h1:0<=(k:Int)*y.2.elem:=Int.mul_nonneg (by omega) (by omega);have h2:((k:Int)+1)*y.2.elem<=y.2.AK*y.2.elem:=Int.mul_le_mul_of_nonneg_right (by omega) (by omega);have h3:((k:Int)+1)*y.2.elem=k*y.2.elem+y.2.elem:=by grind
  have h4:=aQ.2.2.2.2;rw[Int.mul_comm y.2.elem]at h4;refine cL H6 ⟨aG.1,aG.2.1⟩ hs ⟨by omega,by omega⟩ (by omega) ?_;have bL:=wl J;refine AQ (vs:=[.int .u64 (y.2.base+k*y.2.elem)]) J.drew λaU a4 aF _=> ?_;refine GD (news:=[.int .u64 (y.2.base+k*y.2.elem)]) aF rfl rfl (by simp[Value.oneCell']) (by omega) (by omega) λuK a5 aT _=>⟨⟨k+1,ak++[y.2.base+k*y.2.elem],by omega,by omega,by omega,by grind,λa ha=> ?_,?_⟩,by omega⟩
  .grind
  .have e:ints .u64 ak++[.int .u64 (y.2.base+k*y.2.elem)]=ints .u64 (ak++[y.2.base+k*y.2.elem]):=by unfold ints;grind
   grind
 .have hb:=sw20 (C:=C) (D:=D) (K:=K) hE hT (back T) hC (by omega) has hK;exact hb
end
section
variable{W W' W0:SW}{U M U' M':Af}{C C' D:KS}
def L8.JI{p k id e:Int}{np:Bool}(h:L8 p k np W U M id e W' U' M')(hI:De W U M)(j:De W' U' M')(hf:ZB W.S):W'.S.fx.n<=W.S.fx.n+1:=by
 have h0:=h.Ii (l:=[]) (B:=W.S.fx.n) ⟨Nat.le_refl _,hI,hf,.nil,λi v=>(by cases v)⟩ j;by_cases he:e=0
 .rw[if_pos he]at h0;exact h0.n
 .rw[if_neg he]at h0;exact h0.n
def TO.JI{p k id e:Int}{np:Bool}(h:TO p k np W U M id e W' U' M')(hf:ZB W.S):W'.S.fx.n<=W.S.fx.n+1:=by
 cases h with
 | iD hr _=>exact Nat.le_trans (Nat.le_of_eq hr.Ii.n) (Nat.le_succ _)
 | get hr Au hn hg hok2=>exact Nat.le_trans (hg.JI Au hok2 (hr.Ii.f hf)) (Nat.le_of_eq (by rw[hr.Ii.n]))
def Ku.fxn{id a:Int}{ok:Bool}(h:Ku W U M id a ok W' U'):W'.S.fx.n=W.S.fx.n:=by cases h<;>rfl
def Ki.JI{k a e:Int}{np:Bool}(h:Ki C k np W U M a e C' W' U' M')(hf:ZB W.S):W'.S.fx.n<=W.S.fx.n+1:=by
 cases h with
 | bad _=>omega
 | dB _ hs=>exact Nat.le_trans (Nat.le_of_eq hs.fxn) (Nat.le_succ _)
 | @no W0 _ _ _ _ _ _ _ hl _ _ hF _=>
  have j:(W0.Rr k).S=W.S:=(Sc hl).1;have:=hF.JI (by grind)
  grind
 | @new W0 _ _ _ _ _ _ _ _ _ _ hl _ _ hF _ hs=>
  have j:(W0.Rr k).S=W.S:=(Sc hl).1;have:=hF.JI (by grind);rw[j]at this;rw[hs.fxn];exact this
def OF.JI{n a e:Int}{ok:Bool}(h:OF C n W U M a ok e C' W' U' M')(hf:ZB W.S):W'.S.fx.n<=W.S.fx.n+1:=by
 cases h with
 | bad _=>omega
 | piece _ _ _ _=>omega
 | no _ _ _ hA _=>exact hA.JI hf
 | new _ _ _ hA=>exact hA.JI hf
def tQ.S{i:Nat}(h:tQ U M i C W C' W'):W'.S=W.S:=by
 induction h with
 | stop=>rfl
 | step _ h1 _ h2 _ _ ih=>exact ih.trans ((Sc h2).1.trans (Sc h1).1)
def KF.pace{n:Int}(h:KF W U M C D):KF {W with K6:=n,BG:=0,Dg:=0} U M C D:=
 ⟨⟨⟨h.ok.inv.hI,h.ok.inv.sp,h.ok.inv.it⟩,h.ok.hk,h.ok.se,h.ok.em⟩,⟨⟨Int.le_refl 0,by grind⟩,Int.le_refl 0,by grind⟩,h.f,h.c.Ii λ_ g=>g,h.d.Ii λ_ g=>g,h.x⟩
end
def xJ{α:Type}(A B C D F G:α)(Z:List α):(A::B::C::D::F::G::Z).Perm (C::A::F::G::D::B::Z):=by
 classical
 exact List.perm_iff_count.2 λa=>by grind
abbrev XP(E:Env)(cb cq b h s r b2 h2 s2 r2:Nat)(c q d e:Nat)(C D:KS)(W:SW)(U M:Af)(Z:List Pr):List Pr:=
 BB E c cb C::BP E q cq C::BB E d cb D::BP E e cq D::Ak E cb b h s r W::Ar E cq b2 h2 s2 r2 W U M::Z
section
variable{E:Env}{cb cq b h s r b2 h2 s2 r2 c q d e:Nat}{C D C':KS}{W W':SW}{U M U' M':Af}{Z:List Pr}{w:World}
def Ro(H:Sat (XP E cb cq b h s r b2 h2 s2 r2 c q d e C D W U M Z) w):Sat (XP E cb cq b h s r b2 h2 s2 r2 d e c q D C W U M Z) w:=((H.front 2 rfl).front 3 rfl).front 1 rfl
def tE(n:Bool){c0 q0 c1 q1:Nat}{y J:KS}(hI:KF W U M y J): ∃(c q d e:Nat) (C D:KS),KF W U M C D/\c=(if n=true then c1 else c0)/\q=(if n=true then q1 else q0)/\
  (∀w',Sat (XP E cb cq b h s r b2 h2 s2 r2 c0 q0 c1 q1 y J W U M Z) w'->Sat (XP E cb cq b h s r b2 h2 s2 r2 c q d e C D W U M Z) w')/\
  (∀W' U' M' C' K w',KF W' U' M' C' K->Sat (XP E cb cq b h s r b2 h2 s2 r2 c q d e C' K W' U' M' Z) w'-> ∃j v,KF W' U' M' j v/\Sat (XP E cb cq b h s r b2 h2 s2 r2 c0 q0 c1 q1 j v W' U' M' Z) w'):=by
 cases n with
 | false=>exact⟨c0,q0,c1,q1,y,J,hI,rfl,rfl,λ_ h=>h,λ_ _ _ _ _ _ h1 h2=>⟨_,_,h1,h2⟩⟩
 | true=>exact⟨c1,q1,c0,q0,J,y,hI.swap,rfl,rfl,λ_ h=>Ro h,λ_ _ _ _ _ _ h1 h2=>⟨_,_,h1.swap,Ro h2⟩⟩
def kM(H:Sat (XP E cb cq b h s r b2 h2 s2 r2 c q d e C D W U M Z) w):Sat (BB E c cb C::Ak E cb b h s r W::BP E q cq C::BB E d cb D::BP E e cq D::Ar E cq b2 h2 s2 r2 W U M::Z) w:=(H.front 4 rfl).front 1 rfl
def kN(H:Sat (BB E c cb C'::Ak E cb b h s r W'::BP E q cq C::BB E d cb D::BP E e cq D::Ar E cq b2 h2 s2 r2 W U M::Z) w):Sat (BP E q cq C::Ar E cq b2 h2 s2 r2 W U M::BB E c cb C'::Ak E cb b h s r W'::BB E d cb D::BP E e cq D::Z) w:=(H.front 5 rfl).front 3 rfl
def kO(H:Sat (BP E q cq C::Ar E cq b2 h2 s2 r2 W U M::BB E c cb C::Ak E cb b h s r W::BB E d cb D::BP E e cq D::Z) w):Sat (XP E cb cq b h s r b2 h2 s2 r2 c q d e C D W U M Z) w:=H.perm (xJ _ _ _ _ _ _ _)
def cZ(H:Sat (XP E cb cq b h s r b2 h2 s2 r2 c q d e C D W U M Z) w):Sat (Ak E cb b h s r W::Ar E cq b2 h2 s2 r2 W U M::BB E c cb C::BP E q cq C::BB E d cb D::BP E e cq D::Z) w:=(H.front 5 rfl).front 5 rfl
def Vx(H:Sat (Ak E cb b h s r W::Ar E cq b2 h2 s2 r2 W U M::BB E c cb C::BP E q cq C::BB E d cb D::BP E e cq D::Z) w):Sat (XP E cb cq b h s r b2 h2 s2 r2 c q d e C D W U M Z) w:=(((H.front 5 rfl).front 5 rfl).front 5 rfl).front 5 rfl
end
section
variable{W W':SW}{U M U' M':Af}{C C' D:KS}
def ER.nil{k id e:Int}{np full ok:Bool}(h:ER k np full W U M id ok e W' U' M')(j:W.L=[]):id=0/\ok=false/\e=0/\W'=W/\U'=U/\M'=M:=by
 have no: ∀{kd x r},¬Ej W.L kd=x::r:=λ{kd x r} g=>by rw[j]at g;cases g
 cases h with
 | none _=>exact⟨rfl,rfl,rfl,rfl,rfl,rfl⟩
 | Kg g=>exact absurd g no
 | LN g=>exact absurd g no
 | go g=>exact absurd g no
def L8.nil{p k id e b:Int}{np:Bool}(h:L8 p k np W U M id e W' U' M')(j:W.L=[])(hk:0<k/\k<68)(J:EV W.S b)(T:b+IF (AX k).2.1<=34359738368):
  e=0/\ ∃page S2 O X,Found W.S p (AX k).2.1 page S2/\Next S2 id X/\W.S.sp id=none/\W'={W with S:=S2.Cr id (O,Gx page (AX k).2.1 k np) page (AX k).2.1 X}/\U'=U.set id GA:=by
 have hp:=L7 (c:=k) (by omega) hk.2;cases h with
 | bad g=>exact absurd ⟨by omega,hk.2⟩ g
 | EO _ _ g=>rw[j]at g;cases g
 | part _ _ _ hc K=>
  obtain⟨_,v,y,_⟩:=hc.nil j;rcases K with g|g
  .rw[v]at g;cases g
  .exact absurd y g
 | full _ _ _ h1 _ hc K=>
  obtain⟨_,_,_,rfl,rfl,rfl⟩:=h1.nil j;obtain⟨_,v,y,_⟩:=hc.nil j;rcases K with g|g
  .rw[v]at g;cases g
  .exact absurd y g
 | lost _ _ _ h1 _ h2 _ hl=>
  obtain⟨_,_,_,rfl,rfl,rfl⟩:=h1.nil j;obtain⟨_,_,_,rfl,rfl,rfl⟩:=h2.nil j;exact(J.lost (by omega) T hl).elim
 | new _ _ _ h1 _ h2 _ hf hX hn=>
  obtain⟨_,_,_,rfl,rfl,rfl⟩:=h1.nil j;obtain⟨_,_,_,rfl,rfl,rfl⟩:=h2.nil j;exact⟨rfl,_,_,_,_,hf,hX,hn,rfl,rfl⟩
def OI.nil{e:Int}(h:OI W U M e W' U' M')(j:W.K6=0)(hp:0<=W.Dg):e=0/\W'=W/\U'=U/\M'=M:=by
 have hd: ¬0<W.WL:=by
  unfold SW.WL;rw[j,fU];split<;>omega
 cases h with
 | done _=>exact⟨rfl,rfl,rfl,rfl⟩
 | empty g _=>exact absurd g hd
 | Kg g=>exact absurd g hd
 | go g=>exact absurd g hd
def Ki.bare{k a e b:Int}{np:Bool}(h:Ki C k np W U M a e C' W' U' M')(hI:BO W U M)(hk:0<k/\k<68)(h0:C.held k np=0)(hL:W.L=[])(hr:W.K6=0)(hp:0<=W.Dg)(Y:EV W.S b)(hb:b+IF (AX k).2.1<=34359738368):
  e=0/\ ∃page S2 K id X uw,Found W.S C.p (AX k).2.1 page S2/\Next S2 id X/\W.S.sp id=none/\a=page*8192/\C'=C.hold k np id/\
   W'=SW.take {W.Rr k with S:=S2.Cr id (K,Gx page (AX k).2.1 k np) page (AX k).2.1 X} id (K,Gx page (AX k).2.1 k np) uw 0/\U'=(U.set id GA).take id 0:=by
 have aH:=L7 (c:=k) (by omega) hk.2;have l0: ∀{W0},Pd W C k np W0->W0=W:=λT=>by
  rcases T with ⟨_,e⟩|⟨g,_⟩
  .exact e
  .omega
 cases h with
 | bad g=>exact absurd hk g
 | dB _ hs=>
  cases hs with
  | take y _ _ _=>rw[h0,kK hI]at y;cases y
 | no _ _ T _ _ hf he=>
  obtain rfl:=l0 T;cases hf with
  | iD hre g=>exact absurd (hre.nil hr hp).1 g
  | get hre _ _ hg _=>
   obtain⟨_,rfl,rfl,rfl⟩:=hre.nil hr hp;exact absurd (hg.nil hL hk Y hb).1 he
 | @new W0 id _ _ _ _ _ _ _ _ _ T _ _ hf _ hs2=>
  obtain rfl:=l0 T;cases hf with
  | iD _ g=>exact absurd rfl g
  | get hre _ _ hg _=>
   obtain⟨_,rfl,rfl,rfl⟩:=hre.nil hr hp;obtain⟨_,page,S2,K,X,hF,hX,hn,rfl,rfl⟩:=hg.nil hL hk Y hb;refine⟨rfl,page,S2,K,id,X,?_⟩;have J: ∀v,(S2.Cr v (K,Gx page (AX k).2.1 k np) page (AX k).2.1 X).sp v=some (K,Gx page (AX k).2.1 k np):=λ_=>if_pos rfl;have aC:(0:Int)<(Gx page (AX k).2.1 k np).AK:=by
    show(0:Int)<if k=0 then(1:Int)else(AX k).2.2.1
    rw[if_neg (by omega)];omega
   have O: ∀(V:Af) (v:Int) j,(V.set v GA) v j=false:=λV v j=>by rw[Af.Np];rfl
   cases hs2 with
   | none g=>exact absurd ((J _).symm.trans g) (λc=>by cases c)
   | full y ha=>
    have y:=(J _).symm.trans y;cases y;have:=ha 0 aC;rw[O]at this;cases this
   | @take x uw n y _ _ hlow=>
    have y:=(J _).symm.trans y;cases y;have aA:n=0:=by
     rcases Nat.eq_zero_or_pos n with h|h
     .exact h
     .have:=hlow 0 h;rw[O]at this;cases this
    subst aA;exact⟨uw,hF,hX,hn,by show page*8192+((0:Nat):Int)*_=_;omega,rfl,rfl,rfl⟩
end
section
variable{E:Env}{w:World}{Z:List Pr}{c cb b h s r:Nat}{C:KS}{W:SW}{U M:Af}
variable(hE:Vs E)
include hE
theorem dA(hT: ∀w',Sat Z w'->Em E.AG w')(H:Sat Z w){K:Bool->World->Prop}(hK: ∀w',Sat Z w'->K true w'):F.EG E K w:=by
 unfold F.EG T0.EG;refine cR (E:=E) H λcb b h s r w2 H2=>AO rfl (QU (p:=0) H2 λc w4 H4=>AO rfl ?_)
 let D:KS:=⟨1,λ_=>0,0,0⟩
 have hh: ∀p k np,KS.held ⟨p,λ_=>0,0,0⟩ k np=0:=λp k np=>by unfold KS.held;split<;>rfl
 have j:KF (SW.new (HS.new (MF [] [] []))) (λ_=>GA) (λ_=>GA) ⟨0,λ_=>0,0,0⟩ D:=by
  have hk: ∀p,Yr (SW.new (HS.new (MF [] [] []))) ⟨p,λ_=>0,0,0⟩:=λp=>⟨⟨rfl,rfl⟩,⟨⟨Int.le_refl 0,by show(0:Int)<=16;decide⟩,Int.le_refl 0,by show(0:Int)<_;decide⟩,λk np h=>absurd (hh p k np) h,λk np _ _ h=>absurd (hh p k np) h⟩;exact⟨(H4.front 1 rfl:Sat (Ak E cb b h s r _::_) w4).El.Te (BO.new _ _ _) (Nat.zero_le _),⟨⟨Int.le_refl 0,by show(0:Int)<_;decide⟩,Int.le_refl 0,by show(0:Int)<_;decide⟩,λid x hx=>(by cases hx),hk 0,hk 1,λk np _ _ h=>absurd (hh 0 k np) h⟩
 refine LG hE hT H4 j.ok j.nm (λ_ _=>j.c.PB j.ok.inv 5 false) λa1 e1 C1 J U1 M1 aP v w7 H7=> ?_;have k5:(0:Int)<5/\(5:Int)<68:=by decide
 have k2:(0:Int)<2/\(2:Int)<68:=by decide
 have c2:(AX 2).2.1=1:=by decide+kernel
 have I1:=(j.alloc aP v).1;obtain⟨rfl,page,S2,bl,id,X,uw,hF,hX,bK,rfl,rfl,rfl,rfl⟩:=aP.bare j.ok.inv k5 (hh 0 5 false) rfl rfl (Int.le_refl 0) (EV.new []) (by rw[jX];decide);rw[jX]at hF;obtain⟨rfl,_,bH,_⟩:=YP j.ok.hk (by decide) (by decide) hF;obtain⟨rfl,rfl⟩:=hX.top (n:=0) (by rw[hF.same.fx];rfl);have T7:(((0:Nat):Int)+1)=1:=rfl;rw[T7]at H7 I1 v;generalize hC1:KS.hold ⟨0,λ_=>0,0,0⟩ 5 false 1=C1 at H7 I1;have O:C1.held 5 false=1:=by rw[<-hC1];exact NH _ k5.1 k5.2 1
 have aR:C1.held 2 true=0:=by rw[<-hC1,F7 k5];exact hh 0 2 true
 have aB:C1.Ho=0:=by rw[<-hC1];rfl
 generalize hW1:SW.take _ _ _ _ _=J at H7 I1 v;generalize T:Af.take _ _ _=U1 at I1 v;have aG:J.S.sp 1=some (bl,{Gx 512 (AX 5).2.1 5 false with uw:=uw,used:=(Gx 512 (AX 5).2.1 5 false).used+1,look:=((0:Nat):Int)+1}):=by rw[<-hW1];exact HS.IQ
 have aE:J.L=[]/\J.K6=0/\J.Dg=0:=by rw[<-hW1];exact⟨rfl,rfl,rfl⟩
 have aU:EV J.S 1024:=by
  rw[<-hW1];exact((bH.Cr 1 (bl,Gx 512 (AX 5).2.1 5 false) 512 (AX 5).2.1 ⟨0+1,[]⟩).M9 rfl rfl)
 have T: ∀i,U1 1 i=(i==0):=λi=>by
  rw[<-T];unfold Af.take;rw[Af.Np,Af.Np];show(false||i==0)=_;rw[Bool.false_or]
 refine LG hE hT H7 I1.ok I1.nm (λ_ _=>I1.c.PB I1.ok.inv 5 false) λa2 e2 C2 W2 U2 M2 aQ aV b9 a5=> ?_;have I2:=(I1.alloc aQ aV).1;have Y: ∀{a W' U'},¬Ku J U1 M1 (C1.held 5 false) a false W' U':=λ{a W' U'} g=>by
  rw[O]at g;cases g with
  | none g=>rw[aG]at g;cases g
  | full hx ha=>
   rw[aG]at hx;cases hx;have:=ha 1 (by show(1:Int)<if(5:Int)=0 then 1 else(AX 5).2.2.1;rw[jX];decide);rw[T]at this;cases this
 obtain⟨y,rfl,rfl,rfl,rfl,rfl⟩: ∃y,a2=4194352/\e2=0/\C2=C1/\W2=J.take 1 (bl,{Gx 512 (AX 5).2.1 5 false with uw:=uw,used:=(Gx 512 (AX 5).2.1 5 false).used+1,look:=((0:Nat):Int)+1}) y 1/\M2=M1:=by
  cases aQ with
  | bad g=>exact absurd k5 g
  | no _ hs=>exact absurd hs Y
  | new _ hs=>exact absurd hs Y
  | dB _ hs=>
   rw[O]at hs;cases hs with
   | @take x y n hx _ hun hlow=>
    rw[aG]at hx;cases hx;have bJ:n=1:=by
     rcases Nat.lt_trichotomy n 1 with h|h|h
     .have:n=0:=by omega
      subst this;rw[T]at hun;cases hun
     .exact h
     .have:=hlow 1 h;rw[T]at this;cases this
    subst bJ;refine⟨y,?_,rfl,rfl,rfl,rfl⟩;show(512*8192:Int)+((1:Nat):Int)*(if(5:Int)=0 then(AX 5).2.1*8192 else(AX 5).1)=4194352;rw[jX];decide
 refine N3 hE hT (n:=3) a5 I2 λa3 V3 e3 C3 W3 U3 M3 bE I3 cA a6=> ?_;obtain⟨ha,rfl,rfl,aH,aI,bG⟩:(4194304<=a3/\a3<281474976710656)/\V3=true/\e3=0/\C3.Ho=a3/\C3.CZ=3/\C3.held 5 false=1:=by
  have nn: ∀{a e C' W' U' M'},Ki C2 2 true (J.take 1 (bl,{Gx 512 (AX 5).2.1 5 false with uw:=uw,used:=(Gx 512 (AX 5).2.1 5 false).used+1,look:=((0:Nat):Int)+1}) y 1) U2 M2 a e C' W' U' M'->De W' U' M'->e=0/\(4194304<=a/\a<281474976710656)/\C'.Ho=0/\C'.held 5 false=1:=λ{a e C' W' U' M'} hA Au=>by
   have hb:=(I2.alloc hA Au).2;have aC:EV (J.take 1 (bl,{Gx 512 (AX 5).2.1 5 false with uw:=uw,used:=(Gx 512 (AX 5).2.1 5 false).used+1,look:=((0:Nat):Int)+1}) y 1).S 1024:=aU.M9 rfl rfl;obtain⟨he,page,S2,aO,aW,X2,bL,aS,b4,b6,b7,bB,aF,b1⟩:=hA.bare I2.ok.inv k2 aR aE.1 aE.2.1 (by show 0<=J.Dg;rw[aE.2.2];decide) aC (by rw[c2];decide);rw[c2]at aS aF;obtain⟨b',b5,bD⟩:=aS.laid aC I2.ok.hk (by decide) (by decide);have bI:4194304<=a:=by
    have h1:EV W'.S b':=by rw[aF];exact(bD.Cr aW (aO,Gx page 1 2 true) page 1 X2).M9 rfl rfl
    have h2:W'.S.sp aW=some (aO,{Gx page 1 2 true with uw:=bL,used:=(Gx page 1 2 true).used+1,look:=((0:Nat):Int)+1}):=by rw[aF];exact HS.IQ
    have h3:4194304<=page*8192:=xG Au.inv h1 h2;omega
   refine⟨he,⟨bI,hb.2.1⟩,?_,?_⟩
   .rw[hb.2.2.1,aB]
   .rw[bB,F7 k2,if_neg (by decide),O]
  cases bE with
  | bad g=>exact absurd (by decide) g
  | piece _ _ g=>exact absurd aB g
  | no _ _ _ hA he=>exact absurd (nn hA I3.ok).1 he
  | @new _ C3' _ _ _ _ _ _ hA=>
   obtain⟨_,h1,h2,h3⟩:=nn hA I3.ok;have e:C3'.Px a3 3={C3' with Ho:=a3,CZ:=3}:=by
    unfold KS.Px;rw[if_pos (.inl h2)]
   rw[e];exact⟨h1,rfl,rfl,rfl,rfl,h3⟩
 refine N3 hE hT (n:=4) a6 I3 λa4 b8 e4 C4 W4 U4 M4 bF I4 cB a7=> ?_;have aD:I5 3 4=4:=by decide
 cases bF with
 | bad g=>exact absurd (by decide) g
 | no _ _ g=>rw[aH,aI,aD]at g;omega
 | new _ _ g=>rw[aH,aI,aD]at g;omega
 | piece _ _ _ _=>
  rw[aH,aI,aD,AI (n:=a3+4)];refine AS rfl (AS rfl (AS rfl (AS rfl (AS rfl (AS rfl (AS (by simp) (AS rfl (AS rfl ?_))))))));refine KB a7 λbM a8=> ?_;rw[show KS.held {C3 with CZ:=I5 C3.CZ 4+4} 5 false=1 from bG];exact hK bM a8.tail.tail
end
abbrev PD:AT:=.cons (.int .i64) (.cons (.int .i64) (.cons (.int .i64) (.cons .bool (.cons .bool (.cons (.int .u64) .nil)))))
def CE20(w:World)(x:Addr)(j:Nat)(v:Vz PD):Prop:=w.cell? (x.add (j*6))=some (.int .i64 v.1)/\w.cell? ((x.add (j*6)).add 1)=some (.int .i64 v.2.1)/\w.cell? ((x.add (j*6)).add 2)=some (.int .i64 v.2.2.1)/\
 w.cell? ((x.add (j*6)).add 3)=some (.bool v.2.2.2.1)/\w.cell? ((x.add (j*6)).add 4)=some (.bool v.2.2.2.2.1)/\w.cell? ((x.add (j*6)).add 5)=some (.int .u64 v.2.2.2.2.2.1)
def tF{w:World}{s:Ac}{z:Nat->Vz PD}(h:PY w PD s z){j:Nat}(y:j<s.len): ∃x,s.base=some x/\CE20 w x j (z j):=by
 obtain⟨x,J,v,Au⟩:=h.2.2 j y;have hs:AT.size PD=6:=rfl;rw[hs]at v;refine⟨x,J,?_,?_,?_,?_,?_,?_⟩
 .have:=v 0 _ rfl;exact this
 all_goals rw[add_add]
 .exact v 1 _ rfl
 .exact v 2 _ rfl
 .exact v 3 _ rfl
 .exact v 4 _ rfl
 .exact v 5 _ rfl
def Qq.yL{w w':World}{s:Ac}{z:Nat->Vz PD}(h:PY w PD s z)(he:Ext AR w w'):PY w' PD s z:=
 ⟨h.1,h.2.1,λj J=>by
  obtain⟨x,h1,h2,y⟩:=h.2.2 j J;exact⟨x,h1,λi v K=>he.cell (h2 i v K) λf=>f,y⟩⟩
def Pe(E:Env)(j v c0 q0 c1 q1:Nat)(w0:World):List Pr:=[Cells j E.GX [.pointer (some ⟨c0,0,none⟩),.pointer (some ⟨c1,0,none⟩)],Cells v E.Io [.pointer (some ⟨q0,0,none⟩),.pointer (some ⟨q1,0,none⟩)],Old w0]
def z29{E:Env}{j v c0 q0 c1 q1:Nat}{w0 w:World}(H:Sat (Pe E j v c0 q0 c1 q1 w0) w)(n:Bool):w.cell? ((Addr.mk j 0 none).add (Int.toNat (if n=true then 1 else 0)*1))=some (.pointer (some ⟨if n=true then c1 else c0,0,none⟩)):=by
 cases n
 .exact H.cell rfl
 .exact H.cell rfl
def z35{E:Env}{v j c0 q0 c1 q1:Nat}{w0 w:World}(H:Sat (Pe E v j c0 q0 c1 q1 w0) w)(n:Bool):w.cell? ((Addr.mk j 0 none).add (Int.toNat (if n=true then 1 else 0)*1))=some (.pointer (some ⟨if n=true then q1 else q0,0,none⟩)):=by
 cases n
 .exact(H.front 1 rfl).cell rfl
 .exact(H.front 1 rfl).cell rfl
section
variable{E:Env}{w:World}(hE:Vs E)
include hE
theorem Vy{Y aA aB a1:Ac}{z0:Nat->Int}{z1:Nat->Bool}{z2:Nat->Int}{z:Nat->Vz PD}(hT:Em E.AG w)(h0:PY w (.int .u64) Y z0)(h1:PY w .bool aA z1)(h2:PY w (.int .u64) aB z2)(hA:PY w PD a1 z)
  {K:Bool->World->Prop}(hK: ∀w',Ext AR w w'->K true w'):F.BN E Y aA aB a1 K w:=by
 unfold F.BN T0.BN;refine AQ (vs:=[GJ Y,GJ aA,GJ aB]) (Sat.start w) λb1 w2 H2 _=> ?_;refine IT (λst w'=>w'=w2/\(st.1=false->a1.len<=200/\Y.len<=50/\aA.len<=100/\aB.len<=2000)) ?_ ?_
 .have t:w2=w2/\(true=false->a1.len<=200/\Y.len<=50/\aA.len<=100/\aB.len<=2000):=⟨rfl,λc=>by cases c⟩;refine AB (λ_=>t) λg0=>⟨Y,H2.Aa rfl,AB (λ_=>t) λg1=>⟨aA,H2.cell rfl,AB (λ_=>t) λg2=>⟨aB,H2.cell rfl,rfl,λe=> ?_⟩⟩⟩
  grind
 rintro⟨g,u⟩ _ _ ⟨rfl,hr⟩;refine AP (λ_=>hK _ (H2.PG 1 rfl)) λer=>⟨Y,H2.cell rfl,aA,H2.cell rfl,aB,H2.cell rfl,?_⟩;obtain⟨l3,l0,l1,l2⟩:=hr er;have r0: ∀w',Ext AR w w'->rowAt w' Y.base Y.len (ints .u64 (MC Y.len z0)):=λw' h=>Ud (Qq.oldI h0 h);have r1: ∀w',Ext AR w w'->rowAt w' aA.base aA.len (BA (MC aA.len z1)):=λw' h=>Yh (Qq.oldB16 h1 h);have r2: ∀w',Ext AR w w'->rowAt w' aB.base aB.len (ints .u64 (MC aB.len z2)):=λw' h=>Ud (Qq.oldI h2 h);have cR:=uB h0;refine Rj H2 cR (λw' h=>r0 w' (h.PG 1 rfl)) (JO _ _) (by omega) (λw' h=>r1 w' (h.PG 1 rfl)) (JO _ _) (by omega) (λw' h=>r2 w' (h.PG 1 rfl)) (JO _ _) (by omega) λcb b h s r eE aN=>AO rfl ?_;refine⟨Y,(aN.front 1 rfl).cell rfl,aA,(aN.front 1 rfl).cell rfl,aB,(aN.front 1 rfl).cell rfl,?_⟩;refine nQ aN cR (λw' h=>r0 w' (h.PG 2 rfl)) (JO _ _) (by omega) (λw' h=>r1 w' (h.PG 2 rfl)) (JO _ _) (by omega) (λw' h=>r2 w' (h.PG 2 rfl)) (JO _ _) (by omega) λm eF b9=> ?_;refine gZ (um:=V5 (λ_=>GA) (λ_=>GA)) b9 λh2 eG cA=>iF cA λb2 s2 r2 eH cB=> ?_;refine AQ (vs:=[.pointer (some ⟨b2,0,none⟩)]) cB λcq eI cC _=> ?_;have cD:=(Sat.Df.2 (cC.front 1 rfl));refine QU (p:=0) cD λc0 eJ cE=>QU (p:=1) cE λc1 eK cF=> ?_;refine AQ (vs:=[.pointer (some ⟨c0,0,none⟩),.pointer (some ⟨c1,0,none⟩)]) cF λJ eL cG _=> ?_;refine AQ (vs:=Cg cq ⟨0,λ_=>0,0,0⟩) cG λq0 eM cH _=>AQ (vs:=Cg cq ⟨1,λ_=>0,0,0⟩) cH λq1 eN cI _=> ?_;refine AQ (vs:=[.pointer (some ⟨q0,0,none⟩),.pointer (some ⟨q1,0,none⟩)]) cI λO bR cJ _=> ?_;have bP: ∀w',Sat (Pe E J O c0 q0 c1 q1 w) w'->Em E.AG w':=λw' h=>hT.ext (h.PG 2 rfl);have aX:Sat (XP E cb cq b h s r b2 h2 s2 r2 c0 q0 c1 q1 ⟨0,λ_=>0,0,0⟩ ⟨1,λ_=>0,0,0⟩ (SW.new (HS.new (MF (MC Y.len z0) (MC aA.len z1) (MC aB.len z2)))) (λ_=>GA) (λ_=>GA) (Pe E J O c0 q0 c1 q1 w)) bR:=(((((((cJ.front 8 rfl).tail.front 3 rfl).front 6 rfl).front 7 rfl).front 4 rfl).front 6 rfl).front 6 rfl).front 7 rfl;have bA:KF (SW.new (HS.new (MF (MC Y.len z0) (MC aA.len z1) (MC aB.len z2)))) (λ_=>GA) (λ_=>GA) ⟨0,λ_=>0,0,0⟩ ⟨1,λ_=>0,0,0⟩:=by
  have hk: ∀p,Yr (SW.new (HS.new (MF (MC Y.len z0) (MC aA.len z1) (MC aB.len z2)))) ⟨p,λ_=>0,0,0⟩:=λp=>by
   have hh: ∀k np,KS.held ⟨p,λ_=>0,0,0⟩ k np=0:=λk np=>by unfold KS.held;grind
   exact⟨⟨rfl,rfl⟩,⟨⟨Int.le_refl 0,by grind⟩,Int.le_refl 0,by grind⟩,λk np h=>absurd (hh k np) h,λk np _ _ h=>absurd (hh k np) h⟩
  exact⟨(aX.front 4 rfl:Sat (Ak E cb b h s r _::_) bR).El.Te (BO.new _ _ _) (Nat.zero_le _),⟨⟨Int.le_refl 0,by show(0:Int)<_;decide⟩,Int.le_refl 0,by show(0:Int)<_;decide⟩,λid x hx=>(by cases hx),hk 0,hk 1,λk np _ _ h=>absurd (by unfold KS.held;grind) h⟩
 clear cI cH cG cF cE cD cC cB cA b9 aN cJ H2;refine IT (λst w'=>st.1=false/\w'=bR) ?_ ?_
 .refine⟨by decide,_,z29 (n:=false) (aX.rest (Ps:=[_,_,_,_,_,_])),AO rfl ⟨by decide,_,z29 (n:=true) (aX.rest (Ps:=[_,_,_,_,_,_])),rfl,rfl⟩⟩
 rintro⟨g,u⟩ _ _ ⟨hg,rfl⟩;dsimp only at hg⊢;subst hg;refine AO rfl ?_;refine AJ (λst w'=> ∃(i:Nat) (W:SW) (U M:Af) (C0 C1:KS),st.1=(i:Int)/\i<=a1.len/\KF W U M C0 C1/\W.S.fx.n<=i/\Sat (XP E cb cq b h s r b2 h2 s2 r2 c0 q0 c1 q1 C0 C1 W U M (Pe E J O c0 q0 c1 q1 w)) w') (λst _=>((a1.len:Int)-st.1).toNat)
  ⟨0,_,_,_,_,_,rfl,Nat.zero_le _,bA,Nat.le_refl _,aX⟩ ?_
 clear bA aX;rintro⟨i',u⟩ _ c4 ⟨i,W,U,M,C0,C1,hi,d9,hI,hn,aP⟩;dsimp only at hi⊢;subst hi;have zz: ∀{c q d e:Nat} {W:SW} {U M:Af} {C0 C1:KS} {w'},Sat (XP E cb cq b h s r b2 h2 s2 r2 c q d e C0 C1 W U M (Pe E J O c0 q0 c1 q1 w)) w'->Sat (Pe E J O c0 q0 c1 q1 w) w':=λh'=>h'.rest (Ps:=[_,_,_,_,_,_]);refine AB (λeA=> ?_) λ_=> ?_
 .obtain⟨x,hx,_⟩:=tF (hA.yL ((zz aP).PG 2 rfl)) (show i<a1.len by omega);have ce: ∀w',Sat (Pe E J O c0 q0 c1 q1 w) w'->CE20 w' x i (z i):=λw' h'=>by
   obtain⟨y,hy,h⟩:=tF (hA.yL (h'.PG 2 rfl)) (show i<a1.len by omega);rw[hx]at hy;cases hy;exact h
  have hb:(0:Int)<=(i:Int)/\(i:Int)<(a1.len:Nat):=⟨by omega,by omega⟩;obtain⟨a5,k,N,np,other,K6,ce⟩: ∃(a5 k N:Int) (np other:Bool) (K6:Int),∀w',Sat (Pe E J O c0 q0 c1 q1 w) w'->w'.cell? (x.add (i*6))=some (.int .i64 a5)/\w'.cell? ((x.add (i*6)).add 1)=some (.int .i64 k)/\w'.cell? ((x.add (i*6)).add 2)=some (.int .i64 N)/\
    w'.cell? ((x.add (i*6)).add 3)=some (.bool np)/\w'.cell? ((x.add (i*6)).add 4)=some (.bool other)/\w'.cell? ((x.add (i*6)).add 5)=some (.int .u64 K6):=⟨_,_,_,_,_,_,ce⟩
  rw[hx];refine IT (λst w'=>w'=c4/\st.1=(if other=true then 1 else 0)) ?_ ?_
  .refine AF ⟨hb,other,(ce c4 (zz aP)).2.2.2.2.1,AP (λe=>⟨rfl,?_⟩) λe=>⟨rfl,?_⟩⟩
   .rw[e];rfl
   grind
  rintro⟨n,u⟩ _ _ ⟨rfl,cQ⟩;dsimp only at cQ⊢;subst cQ;have nb:(0:Int)<=(if other=true then 1 else 0)/\(if other=true then(1:Int)else 0)<(2:Nat):=by omega
  refine IT (λ_ w'=> ∃(W:SW) (U M:Af) (C0 C1:KS),KF W U M C0 C1/\W.S.fx.n<=i+1/\Sat (XP E cb cq b h s r b2 h2 s2 r2 c0 q0 c1 q1 C0 C1 W U M (Pe E J O c0 q0 c1 q1 w)) w') ?_ ?_
  .obtain⟨c,q,d,e,C,D,v,hc,hq,vw,bk⟩:=tE (E:=E) (cb:=cb) (cq:=cq) (b:=b) (h:=h) (s:=s) (r:=r) (b2:=b2) (h2:=h2) (s2:=s2) (r2:=r2) (Z:=Pe E J O c0 q0 c1 q1 w) other (c0:=c0) (q0:=q0) (c1:=c1) (q1:=q1) hI;have H1:=vw _ aP;have bN: ∀{w'},Sat (Pe E J O c0 q0 c1 q1 w) w'->w'.cell? ((Addr.mk J 0 none).add (Int.toNat (if other=true then 1 else 0)*1))=some (.pointer (some ⟨c,0,none⟩)):=λh'=>by rw[hc];exact z29 h' other
   have bO: ∀{w'},Sat (Pe E J O c0 q0 c1 q1 w) w'->w'.cell? ((Addr.mk O 0 none).add (Int.toNat (if other=true then 1 else 0)*1))=some (.pointer (some ⟨q,0,none⟩)):=λh'=>by rw[hq];exact z35 h' other
   have bQ: ∀{A B C' D':Pr} {w'},Sat (A::B::C'::D'::Pe E J O c0 q0 c1 q1 w) w'->Em E.AG w':=λh'=>bP _ h'.tail.tail.tail.tail;have fin: ∀{W':SW} {U' M':Af} {C' D':KS} {w'},KF W' U' M' C' D'->W'.S.fx.n<=i+1->Sat (XP E cb cq b h s r b2 h2 s2 r2 c q d e C' D' W' U' M' (Pe E J O c0 q0 c1 q1 w)) w'-> ∃(W:SW) (U M:Af) (C0 C1:KS),KF W U M C0 C1/\W.S.fx.n<=i+1/\Sat (XP E cb cq b h s r b2 h2 s2 r2 c0 q0 c1 q1 C0 C1 W U M (Pe E J O c0 q0 c1 q1 w)) w':=λ{W' U' M' C' D' w'} h1 h2 h3=>by
    obtain⟨aK,aL,g1,g2⟩:=bk W' U' M' C' D' w' h1 h3
    grind
   refine AF ⟨hb,a5,(ce _ (zz H1)).1,BI (λ_=> ?_) λ_=>BI (λ_=> ?_) λ_=>BI (λ_=> ?_) λ_=>BI (λ_=> ?_) λ_=>BI (λ_=> ?_) λ_=>BI (λ_=> ?_) λ_=>⟨W,U,M,C0,C1,hI,by omega,aP⟩⟩
   .-- a slot
    have Hd:=H1.drew;have cd:=ce _ (zz Hd);refine⟨nb,_,bN (zz Hd),AF ⟨hb,_,cd.2.1,AF ⟨hb,_,cd.2.2.2.1,?_⟩⟩⟩;refine LG hE (λw' h'=>bQ h') (kM Hd) v.ok v.nm (λ_ _=>v.c.PB v.ok.inv k np) λa e' C' W' U' M' hA Au bS bJ=> ?_;have aY:=(kN bJ).drew;have zq:Sat (Pe E J O c0 q0 c1 q1 w) bS.drew:=aY.rest (Ps:=[_,_,_,_,_,_]);have cd:=ce _ zq;refine⟨nb,_,bO zq,AF ⟨hb,_,cd.2.1,AF ⟨hb,_,cd.2.2.2.1,?_⟩⟩⟩;refine N1 aY v.ok v.nm v.c.z (λ_ _=>v.c.PB v.ok.inv k np) hA λdS bK=> ?_;refine AU (Ca (λc=>absurd rfl c) λ_ j=>AP (λg=>by simp at g) λ_=> ?_);exact fin (v.alloc hA Au).1 (Nat.le_trans (hA.JI v.f) (by omega)) (kO bK)
   .-- a piece
    have Hd:=H1.drew;have cd:=ce _ (zz Hd);refine⟨nb,_,bN (zz Hd),AF ⟨hb,_,cd.2.2.1,?_⟩⟩;refine N3 hE (λw' h'=>bQ h') (kM Hd) v λa ok e' C' W' U' M' hA aC bS bJ=> ?_;have aY:=(kN bJ).drew;have zq:Sat (Pe E J O c0 q0 c1 q1 w) bS.drew:=aY.rest (Ps:=[_,_,_,_,_,_]);have cd:=ce _ zq;refine⟨nb,_,bO zq,AF ⟨hb,_,cd.2.2.1,?_⟩⟩;refine cX aY v hA λdS bK=> ?_;refine AU (Ca (λc=>absurd rfl c) λ_=>AP (λg=>by simp at g) λ_ j=>AP (λg=>by simp at g) λ_=> ?_);exact fin aC (Nat.le_trans (hA.JI v.f) (by omega)) (kO bK)
   .-- a flush
    refine⟨nb,_,bN (zz H1),Py hE (kM H1) v λC' W' hF aC dU bL=>Ca (λc=>absurd rfl c) λ_=> ?_⟩;have aZ:=kN bL;refine⟨nb,_,bO (aZ.rest (Ps:=[_,_,_,_,_,_])),Rn aZ v.ok v.c.z hF λc5 bM=> ?_⟩;exact fin aC (by rw[hF.S];omega) (kO bM)
   .-- both flushed, and a cycle
    have fl: ∀(n:Bool) {W':SW} {C0 C1:KS} {w':World},KF W' U M C0 C1->Sat (XP E cb cq b h s r b2 h2 s2 r2 c0 q0 c1 q1 C0 C1 W' U M (Pe E J O c0 q0 c1 q1 w)) w'-> ∀{KK:World->Prop},(∀W2 aK aL w2,KF W2 U M aK aL->W2.S=W'.S->Sat (XP E cb cq b h s r b2 h2 s2 r2 c0 q0 c1 q1 aK aL W2 U M (Pe E J O c0 q0 c1 q1 w)) w2->KK w2)->
      ∃c6:(Option Addr),w'.cell? ((Addr.mk J 0 none).add (Int.toNat (if n=true then 1 else 0)*1))=some (.pointer c6)/\F.Da E c6 (λcS a4=>CND ((cS:Int) !=0) (K false a4) (((0:Int)<=(if n=true then 1 else 0)/\((if n=true then 1 else 0:Int))<(2:Nat))/\ ∃bF:(Option Addr),a4.cell? ((Addr.mk O 0 none).add (Int.toNat (if n=true then 1 else 0)*1))=some (.pointer bF)/\F.Be E bF (λcT=>KK cT) a4)) w':=λn {W' C0 C1 w'} bA H0 {KK} hKK=>by
     obtain⟨c,q,d,e,C,D,v,hc,hq,vw,bk⟩:=tE (E:=E) (cb:=cb) (cq:=cq) (b:=b) (h:=h) (s:=s) (r:=r) (b2:=b2) (h2:=h2) (s2:=s2) (r2:=r2) (Z:=Pe E J O c0 q0 c1 q1 w) n (c0:=c0) (q0:=q0) (c1:=c1) (q1:=q1) bA;have H1:=vw _ H0;refine⟨some ⟨c,0,none⟩,by rw[hc];exact z29 (zz H1) n,Py hE (kM H1) v λC' W2 hF aC dU bL=>Ca (λc=>absurd rfl c) λ_=> ?_⟩;have aZ:=kN bL;refine⟨by omega,some ⟨q,0,none⟩,by rw[hq];exact z35 (aZ.rest (Ps:=[_,_,_,_,_,_])) n,Rn aZ v.ok v.c.z hF λc5 bM=> ?_⟩;obtain⟨aK,aL,g1,g2⟩:=bk _ _ _ _ _ _ aC (kO bM);exact hKK W2 aK aL c5 g1 hF.S g2
    refine AJ (λst w'=> ∃(j:Nat) (W':SW) (C0 C1:KS),st.1=(j:Int)/\j<=2/\KF W' U M C0 C1/\W'.S=W.S/\Sat (XP E cb cq b h s r b2 h2 s2 r2 c0 q0 c1 q1 C0 C1 W' U M (Pe E J O c0 q0 c1 q1 w)) w') (λst _=>(2-st.1).toNat) ⟨0,W,C0,C1,rfl,by decide,hI,rfl,aP⟩ ?_;rintro⟨j',u⟩ _ eP ⟨j,W',D0,D1,hj,dJ,aC,hS,a7⟩;dsimp only at hj⊢;subst hj;refine AB (λcN=>⟨⟨by omega,by omega⟩,?_⟩) λcL=> ?_
    .rcases(show j=0∨j=1 by omega)with rfl|rfl
     .exact fl false aC a7 λW2 aK aL w2 g1 g2 g3=>⟨⟨1,W2,aK,aL,by rw[AM (by decide) (by decide)];rfl,by decide,g1,g2.trans hS,g3⟩,by rw[AM (by decide) (by decide)];decide⟩
     .exact fl true aC a7 λW2 aK aL w2 g1 g2 g3=>⟨⟨2,W2,aK,aL,by rw[AM (by decide) (by decide)];rfl,by decide,g1,g2.trans hS,g3⟩,by rw[AM (by decide) (by decide)];decide⟩
    .refine AF ⟨hb,N,(ce _ (zz a7)).2.2.1,Yv hE.toEnvC (λw' h'=>bQ h') (cZ a7) aC (by grind) λW2 U2 M2 d2 g1 g2 g3=>AO rfl ⟨W2,U2,M2,D0,D1,g1,by grind,Vx g3⟩⟩
   .-- a sweep
    have Hc:=cZ H1;refine EP Hc (O1 hE.toEnvW Hc.El v.ok.inv (λa3 w8 H8=> ?_) λy hy d7 w8 H8=> ?_)
    .have aR:Sat (Ar E cq b2 h2 s2 r2 W U M::Ak E cb b h s r W::BB E c cb C::BP E q cq C::BB E d cb D::BP E e cq D::Pe E J O c0 q0 c1 q1 w) w8:=H8.F6.front 1 rfl;refine⟨_,HR aR,LX (Sat.Df.1 aR) v.ok.se (λ_ cU bG=> ?_) λy hy=> ?_⟩
     .exact AU (AO rfl λj=>AO rfl (AO rfl (fin v (by omega) (Vx ((Sat.Df.2 bG).front 1 rfl)))))
     .have:=a3 y hy.1;rw[hy.2.1]at this;cases this
    .have aR:Sat (Ar E cq b2 h2 s2 r2 W U M::Ak E cb b h s r {W with L:=EY W.L y.id}::BB E c cb C::BP E q cq C::BB E d cb D::BP E e cq D::Pe E J O c0 q0 c1 q1 w) w8:=H8.F6.front 1 rfl;refine⟨_,HR aR,LX (Sat.Df.1 aR) v.ok.se (λa3=> ?_) λy' dO cU bG=> ?_⟩
     .have:=a3 y hy.1;rw[hy.2.1]at this;cases this
     obtain rfl:=hy.uniq v.ok.se dO;have aD:=v.ok.rem y.id;have aN:Sat (Ak E cb b h s r {W with L:=EY W.L y.id}::Ar E cq b2 h2 s2 r2 {W with L:=EY W.L y.id} U M::BB E c cb C::BP E q cq C::BB E d cb D::BP E e cq D::Pe E J O c0 q0 c1 q1 w) cU:=(Sat.Df.2 bG).front 1 rfl;refine AU (Ca (λc=>absurd rfl c) λ_ j=>AO rfl (AS rfl ?_));refine EP aN (Nq hE.toEnvW (λw' h'=>bP _ h'.tail.tail.tail.tail.tail.tail) aN.El aD.inv aD.JI aD.em (λz hz=>(Ds.1 hz).2) (λhn=> ?_) (λz hz eC w6 H6=> ?_) λn gone W2 U2 M2 aI dG w6 H6=> ?_)
     .obtain⟨z,hz,_⟩:=v.ok.inv.it y hy.1
      grind
     .have aT:Sat (Ar E cq b2 h2 s2 r2 {W with L:=EY W.L y.id} U M::Ak E cb b h s r {W with L:=EY W.L y.id}::BB E c cb C::BP E q cq C::BB E d cb D::BP E e cq D::Pe E J O c0 q0 c1 q1 w) w6:=H6.F6.front 1 rfl;refine⟨_,HR aT,Jn (Sat.Df.1 aT) aD.inv aD.hk aD.JI aD.em (λz hz=>(Ds.1 hz).2) (λhn=> ?_) (λz' _ _ dQ bI=> ?_) λz' _ dM=> ?_⟩
      .grind
      .exact Ca (λc=>absurd rfl c) λ_=>fin (v.Ii (Vw.rem W y.id) aD ⟨v.nm.ch,v.nm.rp⟩) (by grind) (Vx ((Sat.Df.2 bI).front 1 rfl))
      grind
     .have bC:=H6.Te dG (Nat.le_trans aI.len aD.em);have aT:Sat (Ar E cq b2 h2 s2 r2 {W with L:=EY W.L y.id} U M::Ak E cb b h s r W2::BB E c cb C::BP E q cq C::BB E d cb D::BP E e cq D::Pe E J O c0 q0 c1 q1 w) w6:=H6.F6.front 1 rfl;have bB:=aI.Ii ⟨y,hy.1,rfl⟩;refine⟨_,HR aT,Jn (Sat.Df.1 aT) aD.inv aD.hk aD.JI aD.em (λz hz=>(Ds.1 hz).2) (λhn=> ?_) (λz _ hz=> ?_) λz _ _=>⟨_,_,_,_,_,aI,bC.inv,λdQ bI=> ?_⟩⟩
      .obtain⟨y,_,_,hy,_⟩:=aI
       grind
      .obtain⟨y,_,_,_,dM,_⟩:=aI
       grind
      .exact Ca (λc=>absurd rfl c) λ_=>fin (v.Ii bB bC (aI.num (W:={W with L:=EY W.L y.id}) ⟨v.nm.ch,v.nm.rp⟩)) (by rw[bB.n];omega) (Vx ((Sat.Df.2 bI).front 1 rfl))
   .-- the pace
    have Hd:=H1.drew;have cd:=ce _ (zz Hd);refine AF ⟨hb,K6,cd.2.2.2.2.2,EP (cZ Hd) ⟨cd.2.2.2.2.2,bH (cZ Hd).El λcV bZ=> ?_⟩⟩;have aS:=bZ.F6.drew;have zq:Sat (Pe E J O c0 q0 c1 q1 w) cV.drew:=aS.rest (Ps:=[_,_,_,_,_,_]);refine⟨_,HR (aS.front 1 rfl),AF ⟨hb,K6,(ce _ zq).2.2.2.2.2,cO (Sat.Df.1 (aS.front 1 rfl)) λd3 b0=> ?_⟩⟩;exact fin v.pace (by grind) (Vx ((Sat.Df.2 b0).front 1 rfl))
  rintro _ _ eO ⟨W',U',M',D0,D1,aC,dL,dD⟩;refine AJ (λst w'=> ∃j:Nat,st.1=(j:Int)/\j<=2/\Sat (XP E cb cq b h s r b2 h2 s2 r2 c0 q0 c1 q1 D0 D1 W' U' M' (Pe E J O c0 q0 c1 q1 w)) w') (λst _=>(2-st.1).toNat) ⟨0,rfl,by decide,dD⟩ ?_;rintro⟨j',u⟩ _ d4 ⟨j,hj,dJ,aU⟩;dsimp only at hj⊢;subst hj;refine AB (λcN=>⟨⟨by omega,by omega⟩,?_⟩) λcL=> ?_
  .rcases(show j=0∨j=1 by omega)with rfl|rfl
   .have Hk:=aU.drew;have cd:=ce _ (zz Hk);refine⟨_,z29 (zz Hk) false,AF ⟨hb,_,cd.2.1,AF ⟨hb,_,cd.2.2.2.1,⟨by decide,by decide⟩,_,z35 (zz Hk) false,AF ⟨hb,_,cd.2.1,AF ⟨hb,_,cd.2.2.2.1,?_⟩⟩⟩⟩⟩;refine KB (C:=D0) Hk λcW aG=> ?_;have a2:=ce _ (zz aG);refine⟨a2.2.2.2.1,a2.2.1,z35 (zz aG) false,O9 (C:=D0) (aG.front 1 rfl) aC.c.z λcY aV=>Ca (λc=>absurd rfl c) λ_=> ?_⟩;exact⟨⟨1,by rw[AM (by decide) (by decide)];rfl,by decide,aV.front 1 rfl⟩,by rw[AM (by decide) (by decide)];decide⟩
   .have Hk:=Ro aU.drew;have cd:=ce _ (zz Hk);refine⟨_,z29 (zz Hk) true,AF ⟨hb,_,cd.2.1,AF ⟨hb,_,cd.2.2.2.1,⟨by decide,by decide⟩,_,z35 (zz Hk) true,AF ⟨hb,_,cd.2.1,AF ⟨hb,_,cd.2.2.2.1,?_⟩⟩⟩⟩⟩;refine KB (C:=D1) Hk λcW aG=> ?_;have a2:=ce _ (zz aG);refine⟨a2.2.2.2.1,a2.2.1,z35 (zz aG) true,O9 (C:=D1) (aG.front 1 rfl) aC.d.z λcY aV=>Ca (λc=>absurd rfl c) λ_=> ?_⟩;exact⟨⟨2,by rw[AM (by decide) (by decide)];rfl,by decide,Ro (aV.front 1 rfl)⟩,by rw[AM (by decide) (by decide)];decide⟩
  .rw[AM (n:=(i:Int)+1)];exact⟨⟨i+1,W',U',M',D0,D1,by omega,by omega,aC,dL,aU⟩,by omega⟩
 .-- at the end
  have Hc:=cZ aP;refine EP Hc (Me Hc.El ?_);obtain⟨R,HH,hz,dH⟩:=Hc.El.Ix;refine aJ HH hI.ok.inv.hI λc2 b3=> ?_;have aW:Sat (Ar E cq b2 h2 s2 r2 W U M::Ak E cb b h s r W::BB E c0 cb C0::BP E q0 cq C0::BB E c1 cb C1::BP E q1 cq C1::Pe E J O c0 q0 c1 q1 w) c2:=(dH b3).F6.front 1 rfl;obtain⟨em,b4⟩:=Sat.Rq.1 (Sat.Df.1 aW);refine⟨_,HR aW,AF ⟨_,(XO aW).1,WR b4 hI.ok.inv.hI hI.ok.hk λbD b5=> ?_⟩⟩;have b6:Sat (Ar E cq b2 h2 s2 r2 W U M::Ak E cb b h s r W::BB E c0 cb C0::BP E q0 cq C0::BB E c1 cb C1::BP E q1 cq C1::Pe E J O c0 q0 c1 q1 w) bD:=Sat.Df.2 (Sat.Rq.2 ⟨em,b5⟩);generalize cP W.S.T.LM=CI;generalize cP W.S.gone=CG;refine BI (λ_=>BI (λ_=>BI (λ_=> ?_) λc=>absurd rfl c) λc=>absurd rfl c) λc=>absurd rfl c;have b8:Sat (Pe E J O c0 q0 c1 q1 w) bD:=b6.rest (Ps:=[_,_,_,_,_,_]);exact dA hE bP b8 λc3 b7=>hK c3 (Sat.PG (Ps:=Pe E J O c0 q0 c1 q1 w) 2 b7 rfl)
theorem Ti{j v y a1:Ac}{z:Nat->Vz PD}(T:Em E.AG w)(h0: ∃Y,PY w (.int .u64) j Y)(h1: ∃z1,PY w .bool v z1)(h2: ∃z2,PY w (.int .u64) y z2)(J:PY w PD a1 z)
  {K:Bool->World->Prop}(O: ∀w',Ext AR w w'->K true w'):F.BN E j v y a1 K w:=
 let⟨_,h0⟩:=h0;let⟨_,h1⟩:=h1;let⟨_,h2⟩:=h2;Vy hE T h0 h1 h2 J O
end
end Go.Sh
namespace Go.Sh
open Go.Proofs
def envS:EnvS env where
 at1:=by
  intro i j y K w h;refine⟨(jD #[.int .i64 i,.pointer j,.pointer y] w (λv w'=> ∃b,v= .bool b/\K b w') Lp ?_).1,(jD #[.int .i64 i,.pointer j,.pointer y] w (λv w'=> ∃b,v= .bool b/\K b w') Lp ?_).2⟩<;>
  exact(show F.Eh env i j y (λb w'=> ∃J,Value.bool b= .bool J/\K J w') w from pV (λb w' h=>⟨b,rfl,h⟩) h)
 mono:=Zo
def envA:EnvA env where
 toEnvS:=envS
 vR:=by
  intro x y j v R w h;refine⟨(jC #[.int .u64 x,.int .u64 y,.pointer j,.pointer v] w R Lp ?_).1,(jC #[.int .u64 x,.int .u64 y,.pointer j,.pointer v] w R Lp ?_).2⟩<;>
  exact h
def envW:EnvW env where
 toEnvA:=envA
 rD:=by
  intro i j v R w h;refine⟨(jB #[.int .i64 i,.pointer j,.pointer v] w R Lp ?_).1,(jB #[.int .i64 i,.pointer j,.pointer v] w R Lp ?_).2⟩<;>
  exact h
def envC:EnvC env where
 toEnvW:=envW
 rX:=by
  intro a p k n R w h;refine⟨(pT #[.pointer a,.agg ⟨[.int .i64 p,.int .i64 k,.bool n]⟩] w R Lp ?_).1,(pT #[.pointer a,.agg ⟨[.int .i64 p,.int .i64 k,.bool n]⟩] w R Lp ?_).2⟩<;>
  exact h
 bL:=by
  intro a p k n R w h;refine⟨(eM #[.pointer a,.agg ⟨[.int .i64 p,.int .i64 k,.bool n]⟩] w R Lp ?_).1,(eM #[.pointer a,.agg ⟨[.int .i64 p,.int .i64 k,.bool n]⟩] w R Lp ?_).2⟩<;>
  exact h
 yF:=by
  intro a p k n R w h;refine⟨(Xz #[.pointer a,.agg ⟨[.int .i64 p,.int .i64 k,.bool n]⟩] w R Lp ?_).1,(Xz #[.pointer a,.agg ⟨[.int .i64 p,.int .i64 k,.bool n]⟩] w R Lp ?_).2⟩<;>
  exact h
 rY:=by
  intro a p k n R w h;refine⟨(jA #[.pointer a,.agg ⟨[.int .i64 p,.int .i64 k,.bool n]⟩] w R Lp ?_).1,(jA #[.pointer a,.agg ⟨[.int .i64 p,.int .i64 k,.bool n]⟩] w R Lp ?_).2⟩<;>
  exact h
def envK:Vs env where
 toEnvC:=envC
 kG:=by
  intro a b c R w h;refine⟨(eL #[.pointer a,.pointer b,.pointer c] w R Lp ?_).1,(eL #[.pointer a,.pointer b,.pointer c] w R Lp ?_).2⟩<;>
  exact h
end Go.Sh
namespace Go.Proofs.YtcnbbdhhgcbjmaaGreatDoor.cachePlay
open Go.ChangeShapes Go.WideShapes Go.ChangeAt Go.RowKit
set_option linter.unusedVariables false
set_option linter.unusedSimpArgs false
theorem own:ownKnob Tryz.prog.godebug=none:=by kernel_rfl
theorem laidOut:laidOutB Tryz.prog=true:=by kernel_rfl
theorem gTab:Tryz.prog.globalNamed "math/bits.deBruijn64tab" =some 0:=by kernel_rfl
theorem gTabType:(Tryz.prog.globals[0]?).map (·.type)=some 264:=by kernel_rfl
theorem und1:Tryz.prog.underlying 264=some (.array 64 5):=by kernel_rfl
theorem und2:Tryz.prog.underlying 5=some (.int .u8):=by kernel_rfl
theorem cells1:Tryz.prog.cellsOf 264=64:=by kernel_rfl
theorem cells2:Tryz.prog.cellsOf 5=1:=by kernel_rfl
theorem table{W:World}(h:laidMetH Tryz.prog Rows.cachePlayRow.laid W):Go.Sh.Em Go.Sh.env.AG W:=by
 have v:=Lib.tabIs_of_head (rest:=[]) (k:=.u8) (zs:=Lib.deBruijn64tab.map fun n:Nat=>(n:Int)) gTab gTabType und1 und2 cells2 cells1 h;intro i j;have:=v.cell gTab i (by rw[List.length_map];exact j);rw[show(Lib.deBruijn64tab.map fun n:Nat=>(n:Int)).getD i 0=((Lib.deBruijn64tab.getD i 0:Nat):Int) by rw[List.getD_eq_getElem?_getD,List.getD_eq_getElem?_getD,List.getElem?_map];cases Lib.deBruijn64tab[i]? <;>rfl]at this;exact this
theorem walk(x:Go.Sh.Zc [.cons (.sl (.int .u64)) (.cons (.sl (.bool)) (.cons (.sl (.int .u64)) (.nil))),.sl (.cons (.int .i64) (.cons (.int .i64) (.cons (.int .i64) (.cons (.bool) (.cons (.bool) (.cons (.int .u64) (.nil)))))))])(w:World)(h:Go.Sh.eB w [.cons (.sl (.int .u64)) (.cons (.sl (.bool)) (.cons (.sl (.int .u64)) (.nil))),.sl (.cons (.int .i64) (.cons (.int .i64) (.cons (.int .i64) (.cons (.bool) (.cons (.bool) (.cons (.int .u64) (.nil)))))))] x)(j:Go.Sh.Em Go.Sh.env.AG w):
  Calls Tryz.prog 3 ⟨Go.Sh.Tn [.cons (.sl (.int .u64)) (.cons (.sl (.bool)) (.cons (.sl (.int .u64)) (.nil))),.sl (.cons (.int .i64) (.cons (.int .i64) (.cons (.int .i64) (.cons (.bool) (.cons (.bool) (.cons (.int .u64) (.nil)))))))] x⟩ w fun e w'=>e= .returned (.bool true)/\Below w.heap.size w w':=by
 obtain⟨a0,a1,u⟩:=x;obtain⟨w0,w1,_⟩:=h;obtain⟨y,w1⟩:=w1;refine(Go.Sh.yA _ w (fun v w'=>v= .bool true/\Below w.heap.size w w') Go.Sh.Lp ?_).2.mono ?_
 ·show Go.Sh.F.BN Go.Sh.env a0.1 a0.2.1 a0.2.2.1 a1 (fun r w'=>Value.bool r= .bool true/\Below w.heap.size w w') w;exact Go.Sh.Ti Go.Sh.envK j w0.1 w0.2.1 w0.2.2.1 w1 fun w' h=>⟨rfl,h.below (Nat.le_refl _) fun _ f=>f.elim⟩
 ·intro e w' hE;obtain⟨v,rfl,rfl,h⟩:=hE.val;exact⟨rfl,h⟩
noncomputable def laidWorld(os:Os):World:=
 {World.holding Tryz.prog os ⟨#[],#[],[]⟩with heap:=(World.holding Tryz.prog os ⟨#[],#[],[]⟩).heap.modify 0 fun
   | .cells _ t frozen=>.cells ⟨Lib.deBruijn64tab.map fun n:Nat=>.int .u8 (n:Int)⟩ t frozen
   | o=>o}
theorem laid_met(os:Os):laidMet Tryz.prog Rows.cachePlayRow.laid ((laidWorld os).forCall (fun _ _=>0) ⟨#[],#[.agg #[.slice none 0 0,.slice none 0 0,.slice none 0 0],.slice none 0 0],[]⟩).memory:=
 laidMet_of_run' 8 (by kernel_rfl) (by kernel_rfl)
theorem reads(os:Os){H:Type}(enc:TypeId×Value->H): ∃places,DataW.whole enc Tryz.prog ((laidWorld os).forCall (fun _ _=>0) ⟨#[],#[.agg #[.slice none 0 0,.slice none 0 0,.slice none 0 0],.slice none 0 0],[]⟩).memory Tryz.f3.params.toList Rows.cachePlaySpec.vars false (#[.agg #[.slice none 0 0,.slice none 0 0,.slice none 0 0],.slice none 0 0]:Array Value).toList 8=some ([.agg [.nil,.nil,.nil],.nil],[],places):=
 ⟨[],by kernel_rfl⟩
set_option maxRecDepth 100000 in
theorem lifted(os:Os)(started:os.Started)(H:Type)(enc:TypeId×Value->H)(F:Stop.Interp):
  ReturnsInHanded {} Tryz.checked os 3 .any ((OpenSpec.ofChange Rows.cachePlaySpec).preRow enc Tryz.prog Tryz.f3 Rows.cachePlayRow.domain false Rows.cachePlayRow.laid) (((OpenSpec.ofChange Rows.cachePlaySpec).at F).post enc Tryz.prog Tryz.f3 false true false false):=by
 obtain⟨places,Y⟩:=reads os enc;refine returnsInHanded_of_row (C:=Tryz.checked) (s:=OpenSpec.ofChange Rows.cachePlaySpec) own started (by kernel_rfl) Tryz.func3
  (witness_row_at (enc:=enc) (C:=Tryz.checked) false (laidWorld os) #[.agg #[.slice none 0 0,.slice none 0 0,.slice none 0 0],.slice none 0 0] rfl (by kernel_rfl) (by kernel_rfl) (by kernel_rfl)
   (OpenSpec.preRow_of_cond 8 Y (by kernel_rfl) (fun k hk=>by cases hk) (by kernel_rfl) (laid_met os))) ?_
 intro W base args K gs before J hW _ _ _ hL _ _;have T:=hW;obtain⟨p,q,O,hV,rfl,aD,aF⟩:=hW;obtain⟨rfl,rfl⟩:=trodVars_none hV;have y:=Go.Sh.iM (P:=Tryz.prog) (shs:=[.cons (.sl (.int .u64)) (.cons (.sl (.bool)) (.cons (.sl (.int .u64)) (.nil))),.sl (.cons (.int .i64) (.cons (.int .i64) (.cons (.int .i64) (.cons (.bool) (.cons (.bool) (.cons (.int .u64) (.nil)))))))]) (by kernel_rfl) (fun j t v ht hv=>J j t v (by simpa using ht) (by simpa using hv)) O;obtain⟨x,Y,Au⟩:=Go.Sh.UY y;obtain rfl:args=⟨Go.Sh.Tn [.cons (.sl (.int .u64)) (.cons (.sl (.bool)) (.cons (.sl (.int .u64)) (.nil))),.sl (.cons (.int .i64) (.cons (.int .i64) (.cons (.int .i64) (.cons (.bool) (.cons (.bool) (.cons (.int .u64) (.nil)))))))] x⟩:=Array.toList_inj.1 (by simpa using Y);have hlen:=Go.Sh.Sj O;obtain⟨d0,d1,rfl⟩: ∃d0 d1,K=[d0,d1]:=by
  have hl:K.length=2:=hlen
  match K,hl with
  | [d0,d1],_=>exact⟨d0,d1,rfl⟩
 refine(walk x W Au (table hL)).mono fun e W' ⟨he,bel⟩=> ?_;subst he;exact⟨_,rfl,_,_,_,[],_,[],T,trodAll_mk1 (shut_bool Tryz.underlying4 _),Go.Sh.Pk laidOut bel (by kernel_rfl) O,rfl,bel.frame _,fun h=>by cases h⟩
theorem said:Rows.CachePlaySaid:=
 OpenClaim.holds_of_cond 3 Tryz.f3 rfl rfl rfl rfl rfl rfl rfl ⟨rfl,rfl,rfl,rfl,rfl⟩ rfl rfl rfl rfl rfl (by kernel_rfl) Tryz.func3 (by kernel_rfl)
  (of_decide_eq_true (by kernel_rfl)) (by unfold Func.isWrapper;first|(rw[if_pos (by decide+kernel)];kernel_rfl)|(rw[if_neg (by decide+kernel)];exact⟨rfl,rfl⟩))
  (fun os started H enc _ F=>by rw[OpenClaim.pre_eq_preRow];exact lifted os started H enc F)
theorem plain(f:FuncId)(fn:Func)(hf:Tryz.pinned.checked.prog.funcNamed "mallow/mallowlaw20.CachePlay" =some f)(y:Tryz.pinned.checked.prog.funcs[f]? =some fn):
  true=Tryz.pinned.checked.prog.looks []/\ ∀(j:Nat) t,fn.params[j]? =some t->Tryz.pinned.checked.prog.wantsStandIn t=false:=by
 obtain rfl:f=3:=Option.some.inj ((show Tryz.prog.funcNamed "mallow/mallowlaw20.CachePlay" =some 3 by kernel_rfl).symm.trans hf)|>.symm;obtain rfl:fn=Tryz.f3:=(Option.some.inj (Tryz.func3.symm.trans y)).symm;refine⟨by kernel_rfl,fun j t J=> ?_⟩;have v:(Tryz.f3.params.toList.all fun t=> !(Tryz.prog.wantsStandIn t))=true:=by kernel_rfl
 have:=List.all_eq_true.1 v t (Array.mem_toList_iff.2 (Array.mem_of_getElem? J));exact Bool.not_eq_true' _▸this
theorem proved:Rows.CachePlayCardSaid:=
 Claim7.holds_tied_plain_at .later [] _ _ _ _ said (fun _ h=>by cases h) (by kernel_rfl) (fun _ h=>by cases h) cachePlay_row_tie rfl ⟨rfl,rfl⟩ (by kernel_rfl) rfl plain (by kernel_rfl)
#print axioms proved
end Go.Proofs.YtcnbbdhhgcbjmaaGreatDoor.cachePlay

/- What the heap's laws share. No further condition. -/
import Derived.Test.YtgeilojialbgdaaGreatDoorH
import Derived.Test.YtgeilojialbgdaaGreatDoorY
import Derived.Test.YtgeilojialbgdaaGreatDoorA
import Derived.Test.YtgeilojialbgdaaGreatDoorC
import Derived.Test.YtgeilojialbgdaaGreatDoorR
import Derived.Test.YtgeilojialbgdaaGreatDoorM
set_option linter.all false
set_option maxRecDepth 50000
set_option maxHeartbeats 4000000
namespace Go.Sh
def Found.induct{P:HS->Prop}{S S2:HS}{p n page:Int}(hS:P S)(h1: ∀S i q,i<64->P S->P (S.fill i q))(O: ∀S i k n,P S->P (S.Ld i k n))(T: ∀S page n,P S->P (S.Le page n))
  (Y: ∀S V at_ N,P S->P (S.grown V at_ N))(h5: ∀S V,P S->P {S with V:=V})(h:Found S p n page S2):P S2:=by
 have v: ∀{i S1},i<64->Lf S i S1->P S1:=λ{i S1} hi h=>by
  rcases h with ⟨_,q,_,rfl⟩|⟨_,rfl⟩
  .grind
  .exact hS
 have ht: ∀{S1},MH S p n S1->P S1:=λ{S1} h=>by
  rcases h with ⟨_,rfl⟩|⟨i,hi,_,_,h,_⟩
  .exact hS
  .exact v hi h
 obtain⟨S1,K,hm⟩:=h;have a:P S1:=by
  rcases K with (⟨j,i,k,hi,_,_,J,_,_,_,_,rfl⟩|⟨j,e,_,rfl⟩)|⟨j,u,e,_,⟨_,at_,_,rfl⟩,_,rfl⟩
  .grind
  .grind
  grind
 rcases hm with ⟨_,rfl⟩|⟨_,_,rfl⟩
 .exact a
 grind
structure Same(S S2:HS):Prop where
 sp:S2.sp=S.sp
 own:S2.own=S.own
 fx:S2.fx=S.fx
 AD:S2.AD=S.AD
def Found.same{S S2:HS}{p n page:Int}(h:Found S p n page S2):Same S S2:=
 h.induct (P:=Same S) ⟨rfl,rfl,rfl,rfl⟩ (λ_ _ _ _ h=>⟨h.sp,h.own,h.fx,h.AD⟩) (λ_ _ _ _ h=>⟨h.sp,h.own,h.fx,h.AD⟩) (λ_ _ _ h=>⟨h.sp,h.own,h.fx,h.AD⟩) (λ_ _ _ _ h=>⟨h.sp,h.own,h.fx,h.AD⟩) λ_ _ h=>⟨h.sp,h.own,h.fx,h.AD⟩
structure F7(S:HS)(b:Int):Prop where
 la: ∀p,mem S.V.laid p↔512<=p/\p<b
 b0:512<=b
 b1:b %512=0
 h0:0<=S.hint
 h1:S.hint<=b
 pl:S.V.pl=[]
 rf:S.V.rf=[]
def F7.new(fl:List Int):F7 (HS.new (Kq [] [] fl)) 512:=⟨λp=>⟨λh=>absurd h (Bz p),λh=>by omega⟩,Int.le_refl _,rfl,Int.le_refl _,by show(0:Int)<=512;decide,rfl,rfl⟩
section
variable{S S2:HS}{b p n page:Int}
def sC(n:Int):n<=LF n/\LF n<n+512/\LF n %512=0:=by unfold LF;omega
def F7.fS(h:F7 S b){hint N at_:Int}(v:0<N)(e:hint<=b)(a:QB S.V.laid hint N at_):at_=b:=by
 have h1:=a.low;have u:=a.mul;have b0:=h.b0;have b1:=h.b1;by_cases g:b<at_
 .obtain⟨m,m1,J,j⟩:=a.first b b1 b0 e g;have:=(h.la m).1 j;omega
 .by_cases g2:at_<b
  .exact absurd ((h.la at_).2 ⟨h1,g2⟩) (a.free at_ (Int.le_refl _) (by omega))
  .omega
def F7.sD(h:F7 S b){N at_:Int}(a:0<N)(j:Ob S.V S.hint N at_):at_=b:=by
 have:=h.h0;have:=h.h1;rcases j with ⟨p,r,e,_⟩|⟨_,⟨_,h1,_⟩|⟨_,_,h1,_⟩⟩
 .rw[h.pl]at e;cases e
 .exact h.fS a (by omega) h1
 .exact h.fS a (by have:=h.b0;omega) h1
def F7.sE(h:F7 S b){N:Int}(e:0<N)(j:b+N<=34359738368)(hu:Uv S.V S.hint N):False:=by
 have:=h.h1;obtain⟨_,g|⟨a,g1,g2⟩,_⟩:=hu
 .omega
 .have:=h.fS e h.h1 g1;omega
def F7.kA(h:F7 S b)(e1:S2.V=S.V)(e2:S2.hint=S.hint):F7 S2 b:=⟨by rw[e1];exact h.la,h.b0,h.b1,by rw[e2];exact h.h0,by rw[e2];exact h.h1,by rw[e1];exact h.pl,by rw[e1];exact h.rf⟩
def Lf.V{i:Nat}(h:Lf S i S2):S2.V=S.V/\S2.hint=S.hint:=by
 rcases h with ⟨_,q,_,rfl⟩|⟨_,rfl⟩<;>exact⟨rfl,rfl⟩
def MH.V(h:MH S p n S2):S2.V=S.V/\S2.hint=S.hint:=by
 rcases h with ⟨_,rfl⟩|⟨i,_,_,_,h,_⟩
 .grind
 .exact h.V
def Pf.sF(a:Pf S)(h:MH S p n S2):Ok S2.V.laid:=by rw[h.V.1];exact a.vv.oH
def F7.grew'(h:F7 S b)(j:Ok S.V.laid)(v:1<=n)(e:yT S n S2)(u:b+LF n<=34359738368):F7 S2 (b+LF n)/\S2=S.grown {S.V with rf:=S.V.rf.tail,pl:=S.V.pl.tail,laid:=DZ S.V.laid b (b+LF n)} b (LF n):=by
 obtain⟨_,at_,a,rfl⟩:=e;have hu:=sC n;have b0:=h.b0;have b1:=h.b1;have:=h.sD (by omega) a;subst this;refine⟨⟨λq=> ?_,by omega,by omega,by show 0<=at_+LF n;omega,Int.le_refl _,by show S.V.pl.tail=[];rw[h.pl];rfl,by show S.V.rf.tail=[];rw[h.rf];rfl⟩,rfl⟩;refine(Eb j (by omega) (by omega) (by omega) q).trans ?_;rw[h.la];omega
end
def VJ(i:Nat){t:Nat}{Ps:List Pr}{w:World}{K:Nat->World->Prop}(H:Sat Ps w)(hi:Ps[i]? =some dD)(e: ∀b w',Sat (Ps.set i (Row t 1 ⟨some ⟨b,0,none⟩,0,0⟩ [])) w'->K b w'):AL (.cells ⟨[]⟩ t) w K:=
 NJ (n:=0) (z:=1) (H.front i hi).tail rfl (by decide) λb w' a=>e b w' (Sat.back i a (List.getElem?_eq_some_iff.1 hi).1)
def My(i:Nat){t bytes b:Nat}{zs:Array Value}{a:AY}{vs:List Value}{Ps:List Pr}{w:World}{K:AY->World->Prop}(H:Sat Ps w)(hi:Ps[i]? =some (Row t 1 ⟨some ⟨b,0,none⟩,0,0⟩ []))(hz:zs.size=1)
  (e: ∀w',Sat (Ps.eraseIdx i) w'->rowAt w' a.base a.len vs)(O:vs.length=a.len)(hlen:a.len<=1099511627776)(j:bytes<=8)(ho: ∀v∈vs,v.oneCell'=true)(J: ∀s' w',Sat (Ps.set i (Row t 1 s' vs)) w'->K s' w'):
  APP t 1 bytes zs ⟨some ⟨b,0,none⟩,0,0⟩ a w K:=by
 have hm:(0+a.len)*bytes<=1099511627776*8:=Nat.mul_le_mul (by omega) j;exact O7 (H.front i hi) hz (by simpa using e w (H.front i hi).tail) (by omega) ho (by grind) (by grind) λs' w' u _=>J s' w' (Sat.back i u (List.getElem?_eq_some_iff.1 hi).1)
def RS(k:IntKind)(l:List Int): ∀v∈ints k l,v.oneCell'=true:=by intro v a;simp[ints]at a;obtain⟨x,_,rfl⟩:=a;rfl
def nF(l:List Bool): ∀v∈Hu l,v.oneCell'=true:=by intro v a;simp[Hu]at a;rcases a with ⟨_,rfl⟩|⟨_,rfl⟩<;>rfl
section
variable{E:Env}{b c:Nat}{V:VS}{Z Rs:List Pr}{w:World}
def VK{b1 J t1 t3:Nat}{us:List Value}{s0 s1 s2:AY}{r0 r1 Y:List Value}{K:AY->AY->AY->World->Prop}
  (hK: ∀s0 s1 s2 w',Sat (Row E.AF 1 s0 r0::Row E.Be 1 s1 r1::Row E.AF 1 s2 Y::Rs) w'->K s0 s1 s2 w')
  (H:Sat (Cells b1 t1 us::Row E.AF 1 s0 r0::Row E.Be 1 s1 r1::Row E.AF 1 s2 Y::Cells J t3 [.slice none 0 0,.slice none 0 0,.slice none 0 0]::Rs) w):
  stCells (Addr.mk J 0 none) 0 [.slice s0.base s0.len s0.cap,.slice s1.base s1.len s1.cap,.slice s2.base s2.len s2.cap] w λu=>
     ∃a:AY,u.cell? ((Addr.mk J 0 none).add 0)=some (.slice a.base a.len a.cap)/\
     ∃e:AY,u.cell? ((Addr.mk J 0 none).add 1)=some (.slice e.base e.len e.cap)/\
     ∃j:AY,u.cell? ((Addr.mk J 0 none).add 2)=some (.slice j.base j.len j.cap)/\
     K a e j u:=by
 refine Bm (news:=[.slice s0.base s0.len s0.cap,.slice s1.base s1.len s1.cap,.slice s2.base s2.len s2.cap]) (H.tail.front 3 rfl) rfl (by intro v T;simp at T;rcases T with rfl|rfl|rfl<;>rfl) λw' O=>⟨s0,O.cell rfl,s1,O.cell rfl,s2,O.cell rfl,hK _ _ _ _ O.tail⟩
end
section
variable{E:Env}{w:World}{Rs Z:List Pr}
def HInv.Kq(pl:List Int)(rf:List Bool)(fl:List Int):HInv (HS.new (Go.Sh.Kq pl rf fl)) no:=HInv.new rfl rfl
variable(hE:EnvA E)
include hE
end
section
variable{S S2:HS}{i k:Nat}{page:Int}
def F7.EB{b:Int}(h:F7 S b)(id:Int)(x:Nat×SI)(pg n:Int)(X:FX):F7 (S.EB id x pg n X) b:=⟨h.la,h.b0,h.b1,h.h0,h.h1,h.pl,h.rf⟩
end
section
variable{E:Env}{w:World}{Rs Z:List Pr}(hE:EnvA E)
include hE
end
def HS.Vz(S:HS):HS:={S with V:={S.V with rf:=[]}}
section
variable{S S2:HS}{n page:Int}
variable{i:Nat}{next b:Int}{rf:List Bool}
end
def fT: ∀(N:Nat) (l:List Int),l.Nodup->(∀n∈l,0<n/\n<=N)->l.length<=N
 | 0,[],_,_=>Nat.le_refl _
 | 0,n::_,_,h=>by have:=h n List.mem_cons_self;omega
 | N+1,l,hn,h=>by
  by_cases hm:((N+1:Nat):Int)∈l
  .have e:=fT N (l.erase ((N+1:Nat):Int)) (hn.erase _) λn a=>by grind
   grind
  .have e:=fT N l hn λn a=>by grind
   omega
def W_not(u:Nat->Bool):EA .u64 2 18446744073709551615 (W u)=W λi=> !u i:=by
 rw[<-Xm];show IntKind.wrap .u64 ((BitVec.ofInt 64 (W λ_=>true)^^^BitVec.ofInt 64 (W u)).toNat:Int)=_;rw[BitVec.toNat_xor,bvW,bvW];have e:wN (λ_=>true) 64^^^wN u 64=wN (λi=> !u i) 64:=by
  refine Nat.eq_of_testBit_eq λi=> ?_;rw[Nat.testBit_xor,Dh,Dh,Dh]
  grind
 rw[e,UY (Nj _ 64)];rfl
def W_bit{n:Nat}(h:n<64):u64 (1*2^(min (Int.toNat (n:Int)) (IntKind.bits .u64)))=W λi=>i==n:=by
 have e:=pG (λi=>i==0) (n:=(n:Int)) (by omega) (by omega);rw[pC]at e
 grind
def fU{n:Nat}(h:n<64):u64 ((u64 (1*2^(min (Int.toNat (n:Int)) (IntKind.bits .u64))))-1)=W λi=>decide (i<n):=by
 have e:wN (λi=>i==n) 64=2^n:=by
  refine Nat.eq_of_testBit_eq λi=> ?_;rw[Dh,Nat.testBit_two_pow]
  grind
 have e2:wN (λi=>decide (i<n)) 64=2^n-1:=by
  refine Nat.eq_of_testBit_eq λi=> ?_;rw[Dh,Nat.testBit_two_pow_sub_one]
  grind
 rw[W_bit h];unfold W;rw[e,e2];have h1:0<2^n:=Nat.pow_pos (by decide);have a:2^n<=2^63:=Nat.pow_le_pow_right (by decide) (by omega);rw[AP];omega
def sG{u:Nat->Bool}{i:Nat}(hu:u i=false): ∀n,cN (λj=>u j||j==i) n=cN u n+(if i<n then 1 else 0)
 | 0=>rfl
 | n+1=>by
  simp only[cN,sG hu n];by_cases e:n=i
  .grind
  grind
section
variable{E:Env}{w:World}{Z:List Pr}{s:AY}{uw:List Int}{U:Nat->Bool}
def SI.set(S:SI)(U:Nat->Bool)(n:Nat):SI:={S with uw:=[W λi=>U i||i==n],used:=S.used+1,look:=(n:Int)+1}
def SI.Vz(S:SI)(U:Nat->Bool)(n:Nat):SI:={S with uw:=[W λi=>U i&& !(i==n)],used:=S.used-1,look:=PR S.look n}
section
variable{b:Nat}{S:SI}
def RT(H:Sat (Cm E b S::Z) w){i:Int}{K:Bool->World->Prop}(a:K (decide (0<=i/\i<S.AO)) w):F.ES E (sM b) i K w:=by
 obtain⟨e,sm,H⟩:=Sat.span.1 H;unfold F.ES;simp only[AK];refine AE (λg=>⟨_,H.cell rfl,?_⟩) λg=> ?_
 .rw[show decide (i<S.AO)=decide (0<=i/\i<S.AO)from decide_eq_decide.2 (by omega)];exact a
 .rw[decide_eq_false (by omega)]at a;exact a
def TF(H:Sat (Cm E b S::Z) w){i:Int}(h0:0<=i)(h1:i<S.AO){K:Int->Int->World->Prop}(a: ∀w',Sat (Cm E b S::Z) w'->K (u64 (S.base+u64 (u64 i*u64 S.elem))) 0 w'):F.Cd E (sM b) i K w:=by
 unfold F.Cd T0.Cd;refine RT H ?_;rw[decide_eq_true ⟨h0,h1⟩];refine AR rfl ?_;obtain⟨j,sm,H⟩:=Sat.span.1 H;simp only[AK];exact⟨_,H.drew.AW rfl,_,H.drew.cell rfl,AZ λt e=>by rw[e];exact a _ (Sat.span.2 ⟨j,sm,H.drew⟩)⟩
end
end
def HS.put(S:HS)(id:Int)(x:Nat×SI):HS:={S with sp:=λi=>if i=id then some x else S.sp i}
section
variable{S:HS}{fl:Int->Bool}{id:Int}{x:Nat×SI}{I:SI}
def HInv.put(h:HInv S fl)(T:S.sp id=some x)(h1:I.base=x.2.base)(u:I.AD=x.2.AD)(v:I.state≠0):HInv (S.put id (x.1,I)) fl:=by
 refine⟨h.cr,h.cd,h.fn,λp O=> ?_,h.o0,h.li,h.cv,h.ks,h.la,h.rd,λi y j=> ?_,λi=> ?_,h.fb,h.pg,h.h0,h.h1⟩
 .obtain⟨a,b,c,y,j,J,K⟩:=h.ow p O;refine⟨a,b,c,?_⟩;by_cases e:S.own p=id
  .refine⟨(x.1,I),if_pos e,?_⟩
   grind
  .exact⟨y,(if_neg e).trans j,J,K⟩
 .have j:(if i=id then some (x.1,I)else S.sp i)=some y:=j;by_cases e:i=id
  .rw[if_pos e]at j;cases j;obtain⟨a,b,c,_,d⟩:=h.sp id x T;subst e;refine⟨a,by grind,by grind,v,?_⟩;rw[h1,u];exact d
  .rw[if_neg e]at j;exact h.sp i y j
 .show(if i=id then some (x.1,I)else S.sp i)≠none↔_;refine Iff.trans ?_ (h.sf i)
  grind
def HS.F9:(S.put id x).sp id=some x:=if_pos rfl
def HS.He{i:Int}(h:i≠id):(S.put id x).sp i=S.sp i:=if_neg h
end
section
variable{E:Env}{h:Nat}{S:HS}{Z:List Pr}{w:World}
def Oh{α:Type}: ∀{l:List α} {i:Nat} {x:α},l.Nodup->l[i]? =some x->x∉l.eraseIdx i
 | [],i,x,_,h=>by simp at h
 | y::l,0,x,a,h=>by grind
 | y::l,i+1,x,a,h=>by
  have a:=List.nodup_cons.1 a;have h:l[i]? =some x:=by grind
  have e:=Oh a.2 h
  grind
def Sat.sH(H:Sat (Ax E h S::Z) w){id:Int}{x:Nat×SI}(u:S.sp id=some x): ∃R:List Pr,Sat (Cm E x.1 x.2::(R++Z)) w/\ ∀{Y:List Pr} {I:SI} {w'},Sat (Cm E x.1 I::(R++Y)) w'->Sat (Ax E h (S.put id (x.1,I))::Y) w':=by
 obtain⟨g,hI,H⟩:=Sat.heap.1 H;have hm:id∈g.ids:=(hI.mem id).2 (by grind);obtain⟨i,hi⟩:=List.mem_iff_getElem?.1 hm;have H1:=(H.front 6 rfl).FQ hi;have e:spR E S.sp id=Cm E x.1 x.2:=by unfold spR;rw[u]
 rw[e]at H1;refine⟨Aj (spR E S.sp) (g.ids.eraseIdx i)::(Bf E h S g).eraseIdx 6,H1,λ{Y I w'} h'=>Sat.heap.2 ⟨g,⟨hI.nd,λj=> ?_⟩,?_⟩⟩
 .rw[hI.mem];show _↔(if j=id then some (x.1,I)else S.sp j)≠none
  grind
 .have e1:spR E (S.put id (x.1,I)).sp id=Cm E x.1 I:=by unfold spR;rw[HS.F9]
  have e2:Aj (spR E S.sp) (g.ids.eraseIdx i)=Aj (spR E (S.put id (x.1,I)).sp) (g.ids.eraseIdx i):=Aj.congr λj K=>by
   have:j≠id:=λe=>Oh hI.nd hi (e▸K);unfold spR;rw[HS.He this]
  rw[<-e1,e2]at h';have J:=Sat.Jb h' hi;have h3:=Sat.back (Ps:=Bf E h S g++Y) 6 J (by simp[Bf]);have v:Dl S.sp=Dl (S.put id (x.1,I)).sp:=by
   funext j;unfold Dl;by_cases e:j=id
   .rw[e,HS.F9,u];rfl
   .rw[HS.He e]
  have O:(Bf E h S g++Y).set 6 (Aj (spR E (S.put id (x.1,I)).sp) g.ids)=Bf E h (S.put id (x.1,I)) g++Y:=by
   show [Cells h E.Ab (BV g S.hint S.AD),B8 E g.m S.V,BG E g.t S.T,BR E g.a S.ks S.own,Gg E g.f S.fx,CM g.sm .i64 (Dl S.sp),_,_]++Y=_;rw[v];rfl
  grind
def Sat.kB(H:Sat (Ax E h S::Z) w){id:Int}{x:Nat×SI}(e:S.sp id=some x): ∃R:List Pr,Sat (Cm E x.1 x.2::R) w/\ ∀{I:SI} {w'},Sat (Cm E x.1 I::R) w'->Sat (Ax E h (S.put id (x.1,I))::Z) w':=
 let⟨R,a,b⟩:=H.sH e;⟨R++Z,a,b⟩
variable(hE:EnvA E)
include hE
end
inductive Oi:HS->Int->HS->Int->Prop
 | stop {S:HS} {n:Int} (h:n=0∨ ∀p,S.T.idle p=false):Oi S n S 0
 | step {S S':HS} {n p k m:Int} (h:rE S.T n p k) (r:Oi (S.OY p k) (n-k) S' m):Oi S n S' (k+m)
section
variable{E:Env}{h:Nat}{S:HS}{Z:List Pr}{w:World}{g:HG}
variable(hE:EnvA E)
include hE
theorem fV(H:Sat (Ax E h S::Z) w)(hI:HInv S no){n:Int}(n0:0<=n)(n1:n<18446744073709551616){K:Int->World->Prop}
  (hK: ∀S' m,Oi S n S' m->0<=m->m<=n->HInv S' no-> ∀w',Sat (Ax E h S'::Z) w'->K m w'):F.Cx E (sM h) n K w:=by
 unfold F.Cx T0.Cx;refine AM (λst w'=> ∃S1,0<=st.1/\st.1<=n/\HInv S1 no/\(∀S' m,Oi S1 st.1 S' m->Oi S n S' (n-st.1+m))/\Sat (Ax E h S1::Z) w') (λst _=>st.1.toNat) ⟨S,n0,Int.le_refl _,hI,λS' m u=>by show Oi S n S' (n-n+m);rw[show n-n+m=m by omega];exact u,H⟩ ?_;rintro⟨left,v⟩ _ w2 ⟨S1,l0,l1,j,Y,H2⟩;dsimp only at l0 l1 Y⊢;have J:(left=0∨ ∀p,S1.T.idle p=false)-> ∀w',Sat (Ax E h S1::Z) w'->K (u64 (n-left)) w':=λhz w' H'=>by
  rw[AP (n:=n-left)];have:=Y S1 0 (.stop hz);rw[Int.add_zero]at this;exact hK S1 _ this (by omega) (by omega) j w' H'
 refine AE (λaF=> ?_) λhz=>J (.inl (by omega)) w2 H2;have e:=H2.Bl;simp only[AK];obtain⟨t,R,c1,ht,hb⟩:=H2.Z6;refine⟨_,c1,mJ hE.toEnvS ht (by omega) (by omega) (λhz=>Aa rfl (J hz w2 H2)) λp k u w8 H8=>AR (by have:=u.k0;simpa using(by omega: ¬k=0)) ?_⟩;have k0:=u.k0;have kn:=u.kn;have H9:=hb H8;obtain⟨m,R2,c0,hm,aC⟩:=H9.sB;have O: ∀q,p<=q->q<p+k->0<=q/\q<34359738368:=λq a b=>e.tv.OZ q (e.tv.fi q (j.idle e (u.row q a b)).1);have b0:=O p (Int.le_refl _) (by omega);have b1:=O (p+k-1) (by omega) (by omega);refine⟨_,c0,eT hE.toEnvS hm b0.1 k0 (by omega) (λq a b=>(j.idle e (u.row q a b)).2.2.1) λaN aB=> ?_⟩;rw[AP (n:=left-k)];refine⟨⟨S1.OY p k,by show 0<=left-k;omega,by show left-k<=n;omega,j.OY e k0 u.row,λS' m' aD=> ?_,aC aB⟩,by show(left-k).toNat<left.toNat;omega⟩;have:=Y S' (k+m') (.step u aD);rw[show n-(left-k)+m'=n-left+(k+m') by omega];exact this
end
end Go.Sh
namespace Go.Sh
open Ieee
def rd(x:Nat):Datum:=double.read x
noncomputable def timesV(n r:Int):Int:=match Kl .mul (Ng n) r.toNat with
 | none=>0
 | some x=>bif (EN x 4895412794951729152==some .gt||EN x 4895412794951729152==some .eq)then 18446744073709551615 else bif (EN x 4607182418800017408==some .gt||EN x 4607182418800017408==some .eq)then(TX x).getD 0 else 0
def rd64:rd 4895412794951729152= .number false 4503599627370496 12:=by decide+kernel
def rd1:rd 4607182418800017408= .number false 4503599627370496 (-52):=by decide+kernel
def YD(x c:Nat):EN x c=(rd x).order (rd c):=Kk _
def yU(x:Nat):TX x=(rd x).toInt .zero:=Kk _
def cmp_ge{a b:Int}(h:((some (compare a b)==some Ordering.gt)||(some (compare a b)==some Ordering.eq))=true):b<=a:=by
 refine Classical.byContradiction λg=> ?_;have:compare a b= .lt:=Int.compare_eq_lt.2 (by omega);rw[this]at h;simp at h
def cmp_lt{a b:Int}(h: ¬((some (compare a b)==some Ordering.gt)||(some (compare a b)==some Ordering.eq))=true):a<b:=by
 refine Classical.byContradiction λg=>h ?_;by_cases e:a=b
 .have:compare a b= .eq:=Int.compare_eq_eq.2 e;rw[this];rfl
 .have:compare a b= .gt:=Int.compare_eq_gt.2 (by omega);rw[this];rfl
def VL(m u:Nat):signed false m u=((m*2^u:Nat):Int):=by unfold signed;rw[Nat.shiftLeft_eq];rfl
def sI(m u:Nat):signed true m u= -((m*2^u:Nat):Int):=by unfold signed;rw[Nat.shiftLeft_eq];rfl
def sJ(s:Bool)(n d:Nat):Toward.zero.cut s n d=n/2^(min d (n.log2+2)):=by
 unfold Toward.cut;simp only[Nat.shiftLeft_eq,Nat.one_mul,Bool.toNat_false,Nat.add_zero]
def cut_le{s:Bool}{n d B:Nat}(h:n<B*2^d)(a:0<B):Toward.zero.cut s n d<B:=by
 rw[sJ];by_cases e:d<=n.log2+2
 .rw[Nat.min_eq_left e];exact(Nat.div_lt_iff_lt_mul (Nat.pow_pos (by decide))).2 h
 .rw[Nat.min_eq_right (by omega)];have:n<2^(n.log2+2):=Nat.lt_of_lt_of_le Nat.lt_log2_self (Nat.pow_le_pow_right (by decide) (by omega));rw[Nat.div_eq_of_lt this];exact a
def nG(m:Nat)(i:Int):(Datum.number false m i).toInt .zero=some ((Toward.zero.cut false (m*2^i.toNat) (-i).toNat:Nat):Int):=by
 unfold Datum.toInt Datum.integral;simp only[VL,Nat.shiftLeft_eq,Nat.pow_zero,Nat.mul_one]
def YE{x:Nat}(h1:((EN x 4607182418800017408==some .gt)||(EN x 4607182418800017408==some .eq))=true)(j: ¬((EN x 4895412794951729152==some .gt)||(EN x 4895412794951729152==some .eq))=true):
  ∃k:Nat,TX x=some (k:Int)/\k<18446744073709551616:=by
 rw[YD,rd1]at h1;rw[YD,rd64]at j;rw[yU];generalize rd x=d at *
 cases d with
 | nan s t=>simp[Datum.order]at h1
 | infinity s=>
  cases s
  .simp[Datum.order]at j
  .simp[Datum.order]at h1
 | number s m i=>
  simp only[Datum.order]at h1 j;have u:=cmp_ge h1;have a:=cmp_lt j;rw[VL]at u a;cases s with
  | true=>
   rw[sI]at u;have:0<4503599627370496*2^(-52-min i (-52)).toNat:=Nat.mul_pos (by decide) (Nat.pow_pos (by decide));omega
  | false=>
   rw[VL]at a;have a:m*2^(i-min i 12).toNat<4503599627370496*2^(12-min i 12).toNat:=by exact_mod_cast a
   refine⟨_,nG m i,cut_le (B:=18446744073709551616) ?_ (by decide)⟩;by_cases hi:0<=i
   .rw[show(-i).toNat=0 by omega,Nat.pow_zero,Nat.mul_one];by_cases h12:i<=12
    .rw[Int.min_eq_left h12,show(i-i).toNat=0 by omega,Nat.pow_zero,Nat.mul_one]at a;have e:2^(12-i).toNat*2^i.toNat=2^12:=by rw[<-Nat.pow_add];congr 1;omega
     calc m*2^i.toNat<4503599627370496*2^(12-i).toNat*2^i.toNat:=Nat.mul_lt_mul_of_pos_right a (Nat.pow_pos (by decide))
      _=18446744073709551616:=by rw[Nat.mul_assoc,e]
    .rw[Int.min_eq_right (by omega),show(12-12:Int).toNat=0 by decide,Nat.pow_zero,Nat.mul_one]at a;have e:2^i.toNat=2^(i-12).toNat*2^12:=by rw[<-Nat.pow_add];congr 1;omega
     rw[e,<-Nat.mul_assoc]
     calc m*2^(i-12).toNat*2^12<4503599627370496*2^12:=Nat.mul_lt_mul_of_pos_right a (by decide)
      _=18446744073709551616:=by decide
   .rw[show i.toNat=0 by omega,Nat.pow_zero,Nat.mul_one];rw[Int.min_eq_left (by omega),show(i-i).toNat=0 by omega,Nat.pow_zero,Nat.mul_one,show(12-i).toNat=12+(-i).toNat by omega,Nat.pow_add,<-Nat.mul_assoc]at a;exact a
def XF(n r:Int):0<=timesV n r/\timesV n r<18446744073709551616:=by
 unfold timesV;cases Kl .mul (Ng n) r.toNat with
 | none=>exact⟨Int.le_refl _,by show(0:Int)<_;decide⟩
 | some x=>
  simp only;cases h2:(EN x 4895412794951729152==some .gt||EN x 4895412794951729152==some .eq)with
  | true=>exact⟨(by decide:(0:Int)<=18446744073709551615),(by decide:(18446744073709551615:Int)<18446744073709551616)⟩
  | false=>
   cases h1:(EN x 4607182418800017408==some .gt||EN x 4607182418800017408==some .eq)with
   | false=>exact⟨(by decide:(0:Int)<=0),(by decide:(0:Int)<18446744073709551616)⟩
   | true=>
    obtain⟨k,a,e⟩:=YE h1 (by rw[h2];decide);simp only[cond_false,cond_true];rw[a];exact⟨by show(0:Int)<=(k:Int);omega,by show(k:Int)<_;omega⟩
def rd_nan(t:Nat): ∃s f,rd (k6 t)= .nan s f:=by
 have h1:t %2<2:=Nat.mod_lt _ (by decide);have j:(t/2) %(2^52-1)<2^52-1:=Nat.mod_lt _ (by decide);unfold rd k6 Format.read;have e1:double.signWeight=9223372036854775808:=by decide
 have e2:double.binade=4503599627370496:=by decide
 have e:double.infRung=9218868437227405312:=by decide+kernel
 simp only[e1,e2,e];generalize t %2=a at *
 generalize (t/2) %(2^52-1)=b at *
 rw[if_neg (by omega),if_neg (by omega),if_neg (by omega)];exact⟨_,_,rfl⟩
def Tx(t c:Nat):EN (k6 t) c=none:=by
 rw[YD];obtain⟨s,f,h⟩:=rd_nan t;rw[h];cases rd c<;>rfl
end Go.Sh
namespace Go.Sh
open Ieee
def TG{n r:Int}(h:Kl .mul (Ng n) r.toNat=none):timesV n r=0:=by unfold timesV;rw[h]
end Go.Sh
namespace Go.Sh
open Ieee
end Go.Sh
namespace Go.Sh
open Ieee
end Go.Sh

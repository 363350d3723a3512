/- What the heap's laws share. No further condition. -/
import Derived.Test.YtnhmgaodhjgdaaaGreatDoorH
import Derived.Test.YtnhmgaodhjgdaaaGreatDoorY
import Derived.Test.YtnhmgaodhjgdaaaGreatDoorA
import Derived.Test.YtnhmgaodhjgdaaaGreatDoorC
import Derived.Test.YtnhmgaodhjgdaaaGreatDoorR
import Derived.Test.YtnhmgaodhjgdaaaGreatDoorM
set_option linter.all false
set_option maxRecDepth 50000
set_option maxHeartbeats 4000000
namespace Go.Sh
def Found.induct{P:HS->Prop}{S S2:HS}{p n page:Int}(hS:P S)(h1: ∀S i q,i<64->P S->P (S.fill i q))(K: ∀S i k n,P S->P (S.Lc i k n))(O: ∀S page n,P S->P (S.Ld page n))
  (T: ∀S V at_ N,P S->P (S.grown V at_ N))(Y: ∀S V,P S->P {S with V:=V})(h:Found S p n page S2):P S2:=by
 have u: ∀{i S1},i<64->Px S i S1->P S1:=λ{i S1} hi h=>by
  rcases h with ⟨_,q,_,rfl⟩|⟨_,rfl⟩
  .grind
  .exact hS
 have ht: ∀{S1},PS S p n S1->P S1:=λ{S1} h=>by
  rcases h with ⟨_,rfl⟩|⟨i,hi,_,_,h,_⟩
  .exact hS
  .exact u hi h
 obtain⟨S1,J,hm⟩:=h;have a:P S1:=by
  rcases J with (⟨e,i,k,hi,_,_,v,_,_,_,_,rfl⟩|⟨e,d,_,rfl⟩)|⟨e,m,d,_,⟨_,at_,_,rfl⟩,_,rfl⟩
  .grind
  .grind
  grind
 rcases hm with ⟨_,rfl⟩|⟨_,_,rfl⟩
 .exact a
 grind
structure Same(S S2:HS):Prop where
 sp:S2.sp=S.sp
 own:S2.own=S.own
 fx:S2.fx=S.fx
 AF:S2.AF=S.AF
def Found.same{S S2:HS}{p n page:Int}(h:Found S p n page S2):Same S S2:=
 h.induct (P:=Same S) ⟨rfl,rfl,rfl,rfl⟩ (λ_ _ _ _ h=>⟨h.sp,h.own,h.fx,h.AF⟩) (λ_ _ _ _ h=>⟨h.sp,h.own,h.fx,h.AF⟩) (λ_ _ _ h=>⟨h.sp,h.own,h.fx,h.AF⟩) (λ_ _ _ _ h=>⟨h.sp,h.own,h.fx,h.AF⟩) λ_ _ h=>⟨h.sp,h.own,h.fx,h.AF⟩
structure GA(S:HS)(b:Int):Prop where
 la: ∀p,mem S.V.laid p↔512<=p/\p<b
 b0:512<=b
 b1:b %512=0
 h0:0<=S.hint
 h1:S.hint<=b
 pl:S.V.pl=[]
 rf:S.V.rf=[]
def GA.new(fl:List Int):GA (HS.new (Lo [] [] fl)) 512:=⟨λp=>⟨λh=>absurd h (DL p),λh=>by omega⟩,Int.le_refl _,rfl,Int.le_refl _,by show(0:Int)<=512;decide,rfl,rfl⟩
section
variable{S S2:HS}{b p n page:Int}
def pQ(n:Int):n<=Le n/\Le n<n+512/\Le n %512=0:=by unfold Le;omega
def GA.cY(h:GA S b){hint N at_:Int}(u:0<N)(a:hint<=b)(hp:Pt S.V.laid hint N at_):at_=b:=by
 have h1:=hp.low;have e:=hp.mul;have b0:=h.b0;have b1:=h.b1;by_cases g:b<at_
 .obtain⟨m,m1,v,d⟩:=hp.first b b1 b0 a g;have:=(h.la m).1 d;omega
 .by_cases g2:at_<b
  .exact absurd ((h.la at_).2 ⟨h1,g2⟩) (hp.free at_ (Int.le_refl _) (by omega))
  .omega
def GA.chosen(h:GA S b){N at_:Int}(a:0<N)(d:Pu S.V S.hint N at_):at_=b:=by
 have:=h.h0;have:=h.h1;rcases d with ⟨p,r,e,_⟩|⟨_,⟨_,h1,_⟩|⟨_,_,h1,_⟩⟩
 .rw[h.pl]at e;cases e
 .exact h.cY a (by omega) h1
 .exact h.cY a (by have:=h.b0;omega) h1
def GA.pR(h:GA S b){N:Int}(d:0<N)(e:b+N<=34359738368)(hu:UU S.V S.hint N):False:=by
 have:=h.h1;obtain⟨_,g|⟨a,g1,g2⟩,_⟩:=hu
 .omega
 .have:=h.cY d h.h1 g1;omega
def GA.gX(h:GA S b)(a:S2.V=S.V)(d:S2.hint=S.hint):GA S2 b:=⟨by rw[a];exact h.la,h.b0,h.b1,by rw[d];exact h.h0,by rw[d];exact h.h1,by rw[a];exact h.pl,by rw[a];exact h.rf⟩
def Px.V{i:Nat}(h:Px S i S2):S2.V=S.V/\S2.hint=S.hint:=by
 rcases h with ⟨_,q,_,rfl⟩|⟨_,rfl⟩<;>exact⟨rfl,rfl⟩
def PS.V(h:PS S p n S2):S2.V=S.V/\S2.hint=S.hint:=by
 rcases h with ⟨_,rfl⟩|⟨i,_,_,_,h,_⟩
 .grind
 .exact h.V
def SZ.pS(a:SZ S)(h:PS S p n S2):Ok S2.V.laid:=by rw[h.V.1];exact a.vv.o7
def GA.grew'(h:GA S b)(e:Ok S.V.laid)(u:1<=n)(d:vS S n S2)(m:b+Le n<=34359738368):GA S2 (b+Le n)/\S2=S.grown {S.V with rf:=S.V.rf.tail,pl:=S.V.pl.tail,laid:=ES S.V.laid b (b+Le n)} b (Le n):=by
 obtain⟨_,at_,a,rfl⟩:=d;have hu:=pQ n;have b0:=h.b0;have b1:=h.b1;have:=h.chosen (by omega) a;subst this;refine⟨⟨λq=> ?_,by omega,by omega,by show 0<=at_+Le n;omega,Int.le_refl _,by show S.V.pl.tail=[];rw[h.pl];rfl,by show S.V.rf.tail=[];rw[h.rf];rfl⟩,rfl⟩;refine(GI e (by omega) (by omega) (by omega) q).trans ?_;rw[h.la];omega
def FrR(S:HS)(a b:Int):Prop:= ∀p,S.T.fr p=true↔a<=p/\p<b
end
def Un(i:Nat){t:Nat}{Ps:List Pr}{w:World}{K:Nat->World->Prop}(H:Sat Ps w)(hi:Ps[i]? =some YZ)(d: ∀b w',Sat (Ps.set i (Row t 1 ⟨some ⟨b,0,none⟩,0,0⟩ [])) w'->K b w'):AL (.cells ⟨[]⟩ t) w K:=
 Lw (n:=0) (z:=1) (H.front i hi).tail rfl (by decide) λb w' a=>d b w' (Sat.back i a (List.getElem?_eq_some_iff.1 hi).1)
def Mg(i:Nat){t bytes b:Nat}{zs:Array Value}{a:AW}{vs:List Value}{Ps:List Pr}{w:World}{K:AW->World->Prop}(H:Sat Ps w)(hi:Ps[i]? =some (Row t 1 ⟨some ⟨b,0,none⟩,0,0⟩ []))(hz:zs.size=1)
  (d: ∀w',Sat (Ps.eraseIdx i) w'->rowAt w' a.base a.len vs)(J:vs.length=a.len)(hlen:a.len<=1099511627776)(e:bytes<=8)(ho: ∀v∈vs,v.oneCell'=true)(u: ∀s' w',Sat (Ps.set i (Row t 1 s' vs)) w'->K s' w'):
  APP t 1 bytes zs ⟨some ⟨b,0,none⟩,0,0⟩ a w K:=by
 have hm:(0+a.len)*bytes<=1099511627776*8:=Nat.mul_le_mul (by omega) e;exact Om (H.front i hi) hz (by simpa using d w (H.front i hi).tail) (by omega) ho (by grind) (by grind) λs' w' m _=>u s' w' (Sat.back i m (List.getElem?_eq_some_iff.1 hi).1)
def Q9(k:IntKind)(l:List Int): ∀v∈ints k l,v.oneCell'=true:=by intro v a;simp[ints]at a;obtain⟨x,_,rfl⟩:=a;rfl
def k6(l:List Bool): ∀v∈F8 l,v.oneCell'=true:=by intro v a;simp[F8]at a;rcases a with ⟨_,rfl⟩|⟨_,rfl⟩<;>rfl
section
variable{E:Env}{b c:Nat}{V:VS}{Z Rs:List Pr}{w:World}
def Uo{b1 b3 t1 t3:Nat}{us:List Value}{s0 s1 s2:AW}{r0 r1 O:List Value}{K:AW->AW->AW->World->Prop}
  (T: ∀s0 s1 s2 w',Sat (Row E.AE 1 s0 r0::Row E.Bb 1 s1 r1::Row E.AE 1 s2 O::Rs) w'->K s0 s1 s2 w')
  (H:Sat (Cells b1 t1 us::Row E.AE 1 s0 r0::Row E.Bb 1 s1 r1::Row E.AE 1 s2 O::Cells b3 t3 [.slice none 0 0,.slice none 0 0,.slice none 0 0]::Rs) w):
  stCells (Addr.mk b3 0 none) 0 [.slice s0.base s0.len s0.cap,.slice s1.base s1.len s1.cap,.slice s2.base s2.len s2.cap] w λm=>
     ∃a:AW,m.cell? ((Addr.mk b3 0 none).add 0)=some (.slice a.base a.len a.cap)/\
     ∃d:AW,m.cell? ((Addr.mk b3 0 none).add 1)=some (.slice d.base d.len d.cap)/\
     ∃e:AW,m.cell? ((Addr.mk b3 0 none).add 2)=some (.slice e.base e.len e.cap)/\
     K a d e m:=by
 refine CN (news:=[.slice s0.base s0.len s0.cap,.slice s1.base s1.len s1.cap,.slice s2.base s2.len s2.cap]) (H.tail.front 3 rfl) rfl (by intro v J;simp at J;rcases J with rfl|rfl|rfl<;>rfl) λw' u=>⟨s0,u.cell rfl,s1,u.cell rfl,s2,u.cell rfl,T _ _ _ _ u.tail⟩
end
section
variable{E:Env}{w:World}{Rs Z:List Pr}
def CF.Lo(pl:List Int)(rf:List Bool)(fl:List Int):CF (HS.new (Go.Sh.Lo pl rf fl)) no:=CF.new rfl rfl
variable(hE:EnvA E)
include hE
end
section
variable{S S2:HS}{i k:Nat}{page:Int}
def GA.GW{b:Int}(h:GA S b)(id:Int)(x:Nat×SI)(pg n:Int)(X:FX):GA (S.GW id x pg n X) b:=⟨h.la,h.b0,h.b1,h.h0,h.h1,h.pl,h.rf⟩
end
section
variable{E:Env}{w:World}{Rs Z:List Pr}(hE:EnvA E)
include hE
end
def HS.aD(S:HS):HS:={S with V:={S.V with rf:=[]}}
section
variable{S S2:HS}{n page:Int}
variable{i:Nat}{next b:Int}{rf:List Bool}
end
def cZ: ∀(N:Nat) (l:List Int),l.Nodup->(∀n∈l,0<n/\n<=N)->l.length<=N
 | 0,[],_,_=>Nat.le_refl _
 | 0,n::_,_,h=>by have:=h n List.mem_cons_self;omega
 | N+1,l,hn,h=>by
  by_cases hm:((N+1:Nat):Int)∈l
  .have d:=cZ N (l.erase ((N+1:Nat):Int)) (hn.erase _) λn a=>by grind
   grind
  .have d:=cZ N l hn λn a=>by grind
   omega
def W_not(u:Nat->Bool):DQ .u64 2 18446744073709551615 (W u)=W λi=> !u i:=by
 rw[<-Ws];show IntKind.wrap .u64 ((BitVec.ofInt 64 (W λ_=>true)^^^BitVec.ofInt 64 (W u)).toNat:Int)=_;rw[BitVec.toNat_xor,xM,xM];have e:wN (λ_=>true) 64^^^wN u 64=wN (λi=> !u i) 64:=by
  refine Nat.eq_of_testBit_eq λi=> ?_;rw[Nat.testBit_xor,DV,DV,DV]
  grind
 rw[e,T7 (PK _ 64)];rfl
def yC{n:Nat}(h:n<64):u64 (1*2^(min (Int.toNat (n:Int)) (IntKind.bits .u64)))=W λi=>i==n:=by
 have e:=mY (λi=>i==0) (n:=(n:Int)) (by omega) (by omega);rw[mU]at e
 grind
def dA{n:Nat}(h:n<64):u64 ((u64 (1*2^(min (Int.toNat (n:Int)) (IntKind.bits .u64))))-1)=W λi=>decide (i<n):=by
 have e:wN (λi=>i==n) 64=2^n:=by
  refine Nat.eq_of_testBit_eq λi=> ?_;rw[DV,Nat.testBit_two_pow]
  grind
 have a:wN (λi=>decide (i<n)) 64=2^n-1:=by
  refine Nat.eq_of_testBit_eq λi=> ?_;rw[DV,Nat.testBit_two_pow_sub_one]
  grind
 rw[yC h];unfold W;rw[e,a];have h1:0<2^n:=Nat.pow_pos (by decide);have d:2^n<=2^63:=Nat.pow_le_pow_right (by decide) (by omega);rw[AR];omega
def pT{u:Nat->Bool}{i:Nat}(hu:u i=false): ∀n,cN (λj=>u j||j==i) n=cN u n+(if i<n then 1 else 0)
 | 0=>rfl
 | n+1=>by
  simp only[cN,pT hu n];by_cases e:n=i
  .grind
  grind
section
variable{E:Env}{w:World}{Z:List Pr}{s:AW}{uw:List Int}{U:Nat->Bool}
def SI.set(S:SI)(U:Nat->Bool)(n:Nat):SI:={S with uw:=[W λi=>U i||i==n],used:=S.used+1,look:=(n:Int)+1}
def SI.aD(S:SI)(U:Nat->Bool)(n:Nat):SI:={S with uw:=[W λi=>U i&& !(i==n)],used:=S.used-1,look:=VQ S.look n}
section
variable{b:Nat}{S:SI}
def RA(H:Sat (Cb E b S::Z) w){i:Int}{K:Bool->World->Prop}(a:K (decide (0<=i/\i<S.AP)) w):F.EL E (some ⟨b,0,none⟩) i K w:=by
 obtain⟨d,sm,H⟩:=Sat.span.1 H;unfold F.EL;simp only[AK];refine AG (λg=>⟨_,H.cell rfl,?_⟩) λg=> ?_
 .rw[show decide (i<S.AP)=decide (0<=i/\i<S.AP)from decide_eq_decide.2 (by omega)];exact a
 .rw[decide_eq_false (by omega)]at a;exact a
def Sc(H:Sat (Cb E b S::Z) w){i:Int}(h0:0<=i)(h1:i<S.AP){K:Int->Int->World->Prop}(a: ∀w',Sat (Cb E b S::Z) w'->K (u64 (S.base+u64 (u64 i*u64 S.elem))) 0 w'):F.CR E (some ⟨b,0,none⟩) i K w:=by
 unfold F.CR T0.CR;refine RA H ?_;rw[decide_eq_true ⟨h0,h1⟩];refine AO rfl ?_;obtain⟨e,sm,H⟩:=Sat.span.1 H;simp only[AK];exact⟨_,H.drew.AU rfl,_,H.drew.cell rfl,Ac λt d=>by rw[d];exact a _ (Sat.span.2 ⟨e,sm,H.drew⟩)⟩
end
end
def HS.put(S:HS)(id:Int)(x:Nat×SI):HS:={S with sp:=λi=>if i=id then some x else S.sp i}
section
variable{S:HS}{fl:Int->Bool}{id:Int}{x:Nat×SI}{I:SI}
def CF.put(h:CF S fl)(O:S.sp id=some x)(h1:I.base=x.2.base)(u:I.AF=x.2.AF)(v:I.state≠0):CF (S.put id (x.1,I)) fl:=by
 refine⟨h.cr,h.cd,h.fn,λp hp=> ?_,h.o0,h.li,h.cv,h.ks,h.la,h.rd,λi y m=> ?_,λi=> ?_,h.fb,h.pg,h.h0,h.h1⟩
 .obtain⟨a,b,c,y,m,J,K⟩:=h.ow p hp;refine⟨a,b,c,?_⟩;by_cases e:S.own p=id
  .refine⟨(x.1,I),if_pos e,?_⟩
   grind
  .exact⟨y,(if_neg e).trans m,J,K⟩
 .have m:(if i=id then some (x.1,I)else S.sp i)=some y:=m;by_cases e:i=id
  .rw[if_pos e]at m;cases m;obtain⟨a,b,c,_,d⟩:=h.sp id x O;subst e;refine⟨a,by grind,by grind,v,?_⟩;rw[h1,u];exact d
  .rw[if_neg e]at m;exact h.sp i y m
 .show(if i=id then some (x.1,I)else S.sp i)≠none↔_;refine Iff.trans ?_ (h.sf i)
  grind
def HS.Fv:(S.put id x).sp id=some x:=if_pos rfl
def HS.HU{i:Int}(h:i≠id):(S.put id x).sp i=S.sp i:=if_neg h
end
section
variable{E:Env}{h:Nat}{S:HS}{Z:List Pr}{w:World}
def OL{α:Type}: ∀{l:List α} {i:Nat} {x:α},l.Nodup->l[i]? =some x->x∉l.eraseIdx i
 | [],i,x,_,h=>by simp at h
 | y::l,0,x,a,h=>by grind
 | y::l,i+1,x,a,h=>by
  have a:=List.nodup_cons.1 a;have h:l[i]? =some x:=by grind
  have d:=OL a.2 h
  grind
def Sat.pU(H:Sat (BF E h S::Z) w){id:Int}{x:Nat×SI}(d:S.sp id=some x): ∃R:List Pr,Sat (Cb E x.1 x.2::(R++Z)) w/\ ∀{Y:List Pr} {I:SI} {w'},Sat (Cb E x.1 I::(R++Y)) w'->Sat (BF E h (S.put id (x.1,I))::Y) w':=by
 obtain⟨g,hI,H⟩:=Sat.heap.1 H;have hm:id∈g.ids:=(hI.mem id).2 (by grind);obtain⟨i,hi⟩:=List.mem_iff_getElem?.1 hm;have H1:=(H.front 6 rfl).FO hi;have e:spR E S.sp id=Cb E x.1 x.2:=by unfold spR;rw[d]
 rw[e]at H1;refine⟨Al (spR E S.sp) (g.ids.eraseIdx i)::(Bz E h S g).eraseIdx 6,H1,λ{Y I w'} h'=>Sat.heap.2 ⟨g,⟨hI.nd,λj=> ?_⟩,?_⟩⟩
 .rw[hI.mem];show _↔(if j=id then some (x.1,I)else S.sp j)≠none
  grind
 .have u:spR E (S.put id (x.1,I)).sp id=Cb E x.1 I:=by unfold spR;rw[HS.Fv]
  have v:Al (spR E S.sp) (g.ids.eraseIdx i)=Al (spR E (S.put id (x.1,I)).sp) (g.ids.eraseIdx i):=Al.congr λj O=>by
   have:j≠id:=λe=>OL hI.nd hi (e▸O);unfold spR;rw[HS.HU this]
  rw[<-u,v]at h';have K:=Sat.Jb h' hi;have h3:=Sat.back (Ps:=Bz E h S g++Y) 6 K (by simp[Bz]);have J:Dc S.sp=Dc (S.put id (x.1,I)).sp:=by
   funext j;unfold Dc;by_cases e:j=id
   .rw[e,HS.Fv,d];rfl
   .rw[HS.HU e]
  have e4:(Bz E h S g++Y).set 6 (Al (spR E (S.put id (x.1,I)).sp) g.ids)=Bz E h (S.put id (x.1,I)) g++Y:=by
   show [Cells h E.Ad (BX g S.hint S.AF),Bj E g.m S.V,BR E g.t S.T,Bq E g.a S.ks S.own,Gi E g.f S.fx,CH g.sm .i64 (Dc S.sp),_,_]++Y=_;rw[J];rfl
  grind
def Sat.gY(H:Sat (BF E h S::Z) w){id:Int}{x:Nat×SI}(d:S.sp id=some x): ∃R:List Pr,Sat (Cb E x.1 x.2::R) w/\ ∀{I:SI} {w'},Sat (Cb E x.1 I::R) w'->Sat (BF E h (S.put id (x.1,I))::Z) w':=
 let⟨R,a,b⟩:=H.pU d;⟨R++Z,a,b⟩
variable(hE:EnvA E)
include hE
end
end Go.Sh
namespace Go.Sh
open Ieee
def rd(x:Nat):Datum:=double.read x
noncomputable def timesV(n r:Int):Int:=match JW .mul (Lr n) r.toNat with
 | none=>0
 | some x=>bif (E6 x 4895412794951729152==some .gt||E6 x 4895412794951729152==some .eq)then 18446744073709551615 else bif (E6 x 4607182418800017408==some .gt||E6 x 4607182418800017408==some .eq)then(WZ x).getD 0 else 0
def rd64:rd 4895412794951729152= .number false 4503599627370496 12:=by decide+kernel
def rd1:rd 4607182418800017408= .number false 4503599627370496 (-52):=by decide+kernel
def O1(x c:Nat):E6 x c=(rd x).order (rd c):=J0 _
def vT(x:Nat):WZ x=(rd x).toInt .zero:=J0 _
def cmp_ge{a b:Int}(h:((some (compare a b)==some Ordering.gt)||(some (compare a b)==some Ordering.eq))=true):b<=a:=by
 refine Classical.byContradiction λg=> ?_;have:compare a b= .lt:=Int.compare_eq_lt.2 (by omega);rw[this]at h;simp at h
def cmp_lt{a b:Int}(h: ¬((some (compare a b)==some Ordering.gt)||(some (compare a b)==some Ordering.eq))=true):a<b:=by
 refine Classical.byContradiction λg=>h ?_;by_cases e:a=b
 .have:compare a b= .eq:=Int.compare_eq_eq.2 e;rw[this];rfl
 .have:compare a b= .gt:=Int.compare_eq_gt.2 (by omega);rw[this];rfl
def vU{a b:Int}(h:a<b):((some (compare a b)==some Ordering.gt)||(some (compare a b)==some Ordering.eq))=false:=by
 have:compare a b= .lt:=Int.compare_eq_lt.2 h;rw[this];rfl
def RB(m u:Nat):signed false m u=((m*2^u:Nat):Int):=by unfold signed;rw[Nat.shiftLeft_eq];rfl
def ZK(m u:Nat):signed true m u= -((m*2^u:Nat):Int):=by unfold signed;rw[Nat.shiftLeft_eq];rfl
def pV(s:Bool)(n d:Nat):Toward.zero.cut s n d=n/2^(min d (n.log2+2)):=by
 unfold Toward.cut;simp only[Nat.shiftLeft_eq,Nat.one_mul,Bool.toNat_false,Nat.add_zero]
def cut_le{s:Bool}{n d B:Nat}(h:n<B*2^d)(a:0<B):Toward.zero.cut s n d<B:=by
 rw[pV];by_cases e:d<=n.log2+2
 .rw[Nat.min_eq_left e];exact(Nat.div_lt_iff_lt_mul (Nat.pow_pos (by decide))).2 h
 .rw[Nat.min_eq_right (by omega)];have:n<2^(n.log2+2):=Nat.lt_of_lt_of_le Nat.lt_log2_self (Nat.pow_le_pow_right (by decide) (by omega));rw[Nat.div_eq_of_lt this];exact a
def k7(m:Nat)(i:Int):(Datum.number false m i).toInt .zero=some ((Toward.zero.cut false (m*2^i.toNat) (-i).toNat:Nat):Int):=by
 unfold Datum.toInt Datum.integral;simp only[RB,Nat.shiftLeft_eq,Nat.pow_zero,Nat.mul_one]
def gZ{x:Nat}(h1:((E6 x 4607182418800017408==some .gt)||(E6 x 4607182418800017408==some .eq))=true)(u: ¬((E6 x 4895412794951729152==some .gt)||(E6 x 4895412794951729152==some .eq))=true):
  ∃k:Nat,WZ x=some (k:Int)/\k<18446744073709551616:=by
 rw[O1,rd1]at h1;rw[O1,rd64]at u;rw[vT];generalize rd x=d at *
 cases d with
 | nan s t=>simp[Datum.order]at h1
 | infinity s=>
  cases s
  .simp[Datum.order]at u
  .simp[Datum.order]at h1
 | number s m i=>
  simp only[Datum.order]at h1 u;have v:=cmp_ge h1;have a:=cmp_lt u;rw[RB]at v a;cases s with
  | true=>
   rw[ZK]at v;have:0<4503599627370496*2^(-52-min i (-52)).toNat:=Nat.mul_pos (by decide) (Nat.pow_pos (by decide));omega
  | false=>
   rw[RB]at a;have a:m*2^(i-min i 12).toNat<4503599627370496*2^(12-min i 12).toNat:=by exact_mod_cast a
   refine⟨_,k7 m i,cut_le (B:=18446744073709551616) ?_ (by decide)⟩;by_cases hi:0<=i
   .rw[show(-i).toNat=0 by omega,Nat.pow_zero,Nat.mul_one];by_cases h12:i<=12
    .rw[Int.min_eq_left h12,show(i-i).toNat=0 by omega,Nat.pow_zero,Nat.mul_one]at a;have e:2^(12-i).toNat*2^i.toNat=2^12:=by rw[<-Nat.pow_add];congr 1;omega
     calc m*2^i.toNat<4503599627370496*2^(12-i).toNat*2^i.toNat:=Nat.mul_lt_mul_of_pos_right a (Nat.pow_pos (by decide))
      _=18446744073709551616:=by rw[Nat.mul_assoc,e]
    .rw[Int.min_eq_right (by omega),show(12-12:Int).toNat=0 by decide,Nat.pow_zero,Nat.mul_one]at a;have e:2^i.toNat=2^(i-12).toNat*2^12:=by rw[<-Nat.pow_add];congr 1;omega
     rw[e,<-Nat.mul_assoc]
     calc m*2^(i-12).toNat*2^12<4503599627370496*2^12:=Nat.mul_lt_mul_of_pos_right a (by decide)
      _=18446744073709551616:=by decide
   .rw[show i.toNat=0 by omega,Nat.pow_zero,Nat.mul_one];rw[Int.min_eq_left (by omega),show(i-i).toNat=0 by omega,Nat.pow_zero,Nat.mul_one,show(12-i).toNat=12+(-i).toNat by omega,Nat.pow_add,<-Nat.mul_assoc]at a;exact a
def WH(n r:Int):0<=timesV n r/\timesV n r<18446744073709551616:=by
 unfold timesV;cases JW .mul (Lr n) r.toNat with
 | none=>exact⟨Int.le_refl _,by show(0:Int)<_;decide⟩
 | some x=>
  simp only;cases h2:(E6 x 4895412794951729152==some .gt||E6 x 4895412794951729152==some .eq)with
  | true=>exact⟨(by decide:(0:Int)<=18446744073709551615),(by decide:(18446744073709551615:Int)<18446744073709551616)⟩
  | false=>
   cases h1:(E6 x 4607182418800017408==some .gt||E6 x 4607182418800017408==some .eq)with
   | false=>exact⟨(by decide:(0:Int)<=0),(by decide:(0:Int)<18446744073709551616)⟩
   | true=>
    obtain⟨k,a,d⟩:=gZ h1 (by rw[h2];decide);simp only[cond_false,cond_true];rw[a];exact⟨by show(0:Int)<=(k:Int);omega,by show(k:Int)<_;omega⟩
def rd_nan(t:Nat): ∃s f,rd (mH t)= .nan s f:=by
 have h1:t %2<2:=Nat.mod_lt _ (by decide);have u:(t/2) %(2^52-1)<2^52-1:=Nat.mod_lt _ (by decide);unfold rd mH Format.read;have d:double.signWeight=9223372036854775808:=by decide
 have e:double.binade=4503599627370496:=by decide
 have m:double.infRung=9218868437227405312:=by decide+kernel
 simp only[d,e,m];generalize t %2=a at *
 generalize (t/2) %(2^52-1)=b at *
 rw[if_neg (by omega),if_neg (by omega),if_neg (by omega)];exact⟨_,_,rfl⟩
def hZ(t c:Nat):E6 (mH t) c=none:=by
 rw[O1];obtain⟨s,f,h⟩:=rd_nan t;rw[h];cases rd c<;>rfl
end Go.Sh
namespace Go.Sh
open Ieee
def dsw:double.signWeight=9223372036854775808:=by decide
def dbi:double.binade=4503599627370496:=by decide
def dir:double.infRung=9218868437227405312:=by decide+kernel
def dlp:double.leastPlace= -1074:=by decide
def Py(a b:Nat):JW .mul a b=((rd a).product (rd b)).map double.write:=J0 _
def vV(x:Nat):rd x=if x %9223372036854775808<4503599627370496 then .number (x/9223372036854775808 %2==1) (x %9223372036854775808) (-1074)else
  if x %9223372036854775808<9218868437227405312 then .number (x/9223372036854775808 %2==1) (4503599627370496+x %9223372036854775808 %4503599627370496) (-1074+((x %9223372036854775808/4503599627370496-1:Nat):Int))else
  if x %9223372036854775808=9218868437227405312 then .infinity (x/9223372036854775808 %2==1)else .nan (x/9223372036854775808 %2==1) (x %9223372036854775808-9218868437227405312):=by
 unfold rd Format.read;simp only[dsw,dbi,dir,dlp]
def OM{n r:Int}(h:JW .mul (Lr n) r.toNat=none):timesV n r=0:=by unfold timesV;rw[h]
def Up{n r:Int}{x:Nat}(h:JW .mul (Lr n) r.toNat=some x)(a:(E6 x 4895412794951729152==some .gt||E6 x 4895412794951729152==some .eq)=false)(h1:(E6 x 4607182418800017408==some .gt||E6 x 4607182418800017408==some .eq)=false):timesV n r=0:=by
 unfold timesV;rw[h];simp only[h1,a,cond_false]
def iA{x:Nat}(e:(∃m i,rd x= .number true m i)∨rd x= .infinity true)(c:Nat)(a: ∃m i,0<m/\rd c= .number false m i):(E6 x c==some .gt||E6 x c==some .eq)=false:=by
 obtain⟨k,j,d,a⟩:=a;rw[O1,a];rcases e with ⟨m,i,h⟩|h
 .rw[h];refine vU ?_;rw[RB,ZK];have:0<k*2^(j-min i j).toNat:=Nat.mul_pos d (Nat.pow_pos (by decide));have h0:0<=m*2^(i-min i j).toNat:=Nat.zero_le _;omega
 .rw[h];rfl
def pW(R:Nat)(h:R<=9218868437227405312):(∃m i,rd (double.word true R)= .number true m i)∨rd (double.word true R)= .infinity true:=by
 have e:double.word true R=9223372036854775808+R:=by unfold Format.word;rw[dsw];rfl
 rw[e,vV,show(9223372036854775808+R) %9223372036854775808=R by omega,show(9223372036854775808+R)/9223372036854775808 %2=1 by omega];by_cases h1:R<4503599627370496
 .rw[if_pos h1];exact .inl ⟨_,_,rfl⟩
 .rw[if_neg h1];by_cases h2:R<9218868437227405312
  .rw[if_pos h2];exact .inl ⟨_,_,rfl⟩
  .rw[if_neg h2,if_pos (by omega)];exact .inr rfl
def pos1: ∃m i,0<m/\rd 4607182418800017408= .number false m i:=⟨_,_,by decide,rd1⟩
def pos64: ∃m i,0<m/\rd 4895412794951729152= .number false m i:=⟨_,_,by decide,rd64⟩
end Go.Sh
namespace Go.Sh
open Ieee
end Go.Sh
namespace Go.Sh
open Ieee
def rd00:rd 0= .number false 0 (-1074):=by decide+kernel
def ord0a:(((rd 0).order (rd 4895412794951729152)==some .gt)||((rd 0).order (rd 4895412794951729152)==some .eq))=false:=by decide+kernel
def ord0b:(((rd 0).order (rd 4607182418800017408)==some .gt)||((rd 0).order (rd 4607182418800017408)==some .eq))=false:=by decide+kernel
def dB(n:Int):timesV n 0=0:=by
 have d:(0:Int).toNat=0:=rfl;cases hq:rd (Lr n)with
 | nan s f=>exact OM (by rw[Py,d,hq];rfl)
 | infinity s=>
  refine OM ?_;rw[Py,d,hq,rd00];simp[Datum.product]
 | number s m i=>
  have a:JW .mul (Lr n) (0:Int).toNat=some (double.write (.number (s^^false) (m*0) (i+ -1074))):=by
   rw[Py,d,hq,rd00];rfl
  have hw:double.write (.number (s^^false) (m*0) (i+ -1074))=double.word s 0:=by
   show double.nearest (s^^false) (m*0) (i+ -1074)=_;unfold Format.nearest;rw[if_pos (by simp),Bool.xor_false]
  rw[hw]at a;cases s with
  | false=>
   have a:JW .mul (Lr n) (0:Int).toNat=some 0:=a;exact Up a (by rw[O1];exact ord0a) (by rw[O1];exact ord0b)
  | true=>
   have e:=pW 0 (by decide);exact Up a (iA e _ pos64) (iA e _ pos1)
end Go.Sh

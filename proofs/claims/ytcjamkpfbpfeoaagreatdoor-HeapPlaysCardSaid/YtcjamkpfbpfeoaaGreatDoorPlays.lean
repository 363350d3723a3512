/- The law HeapPlays holds (its card: math/bits' table as the program's text lays it): for every input the Go function returns true and leaves its arguments alone. No further condition. -/
import Derived.Test.YtcjamkpfbpfeoaaGreatDoorJ
import Derived.Test.YtcjamkpfbpfeoaaGreatDoorL
import Derived.Test.YtcjamkpfbpfeoaaGreatDoorK
import Derived.Test.YtcjamkpfbpfeoaaGreatDoorQ
import Derived.Test.YtcjamkpfbpfeoaaGreatDoorA
import Derived.Test.YtcjamkpfbpfeoaaGreatDoorCards
import Derived.Test.YtcjamkpfbpfeoaaGreatDoorTie
import Derived.WalkKit
import Derived.ProofKit
import Derived.OpenShut
import Derived.Deep.DeepHandedRow
import Derived.Lib.LaidTab
set_option linter.all false
set_option maxRecDepth 8000
set_option maxHeartbeats 4000000
namespace Go.Sh
def JP(S:HS)(um:TH):Prop:= ∀id x,S.sp id=some x->Ry x.2 (um id).1 (um id).2/\x.2.f8=false/\x.2.f9=false
theorem wJ(n:Nat):cN NI n=0:=by
 have:=OI (U:=NI) (n:=0) (fun _ _=>rfl) n;rwa[Nat.zero_add]at this
theorem ZM{S:SI}(h1:S.uw=[])(d:S.mw=[])(y:S.used=0)(v:S.look=0)(j:0<=S.Ar/\S.Ar<=137438953472):Ry S NI NI:=
 ⟨by rw[h1];exact O3 fun _=>rfl,by rw[d];exact O3 fun _=>rfl,by rw[h1];show(0:Int)*64<=_;omega,by rw[d];show(0:Int)*64<=_;omega,fun i h=>(by cases h),fun i h=>(by cases h),j,by rw[y,wJ];rfl,by rw[v];exact⟨Int.le_refl _,j.1,fun i hi=>by omega⟩⟩
theorem gS{page n c:Int}{d:Bool}(j: ¬E7 page n c):Ry (IX page n c d) NI NI:=by
 unfold E7 at j;refine ZM rfl rfl rfl rfl ?_;show 0<=(if c=0 then 1 else(E3 c).2.2.1)/\(if c=0 then 1 else(E3 c).2.2.1)<=137438953472;by_cases e:c=0
 ·rw[if_pos e];omega
 ·rw[if_neg e];have:=WH (c:=c) (by omega) (by omega);omega
theorem bA{page n el:Int}(d: ¬E4 n el):Ry (RQ page n el) NI NI:=by
 unfold E4 at d;refine ZM rfl rfl rfl rfl ?_;show 0<=n*8192/el/\n*8192/el<=137438953472;refine⟨Int.ediv_nonneg (by omega) (by omega),?_⟩;have:n*8192/el<137438953473:=Int.ediv_lt_of_lt_mul (by omega) (by
  have:137438953473*8<=137438953473*el:=Int.mul_le_mul_of_nonneg_left (by omega) (by decide);omega)
 omega
theorem JP.DP{S:HS}{um:TH}(h:JP S um){id page n:Int}{X:FX}{b:Nat}{I:SI}(v:Ry I NI NI)(y:I.f8=false)(C:I.f9=false):JP (S.DP id (b,I) page n X) (HT um id NI NI):=by
 intro j x d;have d:(if j=id then some (b,I)else S.sp j)=some x:=d;unfold HT;by_cases e:j=id
 ·rw[if_pos e]at d⊢;cases d;exact⟨v,y,C⟩
 ·rw[if_neg e]at d⊢;exact h j x d
theorem JP.put{S:HS}{um:TH}(h:JP S um){id:Int}{b:Nat}{I:SI}{U M:Nat->Bool}(v:Ry I U M)(C:I.f8=false)(y:I.f9=false):JP (S.put id (b,I)) (HT um id U M):=by
 intro j x d;have d:(if j=id then some (b,I)else S.sp j)=some x:=d;unfold HT;by_cases e:j=id
 ·rw[if_pos e]at d⊢;cases d;exact⟨v,C,y⟩
 ·rw[if_neg e]at d⊢;exact h j x d
theorem GD.room{S S1:HS}{i:Nat}(h:GD S i S1):S1.V=S.V:=by
 rcases h with ⟨_,q,_,rfl⟩|⟨_,rfl⟩<;>rfl
theorem Vp.room{S S1:HS}{p n page:Int}(h:Vp S p n page S1):S1.V=S.V:=by
 rcases h with ⟨j,i,k,_,_,_,hf,_,_,_,_,rfl⟩|⟨j,d,_,rfl⟩
 ·exact hf.room
 ·exact d.GH.1
theorem gT{l:Iv}(h:Ok l){a b:Int}(d:a<b)(h0:0<=a)(j:b<18446744073709551616):DE (CX l a b)<=DE l+(b-a):=by
 have:=(DF h d h0 j).2.2;have:=Cg l a b;omega
theorem SG.room{S S1:HS}{n:Int}(h:SG S n S1)(j:HP S)(y:1<=n)(v:n<=134217728)(h0:0<=S.hint)(hp: ∀x∈S.V.pl,0<=x):DE S1.V.laid<=DE S.V.laid+GN n:=by
 obtain⟨_,a,d,rfl⟩:=h;obtain⟨O,K,C,J⟩:=NK y v;have hf:=Pe j.vv (by omega) d;have a0:0<=a:=by
  rcases d with ⟨p,r,h1,_,rfl⟩|⟨_,⟨_,h1,_⟩|⟨_,_,h1,_⟩⟩
  ·exact hp a (by rw[h1];exact List.mem_cons_self)
  ·have:=h1.low;omega
  ·have:=h1.low;omega
 have:=gT j.vv.JA (a:=a) (b:=a+GN n) (by omega) a0 (by have:=hf.2.2.1;omega);show DE (CX S.V.laid a (a+GN n))<=_;omega
def NL(S:HS):Prop:= ∀x∈S.V.pl,0<=x
theorem MB.room{S S1:HS}{p n page:Int}(h:MB S p n page S1)(K:Al S no)(T:HP S)(y:1<=n)(j:n<=134217728)(hp:NL S):DE S1.V.laid<=DE S.V.laid+GN n/\NL S1:=by
 have u:=NK y j;rcases h with h|⟨J,O,C,_,v,_,rfl⟩
 ·rw[h.room];exact⟨by omega,by unfold NL;rw[h.room];exact hp⟩
 ·have e:=C.GH;have:=v.room (C.ok T) y j (by rw[e.2];exact K.h0) (by rw[e.1];exact hp);rw[e.1]at this;refine⟨this,?_⟩;obtain⟨_,a,_,rfl⟩:=v;intro x d;have d:x∈J.V.pl.tail:=d;rw[e.1]at d;exact hp x (List.mem_of_mem_tail d)
theorem Found.room{S S2:HS}{p n page:Int}(h:Found S p n page S2)(j:Al S no)(C:HP S)(v:1<=n)(d:n<=134217728)(hp:NL S):DE S2.V.laid<=DE S.V.laid+GN n/\NL S2:=by
 obtain⟨S1,y,hm⟩:=h;have:=y.room j C v d hp;rcases hm with ⟨_,rfl⟩|⟨_,_,rfl⟩<;>exact this
theorem NF.room{S S2:HS}{p n:Int}(h:NF S p n S2)(J:Al S no)(O:HP S)(C:1<=n)(y:n<=134217728)(hp:NL S):DE S2.V.laid<=DE S.V.laid+GN n/\NL S2:=by
 have u:=NK C y;rcases h with ⟨j,v,_,K⟩|⟨S1,page,r,v,_,_,rfl⟩
 ·have e:=v.GH;rcases K with ⟨r,_,rfl⟩|⟨_,_,rfl⟩
  ·refine⟨by show DE j.V.laid<=_;rw[e.1];omega,fun x d=> ?_⟩;have d:x∈j.V.pl:=d;rw[e.1]at d;exact hp x d
  ·refine⟨by show DE j.V.laid<=_;rw[e.1];omega,fun x d=> ?_⟩;have d:x∈j.V.pl.tail:=d;rw[e.1]at d;exact hp x (List.mem_of_mem_tail d)
 ·exact v.room J O C y hp
theorem GD.Ru{S S1:HS}{i:Nat}(h:GD S i S1):S1.sp=S.sp:=by
 rcases h with ⟨_,q,_,rfl⟩|⟨_,rfl⟩<;>rfl
theorem GM.Ru{S S1:HS}{p n:Int}(h:GM S p n S1):S1.sp=S.sp:=by
 rcases h with ⟨_,rfl⟩|⟨i,_,_,_,hf,_⟩
 ·rfl
 ·exact hf.Ru
theorem MB.Ru{S S1:HS}{p n page:Int}(h:MB S p n page S1):S1.sp=S.sp:=by
 rcases h with (⟨j,i,k,_,_,_,hf,_,_,_,_,rfl⟩|⟨j,d,_,rfl⟩)|⟨y,v,d,_,⟨_,a,_,rfl⟩,_,rfl⟩
 ·exact hf.Ru
 ·exact d.Ru
 ·exact d.Ru
theorem Found.Ru{S S2:HS}{p n page:Int}(h:Found S p n page S2):S2.sp=S.sp:=by
 obtain⟨S1,d,hm⟩:=h;rcases hm with ⟨_,rfl⟩|⟨_,_,rfl⟩<;>exact d.Ru
theorem NF.Ru{S S2:HS}{p n:Int}(h:NF S p n S2):S2.sp=S.sp:=by
 rcases h with ⟨v,d,_,j⟩|⟨S1,page,r,d,_,_,rfl⟩
 ·rcases j with ⟨r,_,rfl⟩|⟨_,_,rfl⟩<;>exact d.Ru
 ·exact d.Ru
theorem JP.Ru{S S2:HS}{um:TH}(h:JP S um)(e:S2.sp=S.sp):JP S2 um:=fun id x d=>h id x (by rw[<-e];exact d)
def gU(S:HS)(p a b:Int):Prop:=(S.T.GH p=false/\a=0/\b=0)∨(S.T.fr p=true/\a=1/\b=0)∨(∃i:Nat,i<64/\(S.ca i).own p=true/\(∀j,j<i->(S.ca j).own p=false)/\a=2/\b=i)∨(0<S.own p/\a=3/\b=S.own p)
theorem gU.uniq{S:HS}(v:Al S no)(hk:HP S){p a b C J:Int}(h:gU S p a b)(K:gU S p C J):a=C/\b=J:=by
 have f1:S.T.GH p=false->S.T.fr p=true->False:=fun c d=>by rw[hk.tv.fi p d]at c;cases c
 have f2: ∀i,i<64->(S.ca i).own p=true->S.T.GH p=true/\S.T.fr p=false/\S.own p=0:=fun i hi c=>⟨(v.cr i hi p c).1,(v.cr i hi p c).2.1,(v.cr i hi p c).2.2.1⟩;have f3:0<S.own p->S.T.GH p=true/\S.T.fr p=false:=fun c=>⟨(v.ow p c).1,(v.ow p c).2.1⟩;rcases h with ⟨h,rfl,rfl⟩|⟨h,rfl,rfl⟩|⟨i,hi,h,O,rfl,rfl⟩|⟨h,rfl,rfl⟩<;>rcases K with ⟨g,rfl,rfl⟩|⟨g,rfl,rfl⟩|⟨j,y,g,Y,rfl,rfl⟩|⟨g,rfl,rfl⟩
 ·exact⟨rfl,rfl⟩
 ·exact(f1 h g).elim
 ·rw[(f2 j y g).1]at h;cases h
 ·rw[(f3 g).1]at h;cases h
 ·exact(f1 g h).elim
 ·exact⟨rfl,rfl⟩
 ·rw[(f2 j y g).2.1]at h;cases h
 ·rw[(f3 g).2]at h;cases h
 ·rw[(f2 i hi h).1]at g;cases g
 ·rw[(f2 i hi h).2.1]at g;cases g
 ·rcases Nat.lt_trichotomy i j with c|c|c
  ·rw[Y i c]at h;cases h
  ·exact⟨rfl,by rw[c]⟩
  ·rw[O j c]at g;cases g
 ·have:=(f2 i hi h).2.2;omega
 ·rw[(f3 h).1]at g;cases g
 ·rw[(f3 h).2]at g;cases g
 ·have:=(f2 j y g).2.2;omega
 ·exact⟨rfl,rfl⟩
section
variable{E:Env}{h r:Nat}{S S':HS}{um um':TH}{g:RG}{Z:List Pr}{w:World}
theorem Pg(H:Sat (GG E h S um::Z) w)(j:Al S no)(O:HP S){p:Int}(J:0<=p)(C:p<18446744073709551616){K:Int->Int->World->Prop}
  (y: ∀a b,gU S p a b-> ∀w',Sat (GG E h S um::Z) w'->K a b w'):F.BN E (some ⟨h,0,none⟩) p K w:=by
 refine UR H j O J C (fun c w' v=>y _ _ (.inl ⟨c,rfl,rfl⟩) w' v) (fun c w' v=>y _ _ (.inr (.inl ⟨c,rfl,rfl⟩)) w' v) (fun i hi c d w' v=>y _ _ (.inr (.inr (.inl ⟨i,hi,c,d,rfl,rfl⟩))) w' v) fun c d e w' v=>y _ _ (.inr (.inr (.inr ⟨?_,rfl,rfl⟩))) w' v;rcases j.cv p c with q|q|q|q
 ·rw[d]at q;cases q
 ·obtain⟨i,hi,q⟩:=Dq.1 q;rw[e i hi]at q;cases q
 ·exact q
 ·cases q
theorem UX{c:Nat}{V:VS}(d:DE V.laid<=1000000)(H:Sat (Dl E c V::Z) w){addr x:Int}(h0:0<=addr)(h1:addr<18446744073709551616){K:Int->World->Prop}
  (C: ∀w',Sat (Dl E c (FZ V addr x)::Z) w'->K (IC V addr) w'):F.CB E (some ⟨c,0,none⟩) addr x K w:=by
 obtain⟨g,P,W,y,H⟩:=Sat.Kj.1 H;refine WM y d H h0 h1 (fun he w' j=>C w' (Sat.Kj.2 ⟨g,P,W,?_,?_⟩)) fun he s W' w' v j=> ?_
 ·unfold FZ;rw[if_neg he];exact y
 ·unfold FZ;rw[if_neg he];exact j
 ·have:=C w' (Sat.Kj.2 ⟨_,_,_,v,j⟩);rwa[he]at this
theorem JX(H:Sat (C2 E h S um g++Z) w)(d:Xx S g){i q:Nat}{id:Int}{x:Nat×SI}(hi:g.L[i]? =some (id,q))(C:S.sp id=some x):
  ∃R,Sat (C0 E q x.2 (um id).1 (um id).2::(R++Z)) w/\ ∀{Y:List Pr} {U M:Nat->Bool} {w'},Sat (C0 E q x.2 U M::(R++Y)) w'->Sat (GG E h S (HT um id U M)::Y) w':=by
 have h1:=(H.front 5 rfl).Hs hi;have e:LG E S.sp um (id,q)=C0 E q x.2 (um id).1 (um id).2:=by unfold LG;dsimp only;rw[C]
 rw[e]at h1;refine⟨Ap (LG E S.sp um) (g.L.eraseIdx i)::(C2 E h S um g).eraseIdx 5,h1,fun{Y U M w'} H'=> ?_⟩;have K:C0 E q x.2 U M=LG E S.sp (HT um id U M) (id,q):=by unfold LG HT;dsimp only;rw[C,if_pos rfl]
 have j: ∀y∈g.L.eraseIdx i,y.1≠id:=fun y v e=>by
  have J:=((Dm hi).map (·.1)).nodup_iff.1 d.nd;rw[List.map_cons]at J;exact(List.nodup_cons.1 J).1 (List.mem_map.2 ⟨y,v,e⟩)
 have O:Ap (LG E S.sp um) (g.L.eraseIdx i)=Ap (LG E S.sp (HT um id U M)) (g.L.eraseIdx i):=Ap.congr fun y v=>by
  unfold LG HT;rw[if_neg (j y v)]
 rw[K,O]at H';have T:=Sat.Gq (F:=(C2 E h S um g).eraseIdx 5++Y) H' hi;exact Sat.EI.2 ⟨g,⟨d.q,d.mem,d.so⟩,Sat.back (Ps:=C2 E h S (HT um id U M) g++Y) 5 T (by simp[C2])⟩
theorem LL{s s':AZ}{l:List Int}(H:Sat (Row E.CV 1 s (ints .i64 l)::Row E.CV 1 s' (ints .i64 l)::Z) w){K:Bool->World->Prop}(T: ∀w',Sat Z w'->K true w'):F.FA E s s' K w:=by
 unfold F.FA;have l1:=H.FH;have l2:=(H.front 1 rfl).FH;have hc:=H.own.cap;have ht:=H.own.top;rw[ints,List.length_map,Nat.mul_one]at l1 l2;refine Cz (fun c=>absurd (by rw[<-l1,<-l2]) c) fun _=> ?_;refine AK (fun st w'=>Sat (Row E.CV 1 s (ints .i64 l)::Row E.CV 1 s' (ints .i64 l)::Z) w'/\ ∃i:Nat,st.1=(i:Int)/\i<=l.length) (fun st _=>((l.length:Int)-st.1).toNat) ⟨H,0,rfl,Nat.zero_le _⟩ ?_;rintro⟨i',u⟩ _ Y ⟨d,i,hi,J⟩;dsimp only at hi⊢;subst hi;refine AD (fun v=> ?_) fun O=>T Y d.tail.tail;obtain⟨x,C⟩: ∃x,l[i]? =some x:=⟨_,List.getElem?_eq_getElem (by omega)⟩;obtain⟨a,y⟩:=d.drew.own.Fe (by omega);obtain⟨a',j⟩:=(d.drew.front 1 rfl).own.Fe (by omega);have c1:=d.drew.own.cell y (Iz (k:=.i64) C);have c2:=(d.drew.front 1 rfl).own.cell j (Iz (k:=.i64) C);rw[y,j];rw[Int.toNat_natCast,Nat.mul_one];refine Aa ⟨⟨by omega,v⟩,x,c1,Aa ⟨⟨by omega,by omega⟩,x,c2,Cz (fun c=>absurd rfl c) fun _=> ?_⟩⟩;rw[AH (n:=(i:Int)+1)];exact⟨⟨d.drew,i+1,by omega,by omega⟩,by omega⟩
end
end Go.Sh
set_option linter.all false
set_option maxRecDepth 8000
set_option maxHeartbeats 8000000
namespace Go.Sh
section
variable{E:Env}{h r:Nat}{S S':HS}{um um':TH}{g:RG}{Z:List Pr}{w:World}
theorem GF{A B:Pr}{Z:List Pr}{w:World}(H:Sat (A::B::Z) w):Sat (B::A::Z) w:=H.perm (.swap _ _ _)
theorem X3{S:SI}{U M:Nat->Bool}(d:Ry S U M):DU (fun i=>U i&& !M i) (64*S.uw.length)=DU (fun i=>U i&& !M i) S.Ar.toNat:=by
 have h1: ∀i,S.Ar.toNat<=i->(U i&& !M i)=false:=fun i hi=>by rw[d.out i hi];rfl
 have j: ∀i,64*S.uw.length<=i->(U i&& !M i)=false:=fun i hi=>by rw[d.uw.2 i hi];rfl
 rcases Nat.le_total (64*S.uw.length) S.Ar.toNat with c|c
 ·have:=HA (F:=fun i=>U i&& !M i) (m:=64*S.uw.length) (n:=S.Ar.toNat-64*S.uw.length) fun i a _=>j i a;rw[show 64*S.uw.length+(S.Ar.toNat-64*S.uw.length)=S.Ar.toNat by omega]at this;exact this.symm
 ·have:=HA (F:=fun i=>U i&& !M i) (m:=S.Ar.toNat) (n:=64*S.uw.length-S.Ar.toNat) fun i a _=>h1 i a;rw[show S.Ar.toNat+(64*S.uw.length-S.Ar.toNat)=64*S.uw.length by omega]at this;exact this
theorem Al.gV(j:Al S no)(v:HP S){id:Int}{x:Nat×SI}(y:S.sp id=some x):0<=x.2.base/\x.2.base<281474976710656/\x.2.base %8192=0/\0<x.2.AB/\x.2.AB<=34359738368:=by
 have d:=j.sp id x y;have C:=d.2.2.2.2 (x.2.base/8192) (Int.le_refl _) (by omega);have J:=d.2.2.2.2 (x.2.base/8192+x.2.AB-1) (by omega) (by omega);have K:=v.tv.Gn _ (j.ow _ (by omega:0<S.own (x.2.base/8192))).1;have O:=v.tv.Gn _ (j.ow _ (by omega:0<S.own (x.2.base/8192+x.2.AB-1))).1;omega
theorem Ic{A:Pr}{Z:List Pr}:Sat (C2 E r S um g++A::Z) w↔Sat (A::(C2 E r S um g++Z)) w:=
 ⟨fun H=>H.perm (List.perm_middle (l₁:=C2 E r S um g)),fun H=>H.perm (List.perm_middle (l₁:=C2 E r S um g)).symm⟩
theorem LM{id:Int}:HT um id (um id).1 (um id).2=um:=by
 funext j;unfold HT;by_cases c:j=id
 ·rw[if_pos c,c]
 ·rw[if_neg c]
theorem MO(H:Sat (Aj E h S::GG E r S um::Z) w)(hI:Al S no)(hU:JP S um){id:Int}{K:Bool->World->Prop}
  (hK: ∀w',Sat (Aj E h S::GG E r S um::Z) w'->K true w'):F.DJ E (some ⟨h,0,none⟩) (some ⟨r,0,none⟩) id K w:=by
 have hk:=H.Bi;unfold F.DJ T0.DJ;obtain⟨g,y,C⟩:=Sat.EI.1 (GF H);have Y:=Ic.1 C;have d:=y.SF hI;refine RB Y (fun hs=> ?_) fun x v=> ?_
 ·refine KJ C y d (fun _=>AV rfl (AV rfl (hK w H))) fun i q hi=> ?_;have:=(y.mem id).1 (List.mem_map.2 ⟨(id,q),List.mem_of_getElem? hi,rfl⟩);exact absurd hs this
 ·refine KJ C y d (fun hs=>by rw[v]at hs;cases hs) fun i q hi=>Ac rfl (AV rfl (AV rfl ?_));obtain⟨R1,H1,b1⟩:=Y.eZ v;obtain⟨hg,f8,f9⟩:=hU id x v;have hb:=hI.gV hk v;refine KF H1 fun aH T=> ?_;obtain⟨R3,H3,b3⟩:=JX (Ic.2 (b1 T)) y hi v;refine WG H3 ⟨hb.1,by omega,hb.2.2.1⟩ ⟨by omega,by omega⟩ fun O J=> ?_;have j:=GF (b3 J);rw[LM]at j;rw[f8,f9,hg.cnt];simp only[BEq.rfl,Bool.and_true];exact hK O j
theorem WV{b:Nat}{I:SI}(H:Sat (Ed E b I::Z) w)(d:I.state≠1){K:AZ->Int->World->Prop}(v: ∀w',Sat (Ed E b I::Z) w'->K ⟨none,0,0⟩ 33 w'):F.CU E (some ⟨b,0,none⟩) K w:=by
 have j:=H;obtain⟨y,sm,H⟩:=Sat.span.1 H;unfold F.CU T0.CU;exact Aa ⟨_,H.cell rfl,Cz (fun _=>v w j) fun g=>absurd g d⟩
theorem Sat.n9{id:Int}{x:Nat×SI}{I:SI}{um:TH}(H:Sat (GG E r S um::Z) w)(d:S.sp id=some x)(he:I.rs=x.2.rs):Sat (GG E r (S.put id (x.1,I)) um::Z) w:=by
 refine H.wH rfl rfl rfl rfl rfl (fun j=> ?_) fun _ _=>rfl;show Option.map _ (if j=id then some (x.1,I)else S.sp j)=_;by_cases c:j=id
 ·rw[if_pos c,c,d];exact congrArg some he
 ·rw[if_neg c]
variable(hE:Vw E)
include hE
theorem WW(hT: ∀w',Sat Z w'->GV E.AP w'){b t:Nat}{vs:List Value}{aI:Int}(hv:vs[0]? =some (.int .i64 aI)){id:Int}(H:Sat (Cells b t vs::Aj E h S::GG E r S um::Z) w)(hI:Al S no)(hU:JP S um){K:Bool->World->Prop}(aR:vs[5]? =some (.int .i64 id))
  (hK: ∀S' um' w',Sat (Cells b t vs::Aj E h S'::GG E r S' um'::Z) w'->Al S' no->JP S' um'->S'.V=S.V->K true w'):
      ∃aU:Int,w.cell? ((Addr.mk b 0 none).add 5)=some (.int .i64 aU)/\
      F.E9 E (some ⟨h,0,none⟩) aU (fun aC bT a0=>
      ∃aW:Int,a0.cell? ((Addr.mk b 0 none).add 5)=some (.int .i64 aW)/\
      F.BV E (some ⟨r,0,none⟩) aW (fun aP C=>
      CND (!(aC.isNone==aP.isNone)) (
       K false C
      ) (
       CND (aC.isNone) (
        K true C
       ) (
        ∃aZ:Int,C.cell? (Addr.mk b 0 none)=some (.int .i64 aZ)/\
        CND ((aZ:Int)==10) (
         F.CU E aC (fun a5 bA aN=>
         F.Bf E aP (fun bH bM aX=>
         F.FA E a5 bH (fun a6 J=>
         CND (a6) (
          K ((bA:Int)==bM) J
         ) (
          K false J
         )
         ) aX
         ) aN
         ) C
        ) (
         F.D9 E aC (fun bP bJ aJ=>
         F.Bq E aP (fun bG a8 aL=>
         CND ((bP:Int)==bG) (
          K ((bJ:Int)==a8) aL
         ) (
          K false aL
         )
         ) aJ
         ) C
        )
       )
      )
      ) a0
      ) w:=by
 have H1:=H.front 1 rfl;have hk:=H1.Bi;obtain⟨g,hR,Hr⟩:=Sat.EI.1 (GF (H1.DR 1 rfl));have Hh:=Ic.1 Hr;have aG:=hR.SF hI;have d: ∀{S' um' w'},Sat (GG E r S' um'::Aj E h S'::Cells b t vs::Z) w'->Al S' no->JP S' um'->S'.V=S.V->K true w':=fun{S' um' w'} H'=>hK S' um' w' ((GF H').front 2 rfl);refine⟨id,H.cell (o:=0) (m:=5) (by rw[Nat.zero_add];exact aR),RB Hh (fun hs=>⟨id,H.cell (o:=0) (m:=5) (by rw[Nat.zero_add];exact aR),KJ Hr hR aG (fun _=>Ac rfl (AV rfl (d (Sat.EI.2 ⟨g,hR,Hr⟩) hI hU rfl))) fun i q hi=> ?_⟩) fun x v=>⟨id,H.cell (o:=0) (m:=5) (by rw[Nat.zero_add];exact aR),KJ Hr hR aG (fun hs=>by rw[v]at hs;cases hs) fun i q hi=>Ac rfl (Ac rfl ⟨aI,H.A2 hv,?_⟩)⟩⟩
 ·exact absurd hs ((hR.mem id).1 (List.mem_map.2 ⟨(id,q),List.mem_of_getElem? hi,rfl⟩))
 have aA:=(hI.sp id x v).2.2.2.1;obtain⟨hg,f8,f9⟩:=hU id x v;obtain⟨R1,H2,b1⟩:=Hh.fK v;have bD:GV E.AP w:=hT w H.tail.tail.tail;have same: ∀{w'} {Y:List Pr},Sat (Ed E x.1 x.2::(R1++Y)) w'->Sat (Aj E h S::Y) w':=fun{w' Y} h'=>by
  have:=b1 h';have e:S.put id (x.1,x.2)=S:=by
   have:(fun i=>if i=id then some (x.1,x.2)else S.sp i)=S.sp:=by
    funext j;by_cases c:j=id
    ·rw[if_pos c,c,v]
    ·rw[if_neg c]
   unfold HS.put;rw[this]
  rwa[e]at this
 refine BW (fun _=> ?_) fun _=> ?_
 ·have aH: ∀{w'} {Y:List Pr},Sat Y w'->Sat (Row E.CV 1 ⟨none,0,0⟩ (ints .i64 [])::Row E.CV 1 ⟨none,0,0⟩ (ints .i64 [])::Y) w':=fun{w' Y} h'=>(h'.nil E.CV 1).nil E.CV 1;by_cases hst1:x.2.state=1
  ·refine UG (fun w' h'=>hT w' (Sat.rest (Ps:=C2 E r S um g) (Sat.rest (Ps:=R1) h')).tail) H2 hg hst1 (fun hz=> ?_) fun hz aK s bL bU aN aS=> ?_
   ·obtain⟨R3,y,b3⟩:=JX (Ic.2 (same H2)) hR hi v;refine LA y hg.sl.1 (fun c=>absurd hst1 c) (fun _ _=> ?_) fun _ aM=> ?_
    ·exact LL (aH y) fun J O=>AV rfl (d (by have:=b3 O;rw[LM]at this;exact this) hI hU rfl)
    ·obtain⟨i,h1,h2⟩:=hz;rw[aM i h1]at h2;cases h2
   ·have bC:=b1 (Y:=Row E.CV 1 s (ints .i64 (DU (fun i=>(um id).1 i&& !(um id).2 i) (64*x.2.uw.length)))::(C2 E r S um g++Cells b t vs::Z)) (aS.perm ((List.Perm.swap _ _ _).trans (List.Perm.cons _ (List.perm_middle (l₁:=R1)).symm)));have bF:=Ic.2 (bC.perm (List.Perm.cons _ (List.perm_middle (l₁:=C2 E r S um g)).symm));obtain⟨R3,y,b3⟩:=JX bF hR hi v;refine LA y hg.sl.1 (fun c=>absurd hst1 c) (fun _ aM=> ?_) fun _ _ s' aX aT=> ?_
    ·obtain⟨i,h1,h2⟩:=aM;rw[hz i h1]at h2;cases h2
    ·rw[<-X3 hg]at aT;have bE:=b3 (Y:=Row E.CV 1 s' _::_) (aT.perm ((List.Perm.swap _ _ _).trans (List.Perm.cons _ (List.perm_middle (l₁:=R3)).symm)));have O:=(bE.front 1 rfl).front 3 rfl;refine LL O fun J bN=>AV rfl (d (S':=S.put id (x.1,Rd x.2 aK (um id).1 (um id).2)) (bN.n9 v rfl) (hI.put v rfl rfl aA) (hU.put bL f8 f9) rfl)
  ·refine WV H2 hst1 fun aN aS=> ?_;obtain⟨R3,y,b3⟩:=JX (Ic.2 (same aS)) hR hi v;refine LA y hg.sl.1 (fun _=>LL (aH y) fun J O=>AV rfl (d (by have:=b3 O;rw[LM]at this;exact this) hI hU rfl)) (fun c=>absurd c hst1) fun c=>absurd c hst1
 ·refine UF bD H2 hg aA (fun T aJ aQ=> ?_) fun n aK hn hu hl a7 aJ aQ=> ?_
  ·obtain⟨R3,y,b3⟩:=JX (Ic.2 (same aQ)) hR hi v;refine PY y aA hg.sl.1 (fun _=>AV rfl (d (by have:=b3 y;rw[LM]at this;exact this) hI hU rfl)) fun n hn hu=> ?_;rw[T n hn]at hu;cases hu
  ·obtain⟨R3,y,b3⟩:=JX (Ic.2 (b1 aQ)) hR hi v;refine PY y aA hg.sl.1 (fun T=> ?_) fun n' bV a1 bK aL bI=> ?_
   ·rw[T n hn]at hu;cases hu
   ·obtain rfl:n=n':=by
     rcases Nat.lt_trichotomy n n' with c|c|c
     ·rw[bK n c]at hu;cases hu
     ·exact c
     ·rw[hl n' c]at a1;cases a1
    exact AV (by simp) (d (S':=S.put id (x.1,{x.2 with uw:=aK,used:=x.2.used+1,look:=(n:Int)+1})) ((b3 bI).n9 v rfl) (hI.put v rfl rfl aA) (hU.put a7 f8 f9) rfl)
end
end Go.Sh
set_option linter.all false
set_option maxRecDepth 8000
set_option maxHeartbeats 8000000
namespace Go.Sh
theorem eqK{K:Bool->World->Prop}{a b:Int}{w:World}(h:a=b)(d:K true w):K (a==b) w:=by rw[h,BEq.rfl];exact d
theorem I8.Ru{S S':HS}{n m:Int}(h:I8 S n S' m):S'.sp=S.sp/\S'.V.laid=S.V.laid/\S'.V.pl=S.V.pl:=by
 induction h with
 | stop _=>exact⟨rfl,rfl,rfl⟩
 | step _ _ ih=>exact ih
section
variable{E:Env}{h r:Nat}{S:HS}{um:TH}{g:RG}{Z:List Pr}{w:World}
theorem JP.free(j:JP S um){a:Nat}{page n:Int}:JP (S.free a page n) um:=fun id x d=>j id x (by
 have d:(if id=(a:Int)+1 then none else S.sp id)=some x:=d;by_cases c:id=(a:Int)+1
 ·rw[if_pos c]at d;cases d
 ·rwa[if_neg c]at d)
variable(hE:Vw E)
include hE
theorem Rv(H:Sat (Aj E h S::Z) w)(C:Al S no){p:Int}(h0:0<=p)(hp:p<18446744073709551616){K:Int->Int->World->Prop}
  (y: ∀a b,gU S p a b-> ∀w',Sat (Aj E h S::Z) w'->K a b w'):F.CW E (some ⟨h,0,none⟩) p K w:=by
 have J:=H.Bi;refine PQ hE.toEnvA H h0 hp (fun c w' j=>y _ _ (.inl ⟨?_,rfl,rfl⟩) w' j) (fun _ _ c w' j=>y _ _ (.inr (.inr (.inr ⟨c,rfl,rfl⟩))) w' j) (fun _ _ _ i hi c d w' j=>y _ _ (.inr (.inr (.inl ⟨i,hi,c,d,rfl,rfl⟩))) w' j) fun _ c d e w' j=>y _ _ (.inr (.inl ⟨?_,rfl,rfl⟩)) w' j
 ·refine Dg fun v=> ?_;rcases c with c|c
  ·have:=(J.tv.Gn p v).2;omega
  ·exact c ((C.ks p).2 v)
 ·rcases C.cv p ((C.ks p).1 c)with q|q|q|q
  ·exact q
  ·obtain⟨i,hi,q⟩:=Dq.1 q;rw[e i hi]at q;cases q
  ·exact absurd q d
  ·cases q
theorem WX(hT: ∀w',Sat Z w'->GV E.AP w')(H:Sat (Aj E h S::GG E r S um::Z) w)(d:Al S no)(hU:JP S um)(hP:NL S)(hB:DE S.V.laid<=900000){a0 a1 a2 a3:Int}{a4:Bool}{a5 O:Int}
  (n0:0<=a2)(n1:a2<18446744073709551616)(i1:a5<9223372036854775808)(x0:0<=O)(x1:O<18446744073709551616)(hN:a0=1∨a0=2->a2<=3000∨134217728<a2){K:Bool->World->Prop}
  (hK: ∀S' um' w',Sat (Aj E h S'::GG E r S' um'::Z) w'->Al S' no->JP S' um'->NL S'->DE S'.V.laid<=DE S.V.laid+3512->K true w'):
  F.ET E (some ⟨h,0,none⟩) (some ⟨r,0,none⟩) a0 a1 a2 a3 a4 a5 O K w:=by
 have hk:=H.Bi;unfold F.ET T0.ET;refine Ad (vs:=[.int .i64 a0,.int .i64 a1,.int .u64 a2,.int .i64 a3,.bool a4,.int .i64 a5,.int .u64 O]) H fun b w2 J _=>⟨a0,J.A2 rfl,?_⟩;have Hh:=J.front 1 rfl;have bP: ∀w',Sat (Cells b E.Fo [.int .i64 a0,.int .i64 a1,.int .u64 a2,.int .i64 a3,.bool a4,.int .i64 a5,.int .u64 O]::GG E r S um::Z) w'->GV E.AP w':=fun w' h'=>hT w' h'.tail.tail;have fin: ∀{S' um' w'},Sat (GG E r S' um'::Aj E h S'::Cells b E.Fo [.int .i64 a0,.int .i64 a1,.int .u64 a2,.int .i64 a3,.bool a4,.int .i64 a5,.int .u64 O]::Z) w'->Al S' no->JP S' um'->NL S'->DE S'.V.laid<=DE S.V.laid+3512->K true w':=
  fun{S' um' w'} H'=>hK S' um' w' ((GF H').front 2 rfl).tail
 have same: ∀{w'},Sat (GG E r S um::Aj E h S::Cells b E.Fo [.int .i64 a0,.int .i64 a1,.int .u64 a2,.int .i64 a3,.bool a4,.int .i64 a5,.int .u64 O]::Z) w'->K true w':=fun H'=>fin H' d hU hP (by omega);refine BW (fun e0=> ?_) fun c3=>BW (fun e0=> ?_) fun dG=>BW (fun e0=> ?_) fun dN=> ?_
 ·-- a span is made
  refine⟨a1,J.cell rfl,a2,J.cell rfl,a3,J.cell rfl,a4,J.cell rfl,?_⟩;have hn: ¬E7 0 a2 a3->1<=a2/\a2<=134217728/\GN a2<=3512:=fun T=>by
   have cB:=T;unfold E7 at cB;have:a2<=134217728:=by
    by_cases c0:a3=0
    ·omega
    ·have:=(KE (c:=a3) (by omega) (by omega)).2;omega
   have:=(NK (n:=a2) (by omega) (by omega)).2.2.2;have:=hN (.inl e0);omega
  refine PT hE.toEnvA bP Hh d n0 n1 (fun T aI j=> ?_) (fun T S2 hL Y aI j=> ?_) fun T page S2 bb id X hF Y p0 p1 hX aO aI j=> ?_
  all_goals
   have C:=j.front 1 rfl;refine⟨a1,C.cell rfl,a2,C.cell rfl,a3,C.cell rfl,a4,C.cell rfl,?_⟩
  ·exact LK (j.front 2 rfl) d hk n0 n1 (fun _ aC v=>AV rfl (AV rfl (AV rfl (same v)))) (fun c=>absurd T c) fun c=>absurd T c
  ·obtain⟨m0,m1,m2⟩:=hn T;refine LK (j.front 2 rfl) d hk n0 n1 (fun c=>absurd c T) (fun _ S3 aD aC v=> ?_) fun _ page S3 id X hF _ _ _=>(hF.not hL).elim;obtain rfl:=hL.uniq aD;have hr:=hL.room d hk m0 m1 hP;exact AV rfl (AV rfl (AV rfl (fin v Y (hU.Ru hL.Ru) hr.2 (by omega))))
  ·obtain⟨m0,m1,m2⟩:=hn T;refine LK (j.front 2 rfl) d hk n0 n1 (fun c=>absurd c T) (fun _ S3 aD aC v=>(hF.not aD).elim) fun _ bC S3 cG X' aZ a8 aC v=> ?_;obtain⟨rfl,rfl⟩:=hF.uniq aZ;obtain⟨rfl,rfl⟩:=hX.uniq a8;have hr:=hF.room d hk m0 m1 hP;have aL:JP (S2.DP id (bb,IX page a2 a3 a4) page a2 X) (HT um id NI NI):=(hU.Ru hF.Ru).DP (gS (by unfold E7 at T⊢;omega)) rfl rfl;refine AV (by simp) (AV rfl (Ac rfl (MO (GF (v bb)) aO aL fun cD bB=>fin (GF bB) aO aL hr.2 (by show DE S2.V.laid<=_;omega))))
 ·-- a span by hand
  refine⟨a2,J.cell rfl,a5,J.cell rfl,?_⟩;have hn: ¬E4 a2 a5->1<=a2/\a2<=134217728/\GN a2<=3512:=fun T=>by
   unfold E4 at T;have:=(NK (n:=a2) (by omega) (by omega)).2.2.2;have:=hN (.inr e0);omega
  refine T7 hE.toEnvA bP Hh d n0 n1 i1 (fun T aI j=> ?_) (fun T S2 hL Y aI j=> ?_) fun T page S2 bb id X hF Y p0 p1 hX aO aI j=> ?_
  all_goals
   have C:=j.front 1 rfl;refine⟨a2,C.cell rfl,a5,C.cell rfl,?_⟩
  ·exact KR (j.front 2 rfl) d hk n0 n1 i1 (fun _ aC v=>AV rfl (AV rfl (AV rfl (same v)))) (fun c=>absurd T c) fun c=>absurd T c
  ·obtain⟨m0,m1,m2⟩:=hn T;refine KR (j.front 2 rfl) d hk n0 n1 i1 (fun c=>absurd c T) (fun _ S3 aD aC v=> ?_) fun _ page S3 id X hF _ _ _=>(hF.not hL).elim;obtain rfl:=hL.uniq aD;have hr:=hL.room d hk m0 m1 hP;exact AV rfl (AV rfl (AV rfl (fin v Y (hU.Ru hL.Ru) hr.2 (by omega))))
  ·obtain⟨m0,m1,m2⟩:=hn T;refine KR (j.front 2 rfl) d hk n0 n1 i1 (fun c=>absurd c T) (fun _ S3 aD aC v=>(hF.not aD).elim) fun _ bC S3 cG X' aZ a8 aC v=> ?_;obtain⟨rfl,rfl⟩:=hF.uniq aZ;obtain⟨rfl,rfl⟩:=hX.uniq a8;have hr:=hF.room d hk m0 m1 hP;have aL:JP (S2.DP id (bb,RQ page a2 a5) page a2 X) (HT um id NI NI):=(hU.Ru hF.Ru).DP (bA T) rfl rfl;refine AV (by simp) (AV rfl (Ac rfl (MO (GF (v bb)) aO aL fun cD bB=>fin (GF bB) aO aL hr.2 (by show DE S2.V.laid<=_;omega))))
 ·-- a span is freed
  refine⟨a5,J.drew.cell rfl,a5,J.drew.cell rfl,?_⟩;refine Xd hE.toEnvA (J.drew.front 1 rfl) d (fun hs=>⟨J.drew.cell rfl,?_⟩) (fun x hx hu=>⟨J.drew.cell rfl,?_⟩) fun x a hx hu ha Y cY bN=>⟨(bN.front 1 rfl).cell rfl,?_⟩
  ·refine MM ((J.drew.front 1 rfl).front 2 rfl) d hk (fun _ bJ aN=>same aN) (fun x hx=> ?_) fun x a hx=> ?_
   ·rw[hs]at hx;cases hx
   ·rw[hs]at hx;cases hx
  ·have hg:=(hU a5 x hx).1;rw[hg.cnt]at hu;refine MM ((J.drew.front 1 rfl).front 2 rfl) d hk (fun hs=> ?_) (fun x' aB _ bJ aN=>same aN) fun x' a aB bK=> ?_
   ·rw[hx]at hs;cases hs
   ·rw[hx]at aB;cases aB;omega
  ·have hg:=(hU a5 x hx).1;rw[hg.cnt]at hu;refine MM (bN.front 2 rfl) d hk (fun hs=> ?_) (fun x' aB bK=> ?_) fun x' a' aB bK cW bJ aN=> ?_
   ·rw[hx]at hs;cases hs
   ·rw[hx]at aB;cases aB;omega
   ·rw[hx]at aB;cases aB;obtain rfl:a=a':=by omega
    exact fin aN Y hU.free hP (by show DE S.V.laid<=_;omega)
 refine HH (fun st w'=>st.1=decide (a0=4∨a0=10)/\w'=w2) (BW (fun e=>⟨?_,rfl⟩) fun ne=>⟨?_,rfl⟩) ?_
 ·show(a0==4)=_;rw[e,decide_eq_true (.inl rfl)];rfl
 ·show(a0==10)=_;by_cases c:a0=10
  ·rw[decide_eq_true (.inr c),c];rfl
  ·rw[decide_eq_false (by omega)];simpa using c
 rintro⟨s,u⟩ _ c6 ⟨hs,rfl⟩;dsimp only at hs⊢;subst hs;refine AD (fun _=> ?_) fun c5=>BW (fun e0=> ?_) fun c2=>BW (fun e0=> ?_) fun dI=>BW (fun e0=> ?_) fun dD=>BW (fun e0=> ?_) fun c8=>BW (fun e0=> ?_) fun dB=> ?_
 ·exact WW hE hT rfl J d hU rfl fun S' um' w' H' bZ b0 hV=>hK S' um' w' H'.tail bZ b0 (by unfold NL;rw[hV];exact hP) (by rw[hV];omega)
 ·-- a flush
  refine⟨a1,J.cell rfl,?_⟩;refine Vo hE.toEnvS Hh d (fun hp cH aK=>⟨a1,(aK.front 1 rfl).cell rfl,?_⟩) fun p0 p1 cH Y aK=>⟨a1,(aK.front 1 rfl).cell rfl,?_⟩
  ·exact OT (aK.front 2 rfl) d hk (fun _ cE a7=>same a7) fun q0 q1=>absurd ⟨q0,q1⟩ hp
  ·exact OT (aK.front 2 rfl) d hk (fun hp=>absurd ⟨p0,p1⟩ hp) fun _ _ cE a7=>fin a7 Y hU hP (by show DE S.V.laid<=_;omega)
 ·-- pages are released
  refine⟨a2,J.drew.cell rfl,a2,J.drew.cell rfl,?_⟩;refine Xj hE.toEnvA (J.drew.front 1 rfl) d n0 n1 fun S' m hs m0 m1 Y c4 bI=>⟨(bI.front 1 rfl).cell rfl,?_⟩;refine WT (bI.front 2 rfl) d hk (by omega) n0 n1 fun S3 m3 cC c1 bV=> ?_;obtain⟨rfl,rfl⟩:=hs.uniq cC;have e:=hs.Ru;exact eqK rfl (fin bV Y (hU.Ru e.1) (by unfold NL;rw[e.2.2];exact hP) (by rw[e.2.1];omega))
 ·-- of
  refine⟨O,J.drew.cell rfl,O,J.drew.cell rfl,?_⟩;refine L9 (J.drew.front 1 rfl) x0 x1 fun dJ bL=>⟨(bL.front 1 rfl).cell rfl,?_⟩;exact O5 (bL.front 2 rfl) d hk x0 x1 fun dF b1=>eqK rfl (same b1)
 ·-- owner
  have hd:u64 (Int.tdiv O 8192)=O/8192:=by rw[Int.tdiv_eq_ediv_of_nonneg x0,AM]
  refine⟨O,J.cell rfl,by decide,?_⟩;rw[hd];refine Rv hE Hh d (by omega) (by omega) fun x y ho dM bO=>⟨O,(bO.front 1 rfl).cell rfl,by decide,?_⟩;rw[hd];refine Pg (bO.front 2 rfl) d hk (by omega) (by omega) fun x' y' b8 c9 cI=> ?_;obtain⟨rfl,rfl⟩:=ho.uniq d hk b8;exact AV (by simp) (eqK rfl (same cI))
 ·-- a word
  refine⟨O,J.drew.cell rfl,?_⟩;refine Ma (J.drew.front 1 rfl) fun m R Hm bm=>⟨J.drew.cell rfl,?_⟩;refine Zv hE.toEnvS Hm x0 x1 fun cV bX=> ?_;have bE:=(bm bX).drew;obtain⟨g,hR,Hr⟩:=Sat.EI.1 (bE.front 2 rfl);obtain⟨R3,b2,b3⟩:=ML Hr;refine Aa ⟨some ⟨g.m,0,none⟩,ZL Hr,O,(bE.front 1 rfl).cell rfl,?_⟩;refine WL (by omega) b2 x0 x1 fun cZ bY=>AV (by simp) (AV (by simp) ?_);have aT:=(b3 bY).drew;have Hc:=Sat.rest (Ps:=C2 E r S um g++[Aj E h S]) (by rw[List.append_assoc];exact aT);refine⟨O,Hc.cell rfl,a2,Hc.cell rfl,Aa ⟨some ⟨g.m,0,none⟩,ZL aT,O,Hc.cell rfl,a2,Hc.cell rfl,?_⟩⟩;refine Ma (Ic.1 aT) fun m' R' b7 b6=>⟨Hc.cell rfl,Hc.cell rfl,ZL aT,Hc.cell rfl,Hc.cell rfl,?_⟩;refine XK hE.toEnvS b7 x0 x1 fun cL bF=> ?_;have aM:=Ic.2 (b6 bF);have bT:=Sat.rest (Ps:=C2 E r S um g++[Aj E h {S with V:=FZ S.V O a2}]) (by rw[List.append_assoc];exact aM);refine⟨bT.cell rfl,bT.cell rfl,ZL aM,?_⟩;obtain⟨R4,bS,b4⟩:=ML aM;refine UX (V:=S.V) (by omega) bS x0 x1 fun cK bG=>eqK rfl ?_;have e:(FZ S.V O a2).laid=S.V.laid/\(FZ S.V O a2).ready=S.V.ready/\(FZ S.V O a2).pl=S.V.pl:=by
   unfold FZ;split<;>exact⟨rfl,rfl,rfl⟩
  exact fin (Hv hR (b4 bG) rfl rfl) (d.fC e.1 e.2.1) hU (by unfold NL;show ∀x∈(FZ S.V O a2).pl,_;rw[e.2.2];exact hP) (by show DE (FZ S.V O a2).laid<=_;rw[e.1];omega)
 ·exact same ((Hh.front 2 rfl))
end
end Go.Sh
set_option linter.all false
set_option maxRecDepth 8000
set_option maxHeartbeats 8000000
namespace Go.Sh
theorem MP{f:Int->Int}: ∀{l l':List Int},(l.map f).Pairwise (· < ·)->(l'.map f).Pairwise (· < ·)->(∀n,n∈l↔n∈l')->l=l'
 | [],[],_,_,_=>rfl
 | [],b::l',_,_,h=>by have:=(h b).2 (.head _);cases this
 | a::l,[],_,_,h=>by have:=(h a).1 (.head _);cases this
 | a::l,b::l',h1,h2,h=>by
  rw[List.map_cons,List.pairwise_cons]at h1 h2;have e:a=b:=by
   by_cases c:a=b
   ·exact c
   ·have i1:a∈l':=by rcases List.mem_cons.1 ((h a).1 (.head _))with q|q;exact absurd q c;exact q
    have i2:b∈l:=by rcases List.mem_cons.1 ((h b).2 (.head _))with q|q;exact absurd q.symm c;exact q
    have j:=h1.1 _ (List.mem_map.2 ⟨b,i2,rfl⟩);have v:=h2.1 _ (List.mem_map.2 ⟨a,i1,rfl⟩);omega
  subst e;congr 1;refine MP h1.2 h2.2 fun n=>⟨fun d=> ?_,fun d=> ?_⟩
  ·rcases List.mem_cons.1 ((h n).1 (.tail _ d))with q|q
   ·have:=h1.1 _ (List.mem_map.2 ⟨n,d,rfl⟩);rw[q]at this;omega
   ·exact q
  ·rcases List.mem_cons.1 ((h n).2 (.tail _ d))with q|q
   ·have:=h2.1 _ (List.mem_map.2 ⟨n,d,rfl⟩);rw[q]at this;omega
   ·exact q
section
variable{E:Env}{h r:Nat}{S:HS}{um:TH}{Z:List Pr}{w:World}
variable(hE:Vw E)
include hE
theorem Ph(H:Sat (Aj E h S::GG E r S um::Z) w)(O:Al S no)(hU:JP S um){step:Int}(s0:1<=step)(s1:step<=31){K:Bool->World->Prop}
  (hK: ∀w',Sat (Aj E h S::GG E r S um::Z) w'->K true w'):F.D0 E (some ⟨h,0,none⟩) (some ⟨r,0,none⟩) step K w:=by
 have hk:=H.Bi;unfold F.D0 T0.D0;refine UI hE H O fun s l w2 b8 aE aR H2=>US (H2.front 2 rfl) O fun s' l' w4 _ J aD H4=> ?_;obtain rfl:l=l':=MP aR aD fun n=>(aE n).trans (J n).symm;refine LL (H4.front 2 rfl) fun w6 H6=>Ac rfl ?_;have H7:=GF H6;clear H6 H4 H2 H J aD;have a8:=Jj S.T.GH;generalize hci:cP S.T.GH=CI at a8;refine PS H7 O fun bQ aM=>SM (GF aM) O hk fun cB aT=> ?_;rw[hci];generalize cP S.gone=CG;refine An (Cz (fun c=>absurd rfl c) fun _=>Cz (fun c=>absurd rfl c) fun _ j=>Ac (by simp) ?_);have aS:=GF aT;clear aT aM H7;refine AK (fun st w'=>1<=st.1/\st.1<=4/\Sat (Aj E h S::GG E r S um::Z) w') (fun st _=>(4-st.1).toNat) ⟨Int.le_refl _,by show(1:Int)<=4;decide,aS⟩ ?_;clear aS;rintro⟨k,u⟩ _ bY ⟨k0,k1,aK⟩;dsimp only at k0 k1⊢;refine AD (fun Y=> ?_) fun _=> ?_
 ·obtain⟨g,hR,d⟩:=Sat.EI.1 (GF aK.drew);refine Aa ⟨some ⟨g.m,0,none⟩,ZL d,Ma (Ic.1 d) fun m R Hm bm=>⟨ZL d,?_⟩⟩;refine VV Hm fun cD bI=> ?_;have aQ:=Ic.2 (bm bI);obtain⟨R2,a4,b2⟩:=ML aQ;refine⟨ZL aQ,WK a4 fun bZ a9=>Cz (fun c=>absurd rfl c) fun _=> ?_⟩;rw[AH (n:=k+1)];exact⟨⟨by omega,by omega,GF (Sat.EI.2 ⟨g,hR,b2 a9⟩)⟩,by omega⟩
 refine AK (fun st w'=> ∃i:Nat,st.1=(i:Int)/\(512*i:Int)<=CI/\Sat (Aj E h S::GG E r S um::Z) w') (fun st _=>(CI-512*st.1).toNat) ⟨0,rfl,by omega,aK⟩ ?_;clear aK;rintro⟨i',u⟩ _ b4 ⟨i,hi,aY,aC⟩;dsimp only at hi⊢;subst hi;have tree: ∀{w'},Sat (Aj E h S::GG E r S um::Z) w'-> ∃(t:Nat) (s:AZ) (L:CL),w'.cell? ((Addr.mk r 0 none).add 1)=some (.pointer (some ⟨t,0,none⟩))/\w'.cell? (Addr.mk t 0 none)=some (.slice s.base s.len s.cap)/\s.len=L.length/\((512*L.length:Nat):Int)=CI/\(∀c∈L,0<=c.1/\c.1<67108864)/\
   ∀(k:Nat) x,L[k]? =some x-> ∃a:Addr,s.base=some a/\w'.cell? (a.add (k*2))=some (.int .u64 x.1):=fun{w'} h'=>by
  obtain⟨g,hR,d⟩:=Sat.EI.1 (GF h');obtain⟨l,⟨hl,Bi⟩,Ht⟩:=Sat.Wa.1 (d.front 2 rfl);obtain⟨s,L,U,G,aO,Hq⟩:=Sat.HQ.1 Ht;have C:=Rt aO hl O hk;rw[hci]at C;refine⟨g.t,s,L,aZ d,Dh Hq,Ia Hq,C,aO.QB,fun k x hx=> ?_⟩;obtain⟨a,ha,_,c,_⟩:=Hl Hq hx;exact⟨a,ha,c⟩
 obtain⟨t,s3,L,c1,c2,aG,C,y,v⟩:=tree aC;refine Aa ⟨some ⟨t,0,none⟩,c1,Aa ⟨s3,c2,AD (fun Y=> ?_) fun aF=> ?_⟩⟩
 ·refine AK (fun st w'=>0<=st.1/\st.1<=600/\Sat (Aj E h S::GG E r S um::Z) w') (fun st _=>(600-st.1).toNat) ⟨Int.le_refl _,by show(0:Int)<=600;decide,aC⟩ ?_;have b9:512*((i:Int)+1)<=CI:=by omega
  clear c1 c2 v Y aC aG C y;rintro⟨k,u⟩ _ b5 ⟨k0,k1,aI⟩;dsimp only at k0 k1⊢;refine AD (fun Y=> ?_) fun aF=> ?_
  ·obtain⟨t,s3,L,c1,c2,aG,C,y,v⟩:=tree aI;obtain⟨x,hx⟩: ∃x,L[i]? =some x:=⟨_,List.getElem?_eq_getElem (by omega)⟩;obtain⟨a,ha,c3⟩:=v i x hx;have b0:=y x (List.mem_of_getElem? hx);refine Aa ⟨some ⟨t,0,none⟩,c1,Aa ⟨s3,c2,?_⟩⟩;rw[ha];refine Aa ⟨⟨by omega,by omega⟩,x.1,c3,AU fun page aA=> ?_⟩;rw[AM (n:=x.1*512),AM (n:=k),AM (n:=x.1*512+k)]at aA;have aJ:0<=page:=by omega
   have b1:page<34359738368:=by omega
   clear aA;refine Rv hE aI O aJ (by omega) fun a1 a2 ho bU aV=>Pg (GF aV) O hk aJ (by omega) fun cA bS aU bW bG=> ?_;obtain⟨rfl,rfl⟩:=ho.uniq O hk aU;refine An (Cz (fun c=>absurd rfl c) fun _=>Cz (fun c=>absurd rfl c) fun _=> ?_);obtain⟨g,hR,d⟩:=Sat.EI.1 bG.drew;refine Aa ⟨some ⟨g.m,0,none⟩,ZL d,Ma (Ic.1 d) fun m R Hm bm=>⟨ZL d,?_⟩⟩;refine VW hE.toEnvS Hm aJ fun cE bB=> ?_;have aP:=Ic.2 (bm bB);obtain⟨R2,a7,b2⟩:=ML aP;refine⟨ZL aP,Pc a7 fun bT a5=>Cz (fun c=>absurd rfl c) fun _=> ?_⟩;have a3:=GF (Sat.EI.2 ⟨g,hR,b2 a5⟩);rw[AM (n:=page*8192),AM (n:=page*8192+8191)];refine L9 a3 (by omega) (by omega) fun cC bA=>O5 (GF bA) O hk (by omega) (by omega) fun b6 bH j=> ?_;rw[show(page*8192+8191)/8192=page*8192/8192 by omega];refine Ac (by simp) ?_;rw[AH (n:=k+step)];exact⟨⟨by omega,by omega,GF bH⟩,by omega⟩
  ·rw[AH (n:=(i:Int)+1)];exact⟨⟨i+1,by omega,by omega,aI⟩,by omega⟩
 clear c1 c2 v aF aG C y tree;have hlen: ∀g,Xx S g->g.L.length=l.length/\g.L.length<1099511627776:=fun g hR=>by
  have:=MP (f:=S.at) (l:=g.L.map (·.1)) (l':=l) (by rw[List.map_map];exact hR.so) aR fun n=>(hR.mem n).trans (aE n).symm;exact⟨by rw[<-this,List.length_map],hR.SF O⟩
 refine AK (fun st w'=> ∃i:Nat,st.1=(i:Int)/\i<=l.length/\Sat (Aj E h S::GG E r S um::Z) w') (fun st _=>((l.length:Int)-st.1).toNat) ⟨0,rfl,Nat.zero_le _,aC⟩ ?_;rintro⟨i',u⟩ _ aW ⟨i,hi,aY,aH⟩;dsimp only at hi⊢;subst hi;obtain⟨g,hR,d⟩:=Sat.EI.1 (GF aH);have hl:=KI (d.front 4 rfl);have hn:=hlen g hR;refine Aa ⟨g.sl,UQ d,AD (fun Y=>Aa ⟨g.sl,UQ d,?_⟩) fun aF=>hK aW aH⟩;obtain⟨x,hx⟩: ∃x,g.L[i]? =some x:=⟨_,List.getElem?_eq_getElem (by omega)⟩;obtain⟨b,hb⟩:=(d.front 4 rfl).Fx (by decide) BU (i:=i) (by omega);rw[hb];refine Aa ⟨⟨by omega,Y⟩,x.1,?_,?_⟩
 ·have:=(d.front 4 rfl).CD BU hb hx (j:=0) rfl;rwa[Nat.add_zero]at this
 refine MO aH O hU fun b7 a0=>Ac rfl ?_;rw[AH (n:=(i:Int)+1)];exact⟨⟨i+1,by omega,by omega,a0⟩,by omega⟩
end
theorem wK{a b:Addr}{K:Bool->Prop}(e:a=b)(h:K true):wL (some a) (some b) K:=by
 subst e;unfold wL;refine⟨rfl,?_⟩;rw[show(a==a)=true from beq_self_eq_true a];exact h
def oA(x:Nd Ib):Int:=x.2.2.2.2.2.2.1
theorem gW{w:World}{s:AZ}{z:Nat->Nd Ib}(h:Lp w Ib s z){j:Nat}(C:j<s.len): ∃x,s.base=some x/\(w.cell? ((x.add (j*7)).add 0)=some (.int .i64 (oW (z j)))/\w.cell? ((x.add (j*7)).add 1)=some (.int .i64 (oP (z j)))/\w.cell? ((x.add (j*7)).add 2)=some (.int .u64 (oN (z j)))/\
  w.cell? ((x.add (j*7)).add 3)=some (.int .i64 (oC (z j)))/\w.cell? ((x.add (j*7)).add 4)=some (.bool (oB (z j)))/\w.cell? ((x.add (j*7)).add 5)=some (.int .i64 (oI (z j)))/\w.cell? ((x.add (j*7)).add 6)=some (.int .u64 (oA (z j))))/\
  (0<=oN (z j)/\oN (z j)<18446744073709551616)/\oI (z j)<9223372036854775808/\0<=oA (z j)/\oA (z j)<18446744073709551616:=by
 obtain⟨x,K,d,Bi⟩:=h.2.2 j C;have hs:AT.size Ib=7:=rfl;rw[hs]at d;obtain⟨o0,O,y,T,_,J,v,_⟩:=Bi;refine⟨x,K,⟨?_,?_,?_,?_,?_,?_,?_⟩,TY y,(oH J).2,(TY v).1,(TY v).2⟩<;>rw[add_add]
 ·exact d 0 _ rfl
 ·exact d 1 _ rfl
 ·exact d 2 _ rfl
 ·exact d 3 _ rfl
 ·exact d 4 _ rfl
 ·exact d 5 _ rfl
 ·exact d 6 _ rfl
theorem SN{E:Env}{Z:List Pr}{w:World}(H:Sat Z w){d y v a1:AZ}{z:Nat->Nd Ib}(hA: ∀w',Sat Z w'->Lp w' Ib a1 z)
  {K:Bool->World->Prop}(hK: ∀r w',(r=false->d.len<=100/\y.len<=200/\v.len<=2000/\a1.len<=100/\ ∀j,j<a1.len->oW (z j)<=2->oN (z j)<=3000∨134217728<oN (z j))->Sat Z w'->K r w'):F.Fs E d y v a1 K w:=by
 unfold F.Fs;refine Ad (vs:=[.slice d.base d.len d.cap,.slice y.base y.len y.cap,.slice v.base v.len v.cap]) H fun b1 w2 O _=> ?_;have J:=hA w2 O.tail;have aM:=J.1;have aP:=J.2.1;refine AK (fun st w'=> ∃i:Nat,st.2.1=(i:Int)/\i<=a1.len/\w'=w2/\ ∀j,j<i->oW (z j)<=2->oN (z j)<=3000∨134217728<oN (z j)) (fun st _=>((a1.len:Int)-st.2.1).toNat) ⟨0,rfl,Nat.zero_le _,rfl,fun j hj=>by omega⟩ ?_;rintro⟨n,i',u⟩ _ w4 ⟨i,hi,aJ,rfl,C⟩;dsimp only at hi⊢;subst hi;have T:K true w4:=hK true w4 (fun e=>by cases e) O.tail;refine AD (fun aG=> ?_) fun aH=> ?_
 ·obtain⟨x,hx,Y,_⟩:=gW J (show i<a1.len by omega);rw[hx];simp only[AI];have hb:(0:Int)<=(i:Int)/\(i:Int)<(a1.len:Nat):=⟨by omega,by omega⟩;have c0:=Y.1;rw[add_add,Nat.add_zero]at c0;have nx:(oW (z i)<=2->oN (z i)<=3000∨134217728<oN (z i))->(∃i2:Nat,i64 ((i:Int)+1)=(i2:Int)/\i2<=a1.len/\w4=w4/\ ∀j,j<i2->oW (z j)<=2->oN (z j)<=3000∨134217728<oN (z j))/\((a1.len:Int)-i64 ((i:Int)+1)).toNat<((a1.len:Int)-(i:Int)).toNat:=fun hn=>by
   rw[AH (n:=(i:Int)+1)];refine⟨⟨i+1,rfl,by omega,rfl,fun j hj hw=> ?_⟩,by omega⟩;by_cases e:j=i
   ·rw[e]at hw⊢;exact hn hw
   ·exact C j (by omega) hw
  refine An ⟨hb,_,c0,AD (fun _=>⟨hb,_,Y.2.2.1,fun j=>AD (fun hN=>⟨hb,_,Y.2.2.1,AD (fun _=>T) fun hs=>⟨hb,_,Y.2.2.1,AU fun m _=>nx fun _=>.inl (by omega)⟩⟩) fun hN=>nx fun _=>.inr (by omega)⟩) fun hW j=>Ac rfl (nx fun c=>absurd c hW)⟩
 ·refine AD (fun _=>T) fun _=>AD (fun _=>T) fun _=>⟨d,O.A2 rfl,AD (fun _=>T) fun g0=>⟨y,O.cell rfl,AD (fun _=>T) fun g1=>⟨v,O.cell rfl,hK _ _ (fun e=> ?_) O.tail⟩⟩⟩;have:=of_decide_eq_false e;exact⟨by omega,by omega,by omega,by omega,fun j hj=>C j (by omega)⟩
section
variable{E:Env}{w:World}(hE:Vw E)
include hE
theorem Rw{v j d a1:AZ}{z0:Nat->Int}{z1:Nat->Bool}{z2:Nat->Int}{z:Nat->Nd Ib}(hT:GV E.AP w)(h0:Lp w (.int .u64) v z0)(h1:Lp w .bool j z1)(h2:Lp w (.int .u64) d z2)(hA:Lp w Ib a1 z)
  {K:Bool->World->Prop}(hK: ∀w',Ext AN w w'->K true w'):F.Br E v j d a1 K w:=by
 unfold F.Br T0.Br;refine Ad (vs:=[Ie v,Ie j,Ie d]) (Sat.start w) fun b1 w2 H2 _=>⟨v,H2.cell rfl,j,H2.cell rfl,d,H2.cell rfl,?_⟩;refine SN H2 (fun w' h=>hA.nZ (h.MS 1 rfl)) fun r w7 hr H7=>AQ (fun _=>hK w7 (H7.MS 1 rfl)) fun er=>⟨v,H7.cell rfl,j,H7.cell rfl,d,H7.cell rfl,?_⟩;obtain⟨l0,l1,l2,l3,aL⟩:=hr er;have r0: ∀w',Ext AN w w'->rowAt w' v.base v.len (ints .u64 (K0 v.len z0)):=fun w' h=>Ql (Nf.xM h0 h);have r1: ∀w',Ext AN w w'->rowAt w' j.base j.len (A6 (K0 j.len z1)):=fun w' h=>UP (Nf.wG h1 h);have r2: ∀w',Ext AN w w'->rowAt w' d.base d.len (ints .u64 (K0 d.len z2)):=fun w' h=>Ql (Nf.xM h2 h);have aA:=iI h0;have aZ:=hA.1;have aX:=hA.2.1;refine T5 H7 (fun w' h=>r0 w' (h.MS 1 rfl)) (FV _ _) (by omega) (fun w' h=>r1 w' (h.MS 1 rfl)) (FV _ _) (by omega) (fun w' h=>r2 w' (h.MS 1 rfl)) (FV _ _) (by omega) fun s0 s1 s2 bU O=> ?_;have e0:=(O.front 0 rfl).FH;have e1:=(O.front 1 rfl).FH;have e2:=(O.front 2 rfl).FH;rw[ints,List.length_map,FV]at e0 e2;rw[A6,List.length_map,FV]at e1;refine Sm O aA (fun w' h=>by simpa using(h.front 0 rfl).M4) (by rw[FV];omega) (by omega) (fun w' h=>by simpa using(h.front 1 rfl).M4) (by rw[FV];omega) (by omega) (fun w' h=>by simpa using(h.front 2 rfl).M4) (by rw[FV];omega) (by omega) fun m bS aF=> ?_;have J:=(((aF.front 1 rfl).tail.front 1 rfl).tail.front 1 rfl).tail;refine⟨v,(J.front 1 rfl).cell rfl,j,(J.front 1 rfl).cell rfl,d,(J.front 1 rfl).cell rfl,?_⟩;refine a9 J aA (fun w' h=>r0 w' (h.MS 2 rfl)) (FV _ _) (by omega) (fun w' h=>r1 w' (h.MS 2 rfl)) (FV _ _) (by omega) (fun w' h=>r2 w' (h.MS 2 rfl)) (FV _ _) (by omega) fun c bF aJ=> ?_;refine X2 (um:=fun _=>(NI,NI)) aJ fun r bH aI=>Ac rfl ?_;refine RJ (aI.front 1 rfl) fun h bI aY aG=>HH (fun st w'=>st.1=false/\Sat [Aj E h (HS.new (Mh (K0 v.len z0) (K0 j.len z1) (K0 d.len z2))),GG E r (HS.new (Mh (K0 v.len z0) (K0 j.len z1) (K0 d.len z2))) (fun _=>(NI,NI)),Old w] w') (Ac rfl ?_) ?_
 ·unfold F.Ep;exact Aa ⟨_,aY,wK rfl ⟨rfl,(aG.front 2 rfl).tail⟩⟩
 rintro⟨s,u⟩ _ bJ ⟨hs,aH⟩;dsimp only at hs⊢;subst hs;refine Ac rfl ?_;have aM: ∀w',Sat [Old w] w'->GV E.AP w':=fun w' h=>hT.ext (h.MS 0 rfl);refine AK (fun st w'=> ∃(i:Nat) (S:HS) (um:TH),st.1=(i:Int)/\i<=a1.len/\Al S no/\JP S um/\NL S/\DE S.V.laid<=3512*i/\Sat [Aj E h S,GG E r S um,Old w] w') (fun st _=>((a1.len:Int)-st.1).toNat)
  ⟨0,_,_,rfl,Nat.zero_le _,Al.Mh _ _ _,fun id x hx=>(by cases hx),fun x hx=>(aA x hx).1,by show(0:Int)<=_;omega,aH⟩ ?_
 clear aH aG aI aJ J aF O H7 H2;rintro⟨i',u⟩ _ bM ⟨i,S,um,hi,bB,hI,hU,hP,hB,aB⟩;dsimp only at hi⊢;subst hi;refine AD (fun bL=> ?_) fun _=> ?_
 ·refine HH (fun st w'=>st.1=false/\ ∃S um,Al S no/\JP S um/\NL S/\DE S.V.laid<=3512*(i+1)/\Sat [Aj E h S,GG E r S um,Old w] w') ?_ ?_
  ·obtain⟨x,hx,Y,hn,ho,ha⟩:=gW (hA.nZ (aB.MS 2 rfl)) (show i<a1.len by omega);rw[hx];refine Aa ⟨⟨by omega,by omega⟩,_,Y.1,_,Y.2.1,_,Y.2.2.1,_,Y.2.2.2.1,_,Y.2.2.2.2.1,_,Y.2.2.2.2.2.1,_,Y.2.2.2.2.2.2,?_⟩;refine WX hE aM aB hI hU hP (by omega) hn.1 hn.2 ho ha.1 ha.2 (fun c=>aL i (by omega) (by omega)) fun S' um' a7 aD y C T aT=>Ac rfl ⟨by decide,?_⟩;refine BW (fun _=>Ph hE aD y C (by decide) (by decide) fun bK aR=>⟨rfl,S',um',y,C,T,by omega,aR⟩) fun _=>⟨rfl,S',um',y,C,T,by omega,aD⟩
  rintro⟨s,u⟩ _ bN ⟨hs,S',um',y,C,T,aT,aS⟩;dsimp only at hs⊢;subst hs;refine Ac rfl ?_;rw[AH (n:=(i:Int)+1)];exact⟨⟨i+1,S',um',by omega,by omega,y,C,T,by omega,aS⟩,by omega⟩
 ·refine Ph hE aB hI hU (by decide) (by decide) fun bD aW=>AV rfl (Vu hE.toEnvA (fun w' h'=>aM w' h'.tail.tail) aW fun aV aU=>hK aV (aU.MS 2 rfl))
theorem Pt{d v j a1:AZ}{z:Nat->Nd Ib}(hT:GV E.AP w)(h0: ∃O,Lp w (.int .u64) d O)(h1: ∃C,Lp w .bool v C)(y: ∃Y,Lp w (.int .u64) j Y)(T:Lp w Ib a1 z)
  {K:Bool->World->Prop}(J: ∀w',Ext AN w w'->K true w'):F.Br E d v j a1 K w:=
 let⟨_,h0⟩:=h0;let⟨_,h1⟩:=h1;let⟨_,y⟩:=y;Rw hE hT h0 h1 y T J
end
end Go.Sh
namespace Go.Proofs.YtcjamkpfbpfeoaaGreatDoor.heapPlays
open Go.ChangeShapes Go.WideShapes Go.ChangeAt Go.RowKit
set_option linter.unusedVariables false
set_option linter.unusedSimpArgs false
theorem own:ownKnob Tryz.prog.godebug=none:=by kernel_rfl
theorem laidOut:laidOutB Tryz.prog=true:=by kernel_rfl
theorem gTab:Tryz.prog.globalNamed "math/bits.deBruijn64tab" =some 0:=by kernel_rfl
theorem gTabType:(Tryz.prog.globals[0]?).map (·.type)=some 208:=by kernel_rfl
theorem und1:Tryz.prog.underlying 208=some (.array 64 5):=by kernel_rfl
theorem und2:Tryz.prog.underlying 5=some (.int .u8):=by kernel_rfl
theorem cells1:Tryz.prog.cellsOf 208=64:=by kernel_rfl
theorem cells2:Tryz.prog.cellsOf 5=1:=by kernel_rfl
theorem table{W:World}(h:laidMetH Tryz.prog Rows.heapPlaysRow.laid W):Go.Sh.GV Go.Sh.env.AP W:=by
 have d:=Lib.tabIs_of_head (rest:=[]) (k:=.u8) (zs:=Lib.deBruijn64tab.map fun n:Nat=>(n:Int)) gTab gTabType und1 und2 cells2 cells1 h;intro i hi;have:=d.cell gTab i (by rw[List.length_map];exact hi);rw[show(Lib.deBruijn64tab.map fun n:Nat=>(n:Int)).getD i 0=((Lib.deBruijn64tab.getD i 0:Nat):Int) by rw[List.getD_eq_getElem?_getD,List.getD_eq_getElem?_getD,List.getElem?_map];cases Lib.deBruijn64tab[i]? <;>rfl]at this;exact this
theorem walk(x:Go.Sh.U0 [.cons (.sl (.int .u64)) (.cons (.sl (.bool)) (.cons (.sl (.int .u64)) (.nil))),.sl (.cons (.int .i64) (.cons (.int .i64) (.cons (.int .u64) (.cons (.int .i64) (.cons (.bool) (.cons (.int .i64) (.cons (.int .u64) (.nil))))))))])(w:World)(h:Go.Sh.Wr w [.cons (.sl (.int .u64)) (.cons (.sl (.bool)) (.cons (.sl (.int .u64)) (.nil))),.sl (.cons (.int .i64) (.cons (.int .i64) (.cons (.int .u64) (.cons (.int .i64) (.cons (.bool) (.cons (.int .i64) (.cons (.int .u64) (.nil))))))))] x)(d:Go.Sh.GV Go.Sh.env.AP w):
  Calls Tryz.prog 3 ⟨Go.Sh.Pz [.cons (.sl (.int .u64)) (.cons (.sl (.bool)) (.cons (.sl (.int .u64)) (.nil))),.sl (.cons (.int .i64) (.cons (.int .i64) (.cons (.int .u64) (.cons (.int .i64) (.cons (.bool) (.cons (.int .i64) (.cons (.int .u64) (.nil))))))))] x⟩ w fun e w'=>e= .returned (.bool true)/\Below w.heap.size w w':=by
 obtain⟨a0,a1,u⟩:=x;obtain⟨w0,w1,_⟩:=h;obtain⟨j,w1⟩:=w1;refine(Go.Sh.AA3 _ w (fun v w'=>v= .bool true/\Below w.heap.size w w') Go.Sh.LU ?_).2.mono ?_
 ·show Go.Sh.F.Br Go.Sh.env a0.1 a0.2.1 a0.2.2.1 a1 (fun r w'=>Value.bool r= .bool true/\Below w.heap.size w w') w;exact Go.Sh.Pt Go.Sh.envH d w0.1 w0.2.1 w0.2.2.1 w1 fun w' h=>⟨rfl,h.below (Nat.le_refl _) fun _ f=>f.elim⟩
 ·intro e w' hE;obtain⟨v,rfl,rfl,h⟩:=hE.val;exact⟨rfl,h⟩
noncomputable def laidWorld(os:Os):World:=
 {World.holding Tryz.prog os ⟨#[],#[],[]⟩with heap:=(World.holding Tryz.prog os ⟨#[],#[],[]⟩).heap.modify 0 fun
   | .cells _ t frozen=>.cells ⟨Lib.deBruijn64tab.map fun n:Nat=>.int .u8 (n:Int)⟩ t frozen
   | o=>o}
theorem laid_met(os:Os):laidMet Tryz.prog Rows.heapPlaysRow.laid ((laidWorld os).forCall (fun _ _=>0) ⟨#[],#[.agg #[.slice none 0 0,.slice none 0 0,.slice none 0 0],.slice none 0 0],[]⟩).memory:=
 laidMet_of_run' 8 (by kernel_rfl) (by kernel_rfl)
theorem reads(os:Os){H:Type}(enc:TypeId×Value->H): ∃places,DataW.whole enc Tryz.prog ((laidWorld os).forCall (fun _ _=>0) ⟨#[],#[.agg #[.slice none 0 0,.slice none 0 0,.slice none 0 0],.slice none 0 0],[]⟩).memory Tryz.f3.params.toList Rows.heapPlaysSpec.vars false (#[.agg #[.slice none 0 0,.slice none 0 0,.slice none 0 0],.slice none 0 0]:Array Value).toList 8=some ([.agg [.nil,.nil,.nil],.nil],[],places):=
 ⟨[],by kernel_rfl⟩
set_option maxRecDepth 100000 in
theorem lifted(os:Os)(started:os.Started)(H:Type)(enc:TypeId×Value->H)(F:Stop.Interp):
  ReturnsInHanded {} Tryz.checked os 3 .any ((OpenSpec.ofChange Rows.heapPlaysSpec).preRow enc Tryz.prog Tryz.f3 Rows.heapPlaysRow.domain false Rows.heapPlaysRow.laid) (((OpenSpec.ofChange Rows.heapPlaysSpec).at F).post enc Tryz.prog Tryz.f3 false true false false):=by
 obtain⟨places,T⟩:=reads os enc;refine returnsInHanded_of_row (C:=Tryz.checked) (s:=OpenSpec.ofChange Rows.heapPlaysSpec) own started (by kernel_rfl) Tryz.func3
  (witness_row_at (enc:=enc) (C:=Tryz.checked) false (laidWorld os) #[.agg #[.slice none 0 0,.slice none 0 0,.slice none 0 0],.slice none 0 0] rfl (by kernel_rfl) (by kernel_rfl) (by kernel_rfl)
   (OpenSpec.preRow_of_cond 8 T (by kernel_rfl) (fun k hk=>by cases hk) (by kernel_rfl) (laid_met os))) ?_
 intro W base args J gs before d Y _ _ _ hL _ _;have K:=Y;obtain⟨p,q,O,hV,rfl,aA,aE⟩:=Y;obtain⟨rfl,rfl⟩:=trodVars_none hV;have y:=Go.Sh.YA (P:=Tryz.prog) (shs:=[.cons (.sl (.int .u64)) (.cons (.sl (.bool)) (.cons (.sl (.int .u64)) (.nil))),.sl (.cons (.int .i64) (.cons (.int .i64) (.cons (.int .u64) (.cons (.int .i64) (.cons (.bool) (.cons (.int .i64) (.cons (.int .u64) (.nil))))))))]) (by kernel_rfl) (fun j t v ht hv=>d j t v (by simpa using ht) (by simpa using hv)) O;obtain⟨x,T,Bi⟩:=Go.Sh.Qg y;obtain rfl:args=⟨Go.Sh.Pz [.cons (.sl (.int .u64)) (.cons (.sl (.bool)) (.cons (.sl (.int .u64)) (.nil))),.sl (.cons (.int .i64) (.cons (.int .i64) (.cons (.int .u64) (.cons (.int .i64) (.cons (.bool) (.cons (.int .i64) (.cons (.int .u64) (.nil))))))))] x⟩:=Array.toList_inj.1 (by simpa using T);have hlen:=Go.Sh.PD O;obtain⟨d0,d1,rfl⟩: ∃d0 d1,J=[d0,d1]:=by
  have hl:J.length=2:=hlen
  match J,hl with
  | [d0,d1],_=>exact⟨d0,d1,rfl⟩
 refine(walk x W Bi (table hL)).mono fun e W' ⟨he,bel⟩=> ?_;subst he;exact⟨_,rfl,_,_,_,[],_,[],K,trodAll_mk1 (shut_bool Tryz.underlying4 _),Go.Sh.Mn laidOut bel (by kernel_rfl) O,rfl,bel.frame _,fun h=>by cases h⟩
theorem said:Rows.HeapPlaysSaid:=
 OpenClaim.holds_of_cond 3 Tryz.f3 rfl rfl rfl rfl rfl rfl rfl ⟨rfl,rfl,rfl,rfl,rfl⟩ rfl rfl rfl rfl rfl (by kernel_rfl) Tryz.func3 (by kernel_rfl)
  (of_decide_eq_true (by kernel_rfl)) (by unfold Func.isWrapper;first|(rw[if_pos (by decide+kernel)];kernel_rfl)|(rw[if_neg (by decide+kernel)];exact⟨rfl,rfl⟩))
  (fun os started H enc _ F=>by rw[OpenClaim.pre_eq_preRow];exact lifted os started H enc F)
theorem plain(f:FuncId)(fn:Func)(hf:Tryz.pinned.checked.prog.funcNamed "mallow/mallowlaw16.HeapPlays" =some f)(v:Tryz.pinned.checked.prog.funcs[f]? =some fn):
  true=Tryz.pinned.checked.prog.looks []/\ ∀(j:Nat) t,fn.params[j]? =some t->Tryz.pinned.checked.prog.wantsStandIn t=false:=by
 obtain rfl:f=3:=Option.some.inj ((show Tryz.prog.funcNamed "mallow/mallowlaw16.HeapPlays" =some 3 by kernel_rfl).symm.trans hf)|>.symm;obtain rfl:fn=Tryz.f3:=(Option.some.inj (Tryz.func3.symm.trans v)).symm;refine⟨by kernel_rfl,fun j t y=> ?_⟩;have d:(Tryz.f3.params.toList.all fun t=> !(Tryz.prog.wantsStandIn t))=true:=by kernel_rfl
 have:=List.all_eq_true.1 d t (Array.mem_toList_iff.2 (Array.mem_of_getElem? y));exact Bool.not_eq_true' _▸this
theorem proved:Rows.HeapPlaysCardSaid:=
 Claim7.holds_tied_plain_at .later [] _ _ _ _ said (fun _ h=>by cases h) (by kernel_rfl) (fun _ h=>by cases h) heapPlays_row_tie rfl ⟨rfl,rfl⟩ (by kernel_rfl) rfl plain (by kernel_rfl)
#print axioms proved
end Go.Proofs.YtcjamkpfbpfeoaaGreatDoor.heapPlays

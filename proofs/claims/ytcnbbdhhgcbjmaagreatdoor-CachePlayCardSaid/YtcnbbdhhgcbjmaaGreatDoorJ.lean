/- What the law's functions do. No further condition. -/
import Derived.Test.YtcnbbdhhgcbjmaaGreatDoorR
import Derived.Test.YtcnbbdhhgcbjmaaGreatDoorA
import Derived.Test.YtcnbbdhhgcbjmaaGreatDoorK
import Derived.Test.YtcnbbdhhgcbjmaaGreatDoorC
import Derived.Test.YtcnbbdhhgcbjmaaGreatDoorY
import Derived.Test.YtcnbbdhhgcbjmaaGreatDoorH
import Derived.Test.YtcnbbdhhgcbjmaaGreatDoorL
set_option linter.all false
set_option maxRecDepth 50000
set_option maxHeartbeats 4000000
namespace Go.Sh
section
variable{l:Iv}{fr md to s m e s' m' e':Int}
end
def Win(vs:List Value)(o:Nat)(u:Int->Bool):Prop:=o+512<=vs.length/\ ∀k:Int,0<=k->k<512->vs[o+k.toNat]? =some (.bool (u k))
section
variable{E:Env}{w:World}{Z:List Pr}{b t o:Nat}{vs:List Value}{u:Int->Bool}
def S7{i n:Int}(O: -9223372036854775808<=i)(J:i<9223372036854775808){K:Bool->World->Prop}
  (v:0<=i->0<=n->i+n<=512->K true w)(j: ¬(0<=i/\0<=n/\i+n<=512)->K false w):F.HI E i n K w:=by
 unfold F.HI;refine AB (λh1=>AB (λh2=>AB (λy=> ?_) λy=>j (by omega)) λh2=>j (by omega)) λh1=>j (by omega);rw[AM];by_cases g:n<=512-i
 .rw[decide_eq_true g];exact v h1 h2 (by omega)
 .rw[decide_eq_false g];exact j (by omega)
def nA(H:Sat (Cells b t vs::Z) w)(hl:o+512<=vs.length){i n:Int}(h0:0<=i)(h1:0<=n)(h2:i+n<=512)(x:Bool){K:Int->World->Prop}
  (hK: ∀w' y,y.length=vs.length->(∀j,y[j]? =if o+i.toNat<=j/\j<o+(i+n).toNat then some (.bool x)else vs[j]?)->Sat (Cells b t y::Z) w'->K 0 w'):
  F.Dn E (some ⟨b,o,none⟩) i n x K w:=by
 unfold F.Dn T0.Dn;refine S7 (by omega) (by omega) (λ_ _ _=>AO rfl ?_) λh=>absurd ⟨h0,h1,h2⟩ h;simp only[AH,Nat.mul_one];rw[AM (n:=i+n)];refine AJ (λst w'=>i<=st.1/\st.1<=i+n/\ ∃y,y.length=vs.length/\(∀j,y[j]? =if o+i.toNat<=j/\j<o+st.1.toNat then some (.bool x)else vs[j]?)/\Sat (Cells b t y::Z) w') (λst _=>(i+n-st.1).toNat)
  ⟨Int.le_refl _,by omega,vs,rfl,λj=>by grind,H⟩ ?_
 rintro⟨k,v⟩ _ w4 ⟨k0,k1,y,aA,J,O⟩;simp only at k0 k1 J⊢;refine AB (λaB=>⟨⟨by omega,by omega⟩,?_⟩) λY=> ?_
 .rw[AM (n:=k+1)];refine AV O rfl (by omega) λw7 T=>⟨⟨by omega,by omega,_,by grind,λj=> ?_,T⟩,by omega⟩;rw[List.getElem?_set,J]
  grind
 .have e:k=i+n:=by omega
  grind
def bT(H:Sat (Cells b t vs::Z) w)(hu:Win vs o u){K:Int->World->Prop}(y:K (cu u 512) w):F.DB E (some ⟨b,o,none⟩) 0 512 K w:=by
 unfold F.DB T0.DB;refine S7 (by omega) (by omega) (λ_ _ _=>AO rfl ?_) λh=>absurd ⟨by omega,by omega,by omega⟩ h;simp only[AH,Nat.mul_one];rw[AM (n:=0+512)];refine AJ (λst w'=> ∃k:Nat,st.2.1=(k:Int)/\k<=512/\st.1=cu u k/\w'=w) (λst _=>(512-st.2.1).toNat) ⟨0,rfl,by decide,rfl,rfl⟩ ?_;rintro⟨c,i,v⟩ _ w4 ⟨k,hk,T,j,rfl⟩;simp only at hk j⊢;subst hk;subst j;have hb:=pY u k;refine AB (λY=> ?_) λO=> ?_
 .have J:=hu.2 k (by omega) (by omega);refine⟨⟨by omega,by omega⟩,u k,H.cell J,?_⟩;rw[AM (n:=cu u k+1),AM (n:=(k:Int)+1)];refine AP (λe=>⟨⟨k+1,by omega,by omega,?_,by trivial⟩,by omega⟩) λe=>⟨⟨k+1,by omega,by omega,?_,by trivial⟩,by omega⟩
  .simp[cu,e]
  .simp[cu,e]
 .have:k=512:=by omega
  subst this;exact y
end
def sum3(x:Int×Int×Int):List Value:=[.int .i64 x.1,.int .i64 x.2.1,.int .i64 x.2.2]
def sums(L:List (Int×Int×Int)):List Value:=L.flatMap sum3
section
variable{E:Env}{w:World}{Z:List Pr}
variable{a:Ac}{L:List (Int×Int×Int)}{l:Iv}{fr P:Int}
end
abbrev CL:=List (Int×Nat)
def parts(L:CL):List Value:=L.flatMap λc=>[.int .u64 c.1,.pointer (some ⟨c.2,0,none⟩)]
def PW(L:CL):(parts L).length=L.length*2:=by
 induction L with
 | nil=>rfl
 | cons x r ih=>show(parts r).length+1+1=_;grind
def XI(L M:CL):parts (L++M)=parts L++parts M:=by simp[parts]
def SU: ∀(L:CL) {k:Nat} {x:Int×Nat},L[k]? =some x->(parts L)[k*2]? =some (.int .u64 x.1)/\(parts L)[k*2+1]? =some (.pointer (some ⟨x.2,0,none⟩))
 | y::r,0,x,h=>by have h:y=x:=Option.some.inj h;subst h;exact⟨rfl,rfl⟩
 | y::r,k+1,x,h=>by
  have:=SU r h;have e:parts (y::r)= .int .u64 y.1:: .pointer (some ⟨y.2,0,none⟩)::parts r:=rfl
  grind
def XJ(L:CL): ∀v∈parts L,v.oneCell'=true:=by
 intro v y;simp only[parts,List.mem_flatMap]at y;obtain⟨c,_,j⟩:=y;simp at j;rcases j with rfl|rfl<;>rfl
def Vb: ∀(L:CL) (k:Nat),(parts L).take (k*2)=parts (L.take k)
 | [],k=>by simp[parts]
 | y::r,0=>by simp[parts]
 | y::r,k+1=>by
  have e:parts (y::r)= .int .u64 y.1:: .pointer (some ⟨y.2,0,none⟩)::parts r:=rfl;rw[e,show(k+1)*2=k*2+1+1 by omega,List.take_succ_cons,List.take_succ_cons,Vb r k];rfl
def Vc: ∀(L:CL) (k:Nat),(parts L).drop (k*2)=parts (L.drop k)
 | [],k=>by simp[parts]
 | y::r,0=>by simp
 | y::r,k+1=>by
  have e:parts (y::r)= .int .u64 y.1:: .pointer (some ⟨y.2,0,none⟩)::parts r:=rfl;rw[e,show(k+1)*2=k*2+1+1 by omega,List.drop_succ_cons,List.drop_succ_cons,Vc r k];rfl
def posC:CL->Int->Nat
 | [],_=>0
 | c::r,n=>if c.1<n then posC r n+1 else 0
def Mh(L:CL):Prop:=L.Pairwise λa b=>a.1<b.1
def Tz: ∀(L:CL) (n:Int),posC L n<=L.length
 | [],_=>Nat.le_refl _
 | c::r,n=>by simp only[posC];split;exact Nat.succ_le_succ (Tz r n);omega
def Iy: ∀{L:CL} {n:Int} {j:Nat} {c:Int×Nat},L[j]? =some c->j<posC L n->c.1<n
 | c::r,n,0,x,h,hj=>by
  have h:c=x:=Option.some.inj h;subst h;simp only[posC]at hj;grind
 | c::r,n,j+1,x,h,hj=>by
  simp only[posC]at hj;split at hj
  .exact Iy (L:=r) h (by omega)
  .omega
def T3: ∀{L:CL} {n:Int} {c:Int×Nat},L[posC L n]? =some c->n<=c.1
 | c::r,n,x,h=>by
  simp only[posC]at h;split at h
  .exact T3 (L:=r) h
  .have h:c=x:=Option.some.inj h
   grind
def QR{L:CL}(hs:Mh L){n:Int}{j:Nat}{c:Int×Nat}(h:L[j]? =some c)(y:posC L n<=j):n<=c.1:=by
 have J:=(List.getElem?_eq_some_iff.1 h).1;have v:=List.getElem?_eq_getElem (show posC L n<L.length by omega);have h1:=T3 v;rcases Nat.lt_or_eq_of_le y with h2|h2
 .have:=List.pairwise_iff_getElem.1 hs (posC L n) j (by omega) J h2
  grind
 grind
def RZ{L:CL}(hs:Mh L){n:Int}{c:Int×Nat}(y:c∈L)(T:c.1=n):L[posC L n]? =some c:=by
 obtain⟨j,v⟩:=List.mem_iff_getElem?.1 y;rcases Nat.lt_or_ge j (posC L n)with h|h
 .have:=Iy v h;omega
 .have K:=(List.getElem?_eq_some_iff.1 v).1;rcases Nat.lt_or_eq_of_le h with h2|h2
  .have J:=List.getElem?_eq_getElem (show posC L n<L.length by omega);have:=T3 J;have O:=List.pairwise_iff_getElem.1 hs (posC L n) j (by omega) K h2
   grind
  grind
def Vd(E:Env)(U G:Int->Bool)(c:Int×Nat):Pr:=Cells c.2 E.Jh (flags 512 (λk=>U (c.1*512+k))++flags 512 (λk=>G (c.1*512+k)))
structure Ve(l:Nat->Iv)(L:CL)(U G:Int->Bool):Prop where
 IJ:Mh L
 Yz: ∀c∈L,0<=c.1/\c.1<67108864
 jF:Ok (l 0)
 ME:Ok (l 1)
 Pm:Ok (l 2)
 l0: ∀p,mem (l 0) p↔ ∃c∈L,c.1=p/512
 l1: ∀p,mem (l 1) p↔mem (l 0) p/\U p=false
 l2: ∀p,mem (l 2) p↔mem (l 0) p/\G p=true
def Ld(E:Env)(r:Nat)(s:Ac)(L:CL)(U G:Int->Bool):List Pr:=[Cells r E.Cy [.slice s.base s.len s.cap],Row E.A0 2 s (parts L),Ad (Vd E U G) L]
def G7(E:Env)(r:Nat)(l:Nat->Iv):Pr:=Ex λx:Ac×CL×(Int->Bool)×(Int->Bool)=>Kk (Ve l x.2.1 x.2.2.1 x.2.2.2) (NR (Ld E r x.1 x.2.1 x.2.2.1 x.2.2.2))
def Sat.Kr{E:Env}{r:Nat}{l:Nat->Iv}{Z:List Pr}{w:World}:Sat (G7 E r l::Z) w↔ ∃s L U G,Ve l L U G/\Sat (Ld E r s L U G++Z) w:=by
 unfold G7;rw[Sat.ex];constructor
 .rintro⟨x,h⟩;obtain⟨h1,h2⟩:=Sat.where.1 h;exact⟨_,_,_,_,h1,Sat.star.1 h2⟩
 .rintro⟨s,L,U,G,h1,h2⟩;exact⟨(s,L,U,G),Sat.where.2 ⟨h1,Sat.star.2 h2⟩⟩
def Ns{L:CL}(hs:Mh L)(j: ∀c∈L,0<=c.1/\c.1<67108864):L.length<=67108864:=by
 have key: ∀(L:CL) (B:Int),Mh L->(∀c∈L,B<=c.1/\c.1<67108864)->B<=67108864->(L.length:Int)<=67108864-B:=by
  intro L
  induction L with
  | nil=>grind
  | cons x r ih=>
   intro B hs j y;have h1:=j x (by simp);have hp:=List.pairwise_cons.1 hs;have:=ih (x.1+1) hp.2 (λc v=>⟨by grind,(j c (by simp[v])).2⟩) (by omega)
   grind
 have:=key L 0 hs j (by decide);omega
section
variable{E:Env}{w:World}{Z:List Pr}{r:Nat}{s:Ac}{L:CL}{U G:Int->Bool}{l:Nat->Iv}
def MA(H:Sat (Ld E r s L U G++Z) w):s.len=L.length:=by
 have:=(H.front 1 rfl).EA;rw[PW]at this;omega
def FL(H:Sat (Ld E r s L U G++Z) w):w.cell? (Addr.mk r 0 none)=some (.slice s.base s.len s.cap):=H.Aa rfl
def LU(H:Sat (Ld E r s L U G++Z) w){k:Nat}{x:Int×Nat}(hk:L[k]? =some x): ∃a,s.base=some a/\k<s.len/\w.cell? (a.add (k*2))=some (.int .u64 x.1)/\w.cell? ((a.add (k*2)).add 1)=some (.pointer (some ⟨x.2,0,none⟩)):=by
 have h1:=H.front 1 rfl;have j:=h1.own;obtain⟨g1,g2⟩:=SU L hk;have hlen:=MA H;have y:=(List.getElem?_eq_some_iff.1 hk).1;obtain⟨b,v⟩:=j.Gf (by omega);refine⟨_,v,by omega,j.cell v g1,?_⟩;rw[add_add];exact j.cell v g2
def Nt(H:Sat (Ld E r s L U G++Z) w){k:Nat}{x:Int×Nat}(hk:L[k]? =some x):
  Sat (Vd E U G x::Ad (Vd E U G) (L.eraseIdx k)::Cells r E.Cy [.slice s.base s.len s.cap]::Row E.A0 2 s (parts L)::Z) w:=
 (H.front 2 rfl).HA hk
def wS(x:Int×Nat):Win (flags 512 (λk=>U (x.1*512+k))++flags 512 (λk=>G (x.1*512+k))) 0 λk=>U (x.1*512+k):=by
 refine⟨by simp[Cf],λk h0 h1=> ?_⟩;rw[List.getElem?_append_left (by rw[Cf];omega)];exact NU (n:=512) (u:=λk=>U (x.1*512+k)) h0 h1
def j6(x:Int×Nat):Win (flags 512 (λk=>U (x.1*512+k))++flags 512 (λk=>G (x.1*512+k))) 512 λk=>G (x.1*512+k):=by
 refine⟨by simp[Cf],λk h0 h1=> ?_⟩;rw[List.getElem?_append_right (by rw[Cf];omega),Cf,show 512+k.toNat-512=0+k.toNat by omega];exact NU (n:=512) (u:=λk=>G (x.1*512+k)) h0 h1
def XK(H:Sat (Ld E r s L U G++Z) w){k:Nat}{x:Int×Nat}(hk:L[k]? =some x){i:Int}(h0:0<=i)(h1:i<512):w.cell? ((Addr.mk x.2 0 none).add i.toNat)=some (.bool (U (x.1*512+i))):=
 (Nt H hk).cell ((wS x).2 i h0 h1)
def nB(H:Sat (Ld E r s L U G++Z) w){k:Nat}{x:Int×Nat}(hk:L[k]? =some x){i:Int}(h0:0<=i)(h1:i<512):w.cell? (((Addr.mk x.2 0 none).add 512).add i.toNat)=some (.bool (G (x.1*512+i))):=by
 rw[add_eq,Nat.zero_add];exact(Nt H hk).cell (o:=512) ((j6 x).2 i h0 h1)
def Nu(H:Sat (Ld E r s L U G++Z) w){n:Int}{K:Int->Bool->World->Prop}
  (hK: ∀w' ok,(ok=true↔ ∃c,L[posC L n]? =some c/\c.1=n)->Sat (Ld E r s L U G++Z) w'->K (posC L n) ok w'):F.Dm E (some ⟨r,0,none⟩) n K w:=by
 unfold F.Dm;simp only[AH];have hlen:=MA H;have aB:L.length<9223372036854775808:=by have:=(H.front 1 rfl).own;have:=this.cap;have:=(H.front 1 rfl).own.top;omega
 refine Aj (λst w'=>w'=w/\st.1=(posC L n:Nat)) ?_ ?_
 .refine AJ (λst w'=>w'=w/\ ∃k:Nat,st.1=(k:Int)/\k<=L.length/\posC L n=posC (L.drop k) n+k) (λst _=>(L.length-st.1).toNat) ⟨rfl,0,rfl,Nat.zero_le _,rfl⟩ ?_;rintro⟨i,v⟩ _ w5 ⟨rfl,k,hk,aD,hp⟩;dsimp only at hk⊢;subst hk;refine⟨s,FL H,AB (λT=>⟨s,FL H,?_⟩) λO=>⟨rfl,?_⟩⟩
  .have hl:k<L.length:=by omega
   have j:=List.getElem?_eq_getElem hl;have hd:=UU j;rw[hd]at hp;obtain⟨a,J,_,c1,_⟩:=LU H j;generalize L[k]=x at j c1 hp;rw[J];simp only[AH,Int.toNat_natCast];rw[AM (n:=(k:Int)+1)];refine⟨⟨by omega,by omega⟩,_,c1,AB (λh=>⟨⟨by trivial,k+1,by omega,by omega,?_⟩,by omega⟩) λh=>⟨by trivial,?_⟩⟩
   .rw[hp];simp only[posC];grind
   .rw[hp];simp only[posC];grind
  .have:k=L.length:=by omega
   subst this;rw[hp,List.drop_length];show _=(((0:Nat)+L.length:Nat):Int);omega
 .rintro⟨i,v⟩ _ w3 ⟨rfl,Y⟩;dsimp only at Y⊢;subst Y;have y:=H.drew;have aA:=Tz L n;refine⟨s,FL y,AB (λT=>⟨s,FL y,?_⟩) λO=>hK _ _ ?_ y⟩
  .have j:=List.getElem?_eq_getElem (show posC L n<L.length by omega);obtain⟨a,J,_,c1,_⟩:=LU y j;generalize L[posC L n]=x at j c1;rw[J];simp only[AH,Int.toNat_natCast]
   grind
  grind
def S8(hI:Ve l L U G)(H:Sat (Ld E r s L U G++Z) w){p:Int}(hp:0<=p)(aH:p<18446744073709551616){K:Bool->Bool->Bool->World->Prop}
  (hK: ∀w' r0 r1 r2,(r0=true↔mem (l 0) p)->(r1=true↔mem (l 1) p)->(r2=true↔mem (l 2) p)->Sat (Ld E r s L U G++Z) w'->K r0 r1 r2 w'):F.Bj E (some ⟨r,0,none⟩) p K w:=by
 unfold F.Bj T0.Bj;rw[Int.tdiv_eq_ediv_of_nonneg hp,Int.tmod_eq_emod_of_nonneg hp,AI (n:=p/512)];refine⟨by decide,Nu H λw3 ok Au O=>AP (λe=> ?_) λe=> ?_⟩
 .have v: ¬mem (l 0) p:=λhm=>by
   obtain⟨c,y,j⟩:=(hI.l0 p).1 hm;have:ok=true:=Au.2 ⟨c,RZ hI.IJ y j,j⟩
   grind
  exact hK _ _ _ _ ⟨λh=>(by cases h),λh=>absurd h v⟩ ⟨λh=>(by cases h),λh=>absurd ((hI.l1 p).1 h).1 v⟩ ⟨λh=>(by cases h),λh=>absurd ((hI.l2 p).1 h).1 v⟩ O
 .have J:ok=true:=by simpa using e
  obtain⟨c,y,j⟩:=Au.1 J;have hm:mem (l 0) p:=(hI.l0 p).2 ⟨c,List.mem_of_getElem? y,j⟩;obtain⟨a,ha,aG,c1,c2⟩:=LU O y;have T:=O.drew;have hU:=XK T y (i:=p %512) (by omega) (by omega);have Y:=nB T y (i:=p %512) (by omega) (by omega);have e2:c.1*512+p %512=p:=by omega
  rw[e2]at hU Y;simp only[AH];refine⟨s,FL O,?_⟩;rw[ha];simp only[AH,Int.toNat_natCast,Nat.mul_one];refine⟨⟨by omega,by omega⟩,_,c2,by decide,?_⟩;simp only[AH];refine⟨⟨by omega,by omega⟩,_,hU,by decide,⟨by omega,by omega⟩,_,Y,hK _ _ _ _ ⟨λ_=>hm,λ_=>rfl⟩ ?_ ?_ T⟩
  .rw[hI.l1 p]
   grind
  .rw[hI.l2 p];simp[hm]
def Vf(hI:Ve l L U G)(H:Sat (Ld E r s L U G++Z) w){x n:Int}(hx:0<=x)(aX:x<18446744073709551616)(hn:0<=n)(aU:n<18446744073709551616){K:Bool->World->Prop}
  (hK: ∀w' ok,(ok=true↔ ¬(n=0∨34359738368<=x∨34359738368-x<n∨cnt (l 0) x (x+n)≠n))->Sat (Ld E r s L U G++Z) w'->K ok w'):F.CP E (some ⟨r,0,none⟩) x n K w:=by
 unfold F.CP T0.CP;have h0: ∀{w'} (b:Bool),b=false->(n=0∨34359738368<=x∨34359738368-x<n∨cnt (l 0) x (x+n)≠n)->Sat (Ld E r s L U G++Z) w'->K b w':=λb hb h H'=>hK _ _ ⟨λe=>(by grind),λg=>absurd h g⟩ H';refine AU (BI (λe j=>AS rfl (h0 _ rfl (.inl e) H)) λe1=>AB (λe j=>AS rfl (h0 _ rfl (.inr (.inl e)) H)) λe2=> ?_);rw[AI (n:=34359738368-x)];refine λj=>AB (λe=>h0 _ rfl (.inr (.inr (.inl e))) H) λe3=>⟨by decide,?_⟩;rw[Int.tdiv_eq_ediv_of_nonneg hx,AI (n:=x/512),AI (n:=x+n),AI (n:=x+n-1),Int.tdiv_eq_ediv_of_nonneg (a:=x+n-1) (by omega),AI (n:=(x+n-1)/512)];refine Nu H λw6 ok Au H6=>⟨by decide,?_⟩;clear Au;have hlen:=MA H;have aS:=Ns hI.IJ hI.Yz;have aL:=Tz L (x/512);have T:(∀p,x<=p->p<x+n->mem (l 0) p)->cnt (l 0) x (x+n)=n:=λh=>by
  have:=(FI hI.jF (a:=x) (b:=x+n) (by omega)).2 h;omega
 have O: ∀c,x/512<=c->c<=(x+n-1)/512->cnt (l 0) x (x+n)=n->c∈L.map (·.1):=λc h1 h2 e=>by
  obtain⟨mm,aG,aH,aY⟩: ∃m,x<=m/\m<x+n/\m/512=c:=⟨max x (c*512),by omega,by omega,by omega⟩;obtain⟨y,hy,Y⟩:=(hI.l0 mm).1 ((FI hI.jF (a:=x) (b:=x+n) (by omega)).1 (by omega) mm aG aH);exact List.mem_map.2 ⟨y,hy,by omega⟩
 simp only[AH];refine AJ (λst w'=>w'=w6/\x/512<=st.2.1/\st.2.1<=(x+n-1)/512+1/\(st.1=(posC L (x/512):Nat)+(st.2.1-x/512))/\st.1<=L.length/\ ∀m,x/512<=m->m<st.2.1-> ∃c,L[(posC L (x/512)+(m-x/512).toNat)]? =some c/\c.1=m)
  (λst _=>((x+n-1)/512+1-st.2.1).toNat) ⟨rfl,Int.le_refl _,by grind,by grind,by omega,λm h1 h2=>by grind⟩ ?_
 rintro⟨at_,c,v⟩ _ w8 ⟨rfl,c0,c1,aF,aE,J⟩;dsimp only at c0 c1 aF aE J⊢;refine⟨by decide,AB (λhle=> ?_) λaQ=> ?_⟩
 .have O:=O c c0 hle;refine AU ⟨s,FL H6,AB (λaP j=>AS rfl (h0 _ rfl (.inr (.inr (.inr λe=> ?_))) H6)) λaT=>⟨s,FL H6,?_⟩⟩
  .obtain⟨y,hy,Y⟩:=List.mem_map.1 (O e);obtain⟨j,hj⟩:=List.mem_iff_getElem?.1 hy;have aR:=(List.getElem?_eq_some_iff.1 hj).1;by_cases g:j<posC L (x/512)
   .have:=Iy hj g;omega
   .obtain⟨z,hz,aA⟩:=J (x/512+(j-posC L (x/512):Nat)) (by omega) (by omega)
    grind
  .have hg:=List.getElem?_eq_getElem (show at_.toNat<L.length by omega);obtain⟨a,ha,aK,d1,_⟩:=LU H6 hg;generalize L[at_.toNat]=y at hg d1;rw[ha];simp only[AH];refine⟨⟨by omega,by omega⟩,_,d1,λj=>Ca (λaV=>h0 _ rfl (.inr (.inr (.inr λe=> ?_))) H6) λheq=> ?_⟩
   .obtain⟨y',hy,Y⟩:=List.mem_map.1 (O e);have hc:=RZ hI.IJ hy Y;have:at_.toNat=posC L c:=by
     rcases Nat.lt_trichotomy at_.toNat (posC L c)with g|g|g
     .exfalso;have g1:=Iy hg g;by_cases g2:c=x/512
      .grind
      .obtain⟨z,hz,aA⟩:=J (c-1) (by omega) (by omega);have g3:posC L (x/512)+(c-1-x/512).toNat<at_.toNat:=by omega
       have:=List.pairwise_iff_getElem.1 hI.IJ _ _ (by omega) (by omega) g3;rw[(List.getElem?_eq_some_iff.1 hz).2,(List.getElem?_eq_some_iff.1 hg).2]at this;omega
     .exact g
     .exfalso;by_cases g2:c=x/512
      .grind
      .obtain⟨z,hz,aA⟩:=J (c-1) (by omega) (by omega);have:=QR hI.IJ hz (n:=c) (by omega);omega
    grind
   .rw[AM (n:=at_+1),AI (n:=c+1)];refine⟨⟨by trivial,by omega,by omega,by omega,by omega,λm h1 h2=> ?_⟩,by omega⟩
    grind
 .refine hK _ _ ⟨λ_=> ?_,λ_=>rfl⟩ H6;have:cnt (l 0) x (x+n)=n:=by
   refine T λm h1 h2=>(hI.l0 m).2 ?_;obtain⟨z,hz,aA⟩:=J (m/512) (by omega) (by omega)
   grind
  omega
def XL(hI:Ve l L U G)(H:Sat (Ld E r s L U G++Z) w){x n:Int}(hx:0<=x)(hn:0<=n)(aF:x+n<=34359738368){K:Int->Int->World->Prop}
  (hK: ∀w',Sat (Ld E r s L U G++Z) w'->K (n-cnt (l 1) x (x+n)) (cnt (l 2) x (x+n)) w'):F.B6 E (some ⟨r,0,none⟩) x n K w:=by
 unfold F.B6 T0.B6;rw[AI (n:=x+n)];have Y: ∀{m:Iv},Ok m->cnt m x x=0:=λh=>(Di h (Int.le_refl _)).2 λk h1 h2=>by omega
 refine AJ (λst w'=>x<=st.2.2.1/\st.2.2.1<=x+n/\st.1=st.2.2.1-x-cnt (l 1) x st.2.2.1/\st.2.1=cnt (l 2) x st.2.2.1/\Sat (Ld E r s L U G++Z) w') (λst _=>(x+n-st.2.2.1).toNat)
  ⟨Int.le_refl _,by grind,by dsimp only;rw[Y hI.ME];omega,by dsimp only;rw[Y hI.Pm],H⟩ ?_
 rintro⟨a,g,p,v⟩ _ w2 ⟨J,p1,O,T,H2⟩;dsimp only at J p1 O T⊢;subst O;subst T;have b1:=DU (l 1) x p;have b2:=DU (l 2) x p;have b3:=FO hI.ME (a:=x) (b:=p) (by omega);have b4:=FO hI.Pm (a:=x) (b:=p) (by omega);refine AB (λaC=>S8 hI H2 (by omega) (by omega) λw7 r0 r1 r2 _ aD aE H7=> ?_) λaB=> ?_
 .have s1:=KM hI.ME (a:=x) (k:=p) J;have s2:=KM hI.Pm (a:=x) (k:=p) J;rw[AI (n:=p+1),AI (n:=cnt (l 2) x p+1),AI (n:=p-x-cnt (l 1) x p+1)];refine AU (AP (λe j=>AP (λy=> ?_) λy=> ?_) λe j=>AP (λy=> ?_) λy=> ?_)
  all_goals dsimp only
  .grind
  .grind
  .grind
  grind
 .have:p=x+n:=by omega
  grind
def ck_set{x:Int×Nat}{U' G':Int->Bool}{i:Int}(h0:0<=i)(h1:i<512)(a g:Bool):
  ((flags 512 (λk=>U (x.1*512+k))++flags 512 (λk=>G (x.1*512+k))).set (0+i.toNat) (.bool a)).set (512+i.toNat) (.bool g)=
   flags 512 (λk=>if x.1*512+k=x.1*512+i then a else U (x.1*512+k))++flags 512 (λk=>if x.1*512+k=x.1*512+i then g else G (x.1*512+k)):=by
 rw[List.set_append_left _ _ (by rw[Cf];omega),List.set_append_right _ _ (by simp only[List.length_set,Cf];omega)];rw[show 512+i.toNat-((flags 512 λk=>U (x.1*512+k)).set (0+i.toNat) (.bool a)).length=0+i.toNat by simp only[List.length_set,Cf];omega];rw[PK h0,PK h0];have e: ∀(f:Int->Bool) (v:Bool),(flags 512 λj=>if j=i then v else f j)=flags 512 λk=>if x.1*512+k=x.1*512+i then v else f k:=λf v=>Jq λk _ _=>by grind
 rw[e,e]
def Vg(hI:Ve l L U G)(H:Sat (Ld E r s L U G++Z) w){x n:Int}(hx:0<=x)(hn:0<=n)(aT:x+n<=34359738368)(aH: ∀p,x<=p->p<x+n->mem (l 0) p)(a g:Bool){K:World->Prop}
  (hK: ∀w',Sat (Ld E r s L (λp=>if x<=p/\p<x+n then a else U p) (λp=>if x<=p/\p<x+n then g else G p)++Z) w'->K w'):F.Cp E (some ⟨r,0,none⟩) x n a g K w:=by
 unfold F.Cp T0.Cp;rw[AI (n:=x+n)];refine AJ (λst w'=>x<=st.1/\st.1<=x+n/\Sat (Ld E r s L (λp=>if x<=p/\p<st.1 then a else U p) (λp=>if x<=p/\p<st.1 then g else G p)++Z) w') (λst _=>(x+n-st.1).toNat) ⟨Int.le_refl _,by omega,?_⟩ ?_
 .have e: ∀(f:Int->Bool) (v:Bool),(λp=>if x<=p/\p<x then v else f p)=f:=λf v=>by funext p;rw[if_neg (by omega)]
  dsimp only;rw[e,e];exact H
 rintro⟨p,v⟩ _ w2 ⟨p0,p1,H2⟩;dsimp only at p0 p1 H2⊢;refine AB (λaI=>⟨by decide,?_⟩) λaQ=> ?_
 .rw[Int.tdiv_eq_ediv_of_nonneg (by omega),Int.tmod_eq_emod_of_nonneg (by omega),AI (n:=p/512),AI (n:=p+1)];refine Nu H2 λw6 ok Au H6=> ?_;obtain⟨c,aG,aF⟩:=(hI.l0 p).1 (aH p p0 aI);have hc:=RZ hI.IJ aG aF;obtain⟨aa,ha,aR,c1,c2⟩:=LU H6 hc;simp only[AH];refine⟨s,FL H6,?_⟩;rw[ha];simp only[AH,Int.toNat_natCast,Nat.mul_one];refine⟨⟨by omega,by omega⟩,_,c2,by decide,?_⟩;simp only[AH];refine⟨⟨by omega,by omega⟩,?_⟩;have hlen: ∀(A B:Int->Bool),(flags 512 A++flags 512 B).length=1024:=λA B=>by rw[List.length_append,Cf,Cf]
  refine AV (Nt H6 hc) rfl (by grind) λaW J=> ?_;have aB:=(J.front 3 rfl).own;refine⟨s,(J.front 2 rfl).Aa rfl,?_⟩;rw[ha];simp only[AH];refine⟨⟨by omega,by omega⟩,some ⟨c.2,0,none⟩,?_,by decide,?_⟩
  .rw[add_add];exact aB.cell ha (SU L hc).2
  simp only[AH];refine⟨⟨by omega,by omega⟩,?_⟩;rw[add_eq c.2 0 512,Nat.zero_add];refine AV J (o:=512) rfl (by grind) λaJ T=>⟨⟨by omega,by omega,?_⟩,by omega⟩;have Y:=ck_set (x:=c) (U:=λq=>if x<=q/\q<p then a else U q) (G:=λq=>if x<=q/\q<p then g else G q) (U':=U) (G':=G) (i:=p %512) (by omega) (by omega) a g;have e2:c.1*512+p %512=p:=by omega
  rw[e2]at Y;rw[Y]at T;have aO: ∀(f:Int->Bool) (v:Bool),(λq=>if q=p then v else if x<=q/\q<p then v else f q)=λq=>if x<=q/\q<p+1 then v else f q:=λf v=>by grind
  have aA:Sat (Vd E (λq=>if x<=q/\q<p+1 then a else U q) (λq=>if x<=q/\q<p+1 then g else G q) c::
    Ad (Vd E (λq=>if x<=q/\q<p+1 then a else U q) (λq=>if x<=q/\q<p+1 then g else G q)) (L.eraseIdx (posC L (p/512)))::Cells r E.Cy [.slice s.base s.len s.cap]::Row E.A0 2 s (parts L)::Z) aJ:=by
   have em:Ad (Vd E (λq=>if x<=q/\q<p+1 then a else U q) (λq=>if x<=q/\q<p+1 then g else G q)) (L.eraseIdx (posC L (p/512)))=Ad (Vd E (λq=>if x<=q/\q<p then a else U q) (λq=>if x<=q/\q<p then g else G q)) (L.eraseIdx (posC L (p/512))):=by
    refine Ad.congr λy hy=> ?_;obtain⟨j,O⟩:=List.mem_iff_getElem?.1 hy;have aS:y.1≠p/512:=by
     intro e;rw[List.getElem?_eraseIdx]at O;have aL:=RZ hI.IJ (c:=y) (n:=p/512) (by split at O<;>exact List.mem_of_getElem? O) e;split at O
     .rename_i hjl;have:=Iy O hjl;omega
     .rename_i hjl;have h2:=(List.getElem?_eq_some_iff.1 O);obtain⟨h3,h4⟩:=h2;have:=List.pairwise_iff_getElem.1 hI.IJ (posC L (p/512)) (j+1) (by omega) h3 (by omega)
      grind
    unfold Vd;congr 2<;>refine Jq λk k0 k1=> ?_<;>dsimp only
    .grind
    grind
   rw[em];unfold Vd;have f1:(λk=>if x<=c.1*512+k/\c.1*512+k<p+1 then a else U (c.1*512+k))=λk=>if c.1*512+k=p then a else if x<=c.1*512+k/\c.1*512+k<p then a else U (c.1*512+k):=by grind
   have f2:(λk=>if x<=c.1*512+k/\c.1*512+k<p+1 then g else G (c.1*512+k))=λk=>if c.1*512+k=p then g else if x<=c.1*512+k/\c.1*512+k<p then g else G (c.1*512+k):=by grind
   rw[f1,f2];exact T
  exact(aA.JN hc).perm (List.Perm.trans (.swap _ _ _) (.cons _ (.swap _ _ _)))
 .have:p=x+n:=by omega
  grind
end
def Ve.congr{l l':Nat->Iv}{L:CL}{U G:Int->Bool}(h:Ve l L U G)(h0:l' 0=l 0)(h1:l' 1=l 1)(h2:l' 2=l 2):Ve l' L U G:=
 ⟨h.IJ,h.Yz,by rw[h0];exact h.jF,by rw[h1];exact h.ME,by rw[h2];exact h.Pm,by rw[h0];exact h.l0,by rw[h0,h1];exact h.l1,by rw[h0,h2];exact h.l2⟩
def Sat.rcongr{E:Env}{r:Nat}{l l':Nat->Iv}{Z:List Pr}{w:World}(H:Sat (G7 E r l::Z) w)(h0:l' 0=l 0)(h1:l' 1=l 1)(h2:l' 2=l 2):Sat (G7 E r l'::Z) w:=by
 obtain⟨s,L,U,G,hI,H⟩:=Sat.Kr.1 H;exact Sat.Kr.2 ⟨s,L,U,G,hI.congr h0 h1 h2,H⟩
def bU{l:Nat->Iv}{x n:Int}: ¬(n=0∨34359738368<=x∨34359738368-x<n∨cnt (l 0) x (x+n)≠n)↔n≠0/\x<34359738368/\x+n<=34359738368/\cnt (l 0) x (x+n)=n:=by omega
section
variable{E:Env}{w:World}{Z:List Pr}{r:Nat}{l:Nat->Iv}
def Vh(H:Sat (G7 E r l::Z) w){x n:Int}(O:0<=x)(T:x<18446744073709551616)(y:0<=n)(J:n<18446744073709551616){K:Int->Int->World->Prop}
  (aG:Ax l x n true 32≠0-> ∀w',Sat (G7 E r l::Z) w'->K 0 (Ax l x n true 32) w')
  (v:Ax l x n true 32=0-> ∀w',(∀l',l' 0=l 0->l' 1=EI (l 1) x (x+n)->l' 2=EI (l 2) x (x+n)->Sat (G7 E r l'::Z) w')->K (cnt (l 2) x (x+n)) 0 w'):
  F.Bv E (some ⟨r,0,none⟩) x n K w:=by
 obtain⟨s,L,U,G,hI,H⟩:=Sat.Kr.1 H;have back: ∀{w'},Sat (Ld E r s L U G++Z) w'->Sat (G7 E r l::Z) w':=λh=>Sat.Kr.2 ⟨s,L,U,G,hI,h⟩;unfold F.Bv T0.Bv;refine Vf hI H O T y J λw2 ok Au Y=> ?_;refine AP (λe=> ?_) λe=> ?_
 .have hb:n=0∨34359738368<=x∨34359738368-x<n∨cnt (l 0) x (x+n)≠n:=Classical.byContradiction λg=>by grind
  have aD:Ax l x n true 32=10:=by unfold Ax;omega
  grind
 .have hg:=Au.1 (by simpa using e);clear Au;obtain⟨g1,g2,g3,g4⟩:=bU.1 hg;have j:=(FI hI.jF (a:=x) (b:=x+n) (by omega)).1 (by omega);have c1:=FO hI.ME (a:=x) (b:=x+n) (by omega);refine XL hI Y O y (by omega) λw5 H5=>AB (λh=> ?_) λh=> ?_
  .have aE:Ax l x n true 32=32:=by unfold Ax;grind
   grind
  .have e0:Ax l x n true 32=0:=by unfold Ax;grind
   refine Vg hI H5 O y (by omega) j true false λw6 H6=>v e0 w6 λl' h0 h1 h2=>Sat.Kr.2 ⟨s,L,_,_,⟨hI.IJ,hI.Yz,by rw[h0];exact hI.jF,by rw[h1];exact G8 hI.ME (by omega),by rw[h2];exact G8 hI.Pm (by omega),by rw[h0];exact hI.l0,λp=> ?_,λp=> ?_⟩,H6⟩
   .rw[h0,h1,FH (by omega),hI.l1]
    grind
   .rw[h0,h2,FH (by omega),hI.l2]
    grind
def Vi(H:Sat (G7 E r l::Z) w)(Y: ∀p,mem (l 2) p->mem (l 1) p){x n:Int}{gone:Bool}(j:0<=x)(T:x<18446744073709551616)(J:0<=n)(O:n<18446744073709551616){K:Int->World->Prop}
  (aH:Ax l x n false 31≠0-> ∀w',Sat (G7 E r l::Z) w'->K (Ax l x n false 31) w')
  (y:Ax l x n false 31=0-> ∀w',(∀l',l' 0=l 0->l' 1=D9 (l 1) x (x+n)->l' 2=(if gone then D9 (l 2) x (x+n)else l 2)->Sat (G7 E r l'::Z) w')->K 0 w'):
  F.Ba E (some ⟨r,0,none⟩) x n gone K w:=by
 obtain⟨s,L,U,G,hI,H⟩:=Sat.Kr.1 H;have back: ∀{w'},Sat (Ld E r s L U G++Z) w'->Sat (G7 E r l::Z) w':=λh=>Sat.Kr.2 ⟨s,L,U,G,hI,h⟩;unfold F.Ba T0.Ba;refine Vf hI H j T J O λw2 ok Au H2=> ?_;refine AP (λe=> ?_) λe=> ?_
 .have hb:n=0∨34359738368<=x∨34359738368-x<n∨cnt (l 0) x (x+n)≠n:=Classical.byContradiction λg=>by grind
  have aE:Ax l x n false 31=10:=by unfold Ax;omega
  grind
 .have hg:=Au.1 (by simpa using e);clear Au;obtain⟨g1,g2,g3,g4⟩:=bU.1 hg;have v:=(FI hI.jF (a:=x) (b:=x+n) (by omega)).1 (by omega);have c1:=DU (l 1) x (x+n);refine XL hI H2 j J (by omega) λw5 H5=>AB (λh=> ?_) λh=> ?_
  .have aF:Ax l x n false 31=31:=by unfold Ax;grind
   grind
  .have c0:cnt (l 1) x (x+n)=0:=by omega
   have e0:Ax l x n false 31=0:=by unfold Ax;grind
   have aI:=(Di hI.ME (a:=x) (b:=x+n) (by omega)).1 c0;have a1:=Ft hI.ME (a:=x) (b:=x+n) (by omega) j (by omega);have a2:=Ft hI.Pm (a:=x) (b:=x+n) (by omega) j (by omega);refine Vg hI H5 j J (by omega) v false gone λw6 H6=>y e0 w6 λl' h0 h1 h2=>Sat.Kr.2 ⟨s,L,_,_,⟨hI.IJ,hI.Yz,by rw[h0];exact hI.jF,by rw[h1];exact a1.1,?_,by rw[h0];exact hI.l0,λp=> ?_,λp=> ?_⟩,H6⟩
   .rw[h2];cases gone
    .exact hI.Pm
    grind
   .rw[h0,h1,a1.2.1,hI.l1]
    grind
   .rw[h0,h2];by_cases e:x<=p/\p<x+n
    .grind
    .rw[if_neg e];cases gone
     .rw[if_neg (by decide)];exact hI.l2 p
     .rw[if_pos rfl,a2.2.1,hI.l2];simp[e]
def Tf(l:Iv)(n cur run:Int):Prop:=0<=run/\run<n/\Sq l (cur-run) run/\ ∀p,Sq l p n->cur-run<=p
def Tf.used{l:Iv}{n cur run:Int}(h:Tf l n cur run)(j: ¬mem l cur):Tf l n (cur+1) 0:=by
 obtain⟨h1,h2,y,v⟩:=h;refine⟨by omega,by omega,λm a b=>by omega,λp hp=>Classical.byContradiction λg=>j (hp cur (by omega) ?_)⟩;have:=v p hp;omega
def Tf.free{l:Iv}{n cur run:Int}(h:Tf l n cur run)(hm:mem l cur):Sq l (cur+1-(run+1)) (run+1)/\ ∀p,Sq l p n->cur+1-(run+1)<=p:=by
 obtain⟨h1,h2,j,v⟩:=h;refine⟨λm a b=> ?_,λp hp=>by have:=v p hp;omega⟩;by_cases e:m=cur
 .rw[e];exact hm
 .exact j m (by omega) (by omega)
def Tf.jump{l:Iv}{n cur run j:Int}(h:Tf l n cur run)(O:cur<=j)(v: ∀m,cur<=m->m<j-> ¬mem l m)(y:cur<j):Tf l n j 0:=by
 obtain⟨h1,h2,K,J⟩:=h;refine⟨by omega,by omega,λm a b=>by omega,λp hp=>Classical.byContradiction λg=> ?_⟩;have:=J p hp;by_cases e:cur<=p
 .exact v p e (by omega) (hp p (by omega) (by omega))
 .exact v cur (by omega) y (hp cur (by omega) (by omega))
def Vj(H:Sat (G7 E r l::Z) w){n:Int}(hn:0<=n)(bD:n<18446744073709551616){K:Int->Bool->World->Prop}
  (hK: ∀w',Sat (G7 E r l::Z) w'->K ((if n=0 then none else findL (l 1) n).getD 0) (if n=0 then none else findL (l 1) n).isSome w'):F.Fg E (some ⟨r,0,none⟩) n K w:=by
 obtain⟨s,L,U,G,hI,H⟩:=Sat.Kr.1 H;have aP:K ((if n=0 then none else findL (l 1) n).getD 0) (if n=0 then none else findL (l 1) n).isSome w:=hK w (Sat.Kr.2 ⟨s,L,U,G,hI,H⟩);clear hK;unfold F.Fg;simp only[AH,Nat.mul_one];have hlen:=MA H;have bA:=Ns hI.IJ hI.Yz;have aR: ∀c∈L,∀k,0<=k->k<512->(mem (l 1) (c.1*512+k)↔U (c.1*512+k)=false):=λc hc k h0 h1=>by
  rw[hI.l1];exact⟨λh=>h.2,λh=>⟨(hI.l0 _).2 ⟨c,hc,by omega⟩,h⟩⟩
 have aE: ∀(i:Nat) c,L[i]? =some c-> ∀B:Int,(∀j c',j<i->L[j]? =some c'->(c'.1+1)*512<=B)-> ∀m,B<=m->m<c.1*512-> ¬mem (l 1) m:=λi c hc B hB m h1 h2 hm=>by
  obtain⟨y,hy,aV⟩:=(hI.l0 m).1 ((hI.l1 m).1 hm).1;obtain⟨j,hj⟩:=List.mem_iff_getElem?.1 hy;by_cases g:j<i
  .grind
  .have h3:c.1<=y.1:=by
    rcases Nat.lt_or_eq_of_le (Nat.le_of_not_lt g)with g2|g2
    .have:=List.pairwise_iff_getElem.1 hI.IJ i j (List.getElem?_eq_some_iff.1 hc).1 (List.getElem?_eq_some_iff.1 hj).1 g2
     grind
    grind
   omega
 refine AJ (λst w'=>w'=w/\ ∃i:Nat,st.2.2.1=(i:Int)/\i<=L.length/\((i=0/\st.1=0)∨(0<i/\(∃c,L[i-1]? =some c/\c.1=st.2.1)/\0<n/\Tf (l 1) n ((st.2.1+1)*512) st.1))) (λst _=>(L.length-st.2.2.1).toNat) ⟨rfl,0,rfl,Nat.zero_le _,.inl ⟨rfl,rfl⟩⟩ ?_;rintro⟨run,last,i',v⟩ _ w2 ⟨rfl,i,hi,a8,hc⟩;dsimp only at hi hc⊢;subst hi;refine⟨s,FL H,AB (λbC=>AB (λaB=> ?_) λbE=> ?_) λa6=> ?_⟩
 .have hl:i<L.length:=by omega
  have hg:=List.getElem?_eq_getElem hl;obtain⟨a,ha,bB,c1,c2⟩:=LU H hg;generalize L[i]=x at hg c1 c2;have aK:=List.mem_of_getElem? hg;have bH:=hI.Yz x aK;have aD: ∀(B:Int),(i=0∨ ∃c,L[i-1]? =some c/\(c.1+1)*512<=B)-> ∀j c',j<i->L[j]? =some c'->(c'.1+1)*512<=B:=λB hB j c' hj aG=>by
   rcases hB with h|⟨c,T,aH⟩
   .omega
   .by_cases e:j=i-1
    .subst e;rw[T]at aG;cases aG;exact aH
    .have:=List.pairwise_iff_getElem.1 hI.IJ j (i-1) (List.getElem?_eq_some_iff.1 aG).1 (List.getElem?_eq_some_iff.1 T).1 (by omega)
     grind
  rw[AM (n:=(i:Int)+1)];have aC:(0:Int)<=(i:Int)/\(i:Int)<(s.len:Int):=⟨by omega,by omega⟩;refine IT (λst w'=>w'=w2/\Tf (l 1) n (x.1*512) st.1) ?_ ?_
  .have hzero:i=0->Tf (l 1) n (x.1*512) 0:=λe=>⟨by omega,by omega,λm a b=>by omega,λp hp=>Classical.byContradiction λg=>by
    have h1:=hp p (by omega) (by omega);have h2:=Qk hI.ME h1;exact aE i x hg 0 (aD 0 (.inl e)) p h2 (by omega) h1⟩
   refine AU (AB (λa9=>⟨s,FL H,?_⟩) λa7 j=>AO rfl ?_)
   .rw[ha];simp only[AH,Int.toNat_natCast];refine⟨aC,_,c1,λj=> ?_⟩;rcases hc with ⟨h,_⟩|⟨_,⟨c,T,aH⟩,_,O⟩
    .omega
    have a5:=hI.Yz c (List.mem_of_getElem? T);rw[AI (n:=last+1)];have a1:last+1<=x.1:=by
     have:=List.pairwise_iff_getElem.1 hI.IJ (i-1) i (by omega) hl (by omega)
     grind
    refine Ca (λaS=>⟨by trivial,?_⟩) λheq=>⟨by trivial,?_⟩
    .exact O.jump (by omega) (aE i x hg _ (aD _ (.inr ⟨c,T,by omega⟩))) (by omega)
    .rw[heq];exact O
   .have e:i=0:=by omega
    grind
  .rintro⟨a3,v⟩ _ w8 ⟨rfl,O⟩;dsimp only at O⊢;refine⟨s,FL H,?_⟩;rw[ha];simp only[AH,Int.toNat_natCast];refine⟨aC,_,c1,?_⟩;refine AJ (λst w'=>w'=w8/\0<=st.2.1/\st.2.1<=512/\Tf (l 1) n (x.1*512+st.2.1) st.1) (λst _=>(512-st.2.1).toNat) ⟨rfl,by grind,by grind,by rw[show x.1*512+(0:Int)=x.1*512 by omega];exact O⟩ ?_;rintro⟨aL,k,v⟩ _ bK ⟨rfl,k0,k1,J⟩;dsimp only at k0 k1 J⊢;refine AB (λaA=> ?_) λaY=> ?_
   .have hU:=XK H hg (i:=k) k0 aA;rw[AI (n:=k+1)];have a2:=J.2.1;have aT:=J.1;refine AU ⟨s,FL H,?_⟩;rw[ha];simp only[AH];refine⟨aC,_,c2,?_⟩;simp only[AH];refine⟨⟨k0,aA⟩,_,hU,AP (λhu j=> ?_) λhu j=> ?_⟩
    .refine BI (λe=>by omega) λ_=>⟨⟨by trivial,by omega,by omega,?_⟩,by omega⟩;have:=J.used (λh=>by grind)
     grind
    .have Y:=J.free ((aR x aK k k0 aA).2 hu);rw[AI (n:=aL+1)];refine BI (λe=>⟨s,FL H,?_⟩) λaS=>⟨⟨by trivial,by omega,by omega,?_⟩,by omega⟩
     .rw[ha];simp only[AH];rw[e]at Y;refine⟨aC,_,c1,Am λt ht=> ?_⟩;have bF:0<=x.1*512+k+1-n:=Qk hI.ME (Y.1 _ (Int.le_refl _) (by omega));rw[AI (n:=x.1*512),AI (n:=x.1*512+k),AI (n:=x.1*512+k+1),AI (n:=x.1*512+k+1-n)]at ht;have hf:findL (l 1) n=some t:=by
       cases hf:findL (l 1) n with
       | none=>exact absurd Y.1 (Nc hI.ME aB hf _)
       | some q=>
        obtain⟨g1,g2⟩:=L2 hI.ME aB hf;have h1:=g2 _ Y.1;have h2:=Y.2 q g1;congr 1;omega
      grind
     .rw[show x.1*512+(k+1)=x.1*512+k+1 by omega];exact⟨by omega,by omega,Y.1,Y.2⟩
   .have e:k=512:=by omega
    subst e;refine⟨⟨by trivial,i+1,by omega,by omega,.inr ⟨by omega,⟨x,by grind,by trivial⟩,aB,?_⟩⟩,by omega⟩;rw[show(x.1+1)*512=x.1*512+512 by omega];exact J
 .have e:n=0:=by omega
  grind
 .have e:i=L.length:=by omega
  by_cases en:n=0
  .grind
  .rw[if_neg en]at aP;have hf:findL (l 1) n=none:=by
    cases hf:findL (l 1) n with
    | none=>rfl
    | some q=>
     exfalso;obtain⟨g1,_⟩:=L2 hI.ME (by omega) hf;have h1:=g1 (q+n-1) (by omega) (by omega);obtain⟨y,hy,aV⟩:=(hI.l0 _).1 ((hI.l1 _).1 h1).1;obtain⟨j,hj⟩:=List.mem_iff_getElem?.1 hy;have aQ:=(List.getElem?_eq_some_iff.1 hj).1;rcases hc with ⟨h,_⟩|⟨_,⟨c,T,aH⟩,_,O⟩
     .omega
     .have h5:=O.2.2.2 q g1;have h6:=O.2.1;have h7:y.1<=c.1:=by
       by_cases e2:j=i-1
       .grind
       .have:=List.pairwise_iff_getElem.1 hI.IJ j (i-1) aQ (List.getElem?_eq_some_iff.1 T).1 (by omega)
        grind
      omega
   grind
def bV(H:Sat (G7 E r l::Z) w){n:Int}(hn:0<=n)(v:n<18446744073709551616)(T: ∀p,n≠0->findL (l 1) n=some p->Ax l p n true 32=0/\0<=p/\p+n<=34359738368){K:Int->Int->Int->World->Prop}
  (y:n=0->K 0 0 1 w)(J:n≠0->findL (l 1) n=none-> ∀w',Sat (G7 E r l::Z) w'->K 0 0 30 w')
  (O:n≠0-> ∀p,findL (l 1) n=some p-> ∀w',(∀l',l' 0=l 0->l' 1=EI (l 1) p (p+n)->l' 2=EI (l 2) p (p+n)->Sat (G7 E r l'::Z) w')->K p (cnt (l 2) p (p+n)) 0 w'):
  F.B9 E (some ⟨r,0,none⟩) n K w:=by
 unfold F.B9 T0.B9;refine BI y λj=>Vj H hn v λw3 Y=> ?_;rw[if_neg j];cases hf:findL (l 1) n with
 | none=>exact AS rfl (J j hf w3 Y)
 | some p=>
  obtain⟨h1,h2,h3⟩:=T p j hf;refine AO rfl (Vh Y h2 (by show p<_;omega) hn v (λh=>absurd h1 h) λ_ w' h=>O j p hf w' h)
end
def Tg(n:Nat)(b:Bool):List.replicate n (Value.bool b)=flags n λ_=>b:=by
 apply List.ext_getElem?;intro i;rw[List.getElem?_replicate];by_cases h:i<n
 .rw[if_pos h,Jp h]
 .rw[if_neg h,List.getElem?_eq_none (by rw[Cf];omega)]
section
variable{E:Env}{w:World}{Z:List Pr}{r:Nat}{l:Nat->Iv}
def Sat.sB{b:Nat}(H:Sat (Cells b E.Cy [.slice none 0 0]::Z) w)(j: ∀i,l i=[]):Sat (G7 E b l::Z) w:=by
 have nm: ∀i p,¬mem (l i) p:=λi p=>by rw[j];exact Bq p
 refine Sat.Kr.2 ⟨⟨none,0,0⟩,[],λ_=>false,λ_=>false,⟨List.Pairwise.nil,λc v=>(by cases v),by rw[j];trivial,by rw[j];trivial,by rw[j];trivial,λp=> ?_,λp=> ?_,λp=> ?_⟩,?_⟩
 .grind
 .grind
 .grind
 .have h1:=(H.nil E.A0 2);have h2:=h1.MQ (Vd E (λ_=>false) λ_=>false);exact h2.perm (List.Perm.trans (.swap _ _ _) (List.Perm.trans (.cons _ (.swap _ _ _)) (.swap _ _ _)))
def YV(H:Sat Z w){c:Int}{U G:Int->Bool}(hU: ∀k,0<=k->k<512->U (c*512+k)=false)(hG: ∀k,0<=k->k<512->G (c*512+k)=true){K:Option Addr->World->Prop}
  (T: ∀b w',Sat (Vd E U G (c,b)::Z) w'->K (some ⟨b,0,none⟩) w'):F.Fh E K w:=by
 unfold F.Fh T0.Fh;have O:(Array.replicate 1024 (Value.bool false))=⟨List.replicate 1024 (.bool false)⟩:=by grind
 rw[O];generalize hrep:List.replicate 1024 (Value.bool false)=rep;have hl:rep.length=1024:=by grind
 refine AQ H λb w2 J _=> ?_;rw[add_eq,Nat.zero_add];refine nA J (o:=512) (by omega) (by decide) (by decide) (by decide) true λw4 vs aA Y y=>T b w4 ?_;have e:vs=flags 512 (λk=>U ((c,b).1*512+k))++flags 512 (λk=>G ((c,b).1*512+k)):=by
  apply List.ext_getElem?;intro j;rw[Y j];have v:(0+512:Int).toNat=512:=rfl;have h0:(0:Int).toNat=0:=rfl;rw[v,h0];by_cases g1:j<512
  .rw[if_neg (by omega),List.getElem?_append_left (by rw[Cf];omega),Jp g1,<-hrep,List.getElem?_replicate,if_pos (by omega)]
   grind
  .by_cases g2:j<1024
   .rw[if_pos (by omega),List.getElem?_append_right (by rw[Cf];omega),Cf,Jp (by omega)]
    grind
   .rw[if_neg (by omega),List.getElem?_eq_none (by omega),List.getElem?_eq_none (by rw[List.length_append,Cf,Cf];omega)]
 rw[e]at y;exact y
def gN(H:Sat (G7 E r l::Z) w){c n:Int}(hc:0<=c)(bW:c<18446744073709551616)(hn:0<=n)(b0:n<18446744073709551616){K:Int->World->Prop}
  (aA:(n=0∨262144<n∨67108864<c∨67108864-c<n)->K 1 w)
  (aC: ¬(n=0∨262144<n∨67108864<c∨67108864-c<n)->cnt (l 0) (c*512) ((c+n)*512)≠0-> ∀w',Sat (G7 E r l::Z) w'->K 34 w')
  (aJ: ¬(n=0∨262144<n∨67108864<c∨67108864-c<n)->cnt (l 0) (c*512) ((c+n)*512)=0-> ∀w',(∀l',(∀i,i<3->l' i=D9 (l i) (c*512) ((c+n)*512))->Sat (G7 E r l'::Z) w')->K 0 w'):
  F.CT E (some ⟨r,0,none⟩) c n K w:=by
 obtain⟨s,L,U,G,hI,H⟩:=Sat.Kr.1 H;have back: ∀{w'},Sat (Ld E r s L U G++Z) w'->Sat (G7 E r l::Z) w':=λh=>Sat.Kr.2 ⟨s,L,U,G,hI,h⟩;unfold F.CT T0.CT;refine AU (BI (λe j=>AS rfl (aA (.inl e))) λe1=>AB (λe j=>AS rfl (aA (.inr (.inl e)))) λe2=>AB (λe j=>AS rfl (aA (.inr (.inr (.inl e))))) λe3=> ?_);rw[AI (n:=67108864-c)];refine λj=>AB (λe=>aA (.inr (.inr (.inr e)))) λe4=> ?_;have aE: ¬(n=0∨262144<n∨67108864<c∨67108864-c<n):=by omega
 have aC:=aC aE;have aJ:=aJ aE;clear aA;have bY:=Ns hI.IJ hI.Yz;have hlen:=MA H;refine Nu H λw6 ok Au H6=> ?_;clear Au;have bM:=Tz L c;have aU:cnt (l 0) (c*512) ((c+n)*512)=0↔ ∀y∈L,¬(c<=y.1/\y.1<c+n):=by
  rw[Di hI.jF (by omega)];constructor
  .intro h y O ⟨h1,h2⟩;exact h (y.1*512) (by omega) (by omega) ((hI.l0 _).2 ⟨y,O,by omega⟩)
  .intro h m h1 h2 hm;obtain⟨y,O,bG⟩:=(hI.l0 m).1 hm
   grind
 simp only[AH];refine IT (λst w'=>w'=w6/\(st.1=false-> ∀y,L[posC L c]? =some y->c+n<=y.1)/\(st.1=true->cnt (l 0) (c*512) ((c+n)*512)≠0)) ?_ ?_
 .refine⟨s,FL H6,AB (λbE=>⟨s,FL H6,?_⟩) λbC=>⟨rfl,λ_ y O=> ?_,λe=>by cases e⟩⟩
  .have hg:=List.getElem?_eq_getElem (show posC L c<L.length by omega);obtain⟨a,ha,bZ,c1,_⟩:=LU H6 hg;generalize L[posC L c]=x at hg c1;rw[ha];simp only[AH,Int.toNat_natCast];rw[AI (n:=c+n)];refine⟨⟨by omega,by omega⟩,_,c1,by trivial,λe y O=> ?_,λe=> ?_⟩
   .grind
   .have h1:=of_decide_eq_true e;have h2:=T3 hg
    grind
  grind
 rintro⟨bt,v⟩ _ w9 ⟨rfl,aH,aI⟩;dsimp only at aH aI⊢;refine AP (λe=>aC (aI e) w9 (back H6)) λe=> ?_;have aL:=aH e;clear aH aI;have Y: ∀y∈L,¬(c<=y.1/\y.1<c+n):=by
  intro y O ⟨h1,h2⟩;obtain⟨j,T⟩:=List.mem_iff_getElem?.1 O;have bD:=(List.getElem?_eq_some_iff.1 T).1;by_cases g:j<posC L c
  .have:=Iy T g;omega
  .have hg:=List.getElem?_eq_getElem (show posC L c<L.length by omega);have h3:=aL _ hg;rcases Nat.lt_or_eq_of_le (Nat.le_of_not_lt g)with g2|g2
   .have:=List.pairwise_iff_getElem.1 hI.IJ (posC L c) j (by omega) bD g2
    grind
   grind
 have bA:=aU.2 Y;clear aC aU;generalize hU':(λp:Int=>if c*512<=p/\p<(c+n)*512 then false else U p)=U';generalize hG':(λp:Int=>if c*512<=p/\p<(c+n)*512 then true else G p)=G';have aS: ∀d k,c<=d->d<c+n->0<=k->k<512->U' (d*512+k)=false/\G' (d*512+k)=true:=λd k h1 h2 h3 h4=>by grind
 have a9: ∀y∈L,Vd E U G y=Vd E U' G' y:=λy O=>by
  have b1:=Y y O;unfold Vd;congr 2
  .refine Jq λk h0 h1=> ?_;rw[<-hU'];dsimp only;rw[if_neg (by omega)]
  .refine Jq λk h0 h1=> ?_;rw[<-hG'];dsimp only;rw[if_neg (by omega)]
 have a5:Sat (Ad (Vd E U' G') L::Cells r E.Cy [.slice s.base s.len s.cap]::Row E.A0 2 s (parts L)::Z) w9:=by
  rw[<-Ad.congr a9];exact H6.front 2 rfl
 refine IU (n:=0) (z:=2) a5 rfl (by decide) λbQ bH aB=> ?_;have aM:=(aB.front 3 rfl).KN;have aW:(parts L).length=s.len*2:=by rw[PW,hlen]
 refine⟨s,(aB.front 2 rfl).Aa rfl,⟨by omega,by have:=(aB.front 3 rfl).own.cap;omega⟩,?_⟩;rw[Mr,Int.toNat_natCast];have bF:rowAt bH s.base (posC L c*2) (parts (L.take (posC L c))):=by
  have:=Lw aM (m:=posC L c*2) (by omega) aW;rwa[Vb]at this
 refine Gq (x:=⟨s.base,posC L c,s.cap⟩) (news:=parts (L.take (posC L c))) aB rfl bF (by rw[PW,List.length_take];grind) (XJ _) (by grind) (by grind) λUj b3 aO aF=> ?_;rw[List.nil_append]at aO;have aF:Uj.len=posC L c:=by grind
 refine AJ (λst w'=> ∃(k:Nat) (M:CL),st.2.1=(k:Int)/\(k:Int)<=n/\M.length=k/\(∀(j:Nat) y,M[j]? =some y->y.1=c+j)/\st.1.len=posC L c+k/\
   Sat (Row E.A0 2 st.1 (parts (L.take (posC L c)++M))::Ad (Vd E U' G') M::Ad (Vd E U' G') L::Cells r E.Cy [.slice s.base s.len s.cap]::Row E.A0 2 s (parts L)::Z) w') (λst _=>(n-st.2.1).toNat)
  ⟨0,[],rfl,by show(0:Int)<=n;omega,rfl,λj y h=>(by cases h),aF,by rw[List.append_nil];exact(aO.MQ (Vd E U' G')).perm (.swap _ _ _)⟩ ?_
 rintro⟨lG,k',v⟩ _ bI ⟨k,M,hk,bX,hM,bV,aX,J⟩;dsimp only at hk aX J⊢;subst hk;refine AB (λbE=> ?_) λbC=> ?_
 .refine YV J (c:=c+k) (U:=U') (G:=G') (λi h0 h1=>(aS (c+k) i (by omega) (by omega) h0 h1).1) (λi h0 h1=>(aS (c+k) i (by omega) (by omega) h0 h1).2) λb b4 aZ=> ?_;rw[AI (n:=c+(k:Int)),AI (n:=(k:Int)+1)];refine AQ aZ λbR b5 a3 _=> ?_;refine GD (news:=[.int .u64 (c+k),.pointer (some ⟨b,0,none⟩)]) (a3.FP 1 rfl) rfl rfl (by simp[Value.oneCell']) (by omega) (by omega) λKD bJ aP bN=> ?_;have ep:parts (L.take (posC L c)++M)++[Value.int .u64 (c+k),.pointer (some ⟨b,0,none⟩)]=parts (L.take (posC L c)++(M++[(c+(k:Int),b)])):=by
   rw[<-List.append_assoc,XI (L.take (posC L c)++M)];rfl
  rw[ep]at aP;refine⟨⟨k+1,M++[(c+(k:Int),b)],by omega,by omega,by simp[hM],λj y T=> ?_,by omega,?_⟩,by omega⟩
  .grind
  .have h1:Sat (Vd E U' G' (c+(k:Int),b)::Ad (Vd E U' G') M::Row E.A0 2 KD (parts (L.take (posC L c)++(M++[(c+(k:Int),b)])))::Ad (Vd E U' G') L::Cells r E.Cy [.slice s.base s.len s.cap]::Row E.A0 2 s (parts L)::Z) bJ:=
    aP.perm (List.Perm.trans (.swap _ _ _) (.cons _ (.swap _ _ _)))
   exact h1.Ua.perm (.swap _ _ _)
 .have bL:(k:Int)=n:=by omega
  have aD:=(J.front 4 rfl).KN;refine⟨s,(J.front 3 rfl).Aa rfl,⟨by omega,by omega⟩,?_⟩;have aV:=(J.front 4 rfl).own.cap;have bB:rowAt bI (HU s.base s.cap (posC L c) 2) ((s.len-posC L c)*2) (parts (L.drop (posC L c))):=by
   have:=Jf (z:=2) aD rfl (k:=posC L c) (by omega) aV aW;rwa[Vc]at this
  refine Gq (x:=⟨HU s.base s.cap (posC L c) 2,s.len-posC L c,s.cap-posC L c⟩) (news:=parts (L.drop (posC L c))) J rfl bB (by rw[PW,List.length_drop];grind) (XJ _) (by grind) (by grind) λQC b6 aQ bO=> ?_;rw[<-XI]at aQ;have a4:=(aQ.front 3 rfl);refine DZ a4 (o:=0) rfl (by simp) λaY aG=>aJ bA aY λl' aK=> ?_;simp only[List.set]at aG;generalize hN:L.take (posC L c)++M++L.drop (posC L c)=N at aG;have a8:(M++L).Perm N:=by
   rw[<-hN,List.append_assoc];have h1:(M++L).Perm (M++(L.take (posC L c)++L.drop (posC L c))):=by rw[List.take_append_drop]
   grind
  have a7: ∀y,y∈N↔y∈M∨y∈L:=λy=>by grind
  have a6: ∀y∈M,c<=y.1/\y.1<c+n:=λy O=>by
   obtain⟨j,T⟩:=List.mem_iff_getElem?.1 O
   grind
  have a0:=Ft hI.jF (a:=c*512) (b:=(c+n)*512) (by omega) (by omega) (by omega);have a1:=Ft hI.ME (a:=c*512) (b:=(c+n)*512) (by omega) (by omega) (by omega);have a2:=Ft hI.Pm (a:=c*512) (b:=(c+n)*512) (by omega) (by omega) (by omega);rw[<-aK 0 (by decide)]at a0;rw[<-aK 1 (by decide)]at a1;rw[<-aK 2 (by decide)]at a2;refine Sat.Kr.2 ⟨QC,N,U',G',⟨?_,λy O=> ?_,a0.1,a1.1,a2.1,λp=> ?_,λp=> ?_,λp=> ?_⟩,?_⟩
  .rw[<-hN];unfold Mh;rw[List.append_assoc,List.pairwise_append,List.pairwise_append];refine⟨hI.IJ.sublist (List.take_sublist _ _),⟨?_,hI.IJ.sublist (List.drop_sublist _ _),?_⟩,?_⟩
   .rw[List.pairwise_iff_getElem]
    grind
   .intro a ha d hd;have:=a6 a ha;obtain⟨j,T⟩:=List.mem_iff_getElem?.1 hd;rw[List.getElem?_drop]at T;have h2:=QR hI.IJ T (n:=c) (by omega)
    grind
   .intro a ha d hd;obtain⟨j,T⟩:=List.mem_iff_getElem?.1 ha;rw[List.getElem?_take]at T;split at T
    .rename_i hj2;have h1:=Iy T hj2;rcases List.mem_append.1 hd with hd|hd
     .grind
     .obtain⟨i,hi⟩:=List.mem_iff_getElem?.1 hd;rw[List.getElem?_drop]at hi;have h2:=QR hI.IJ hi (n:=c) (by omega);omega
    .cases T
  .rcases(a7 y).1 O with h|h
   .grind
   .exact hI.Yz y h
  .rw[a0.2.1,hI.l0];constructor
   .rintro(⟨y,O,bG⟩|⟨h1,h2⟩)
    .grind
    .have hg:=List.getElem?_eq_getElem (l:=M) (i:=(p/512-c).toNat) (by omega)
     grind
   grind
  .rw[a1.2.1,a0.2.1,hI.l1,<-hU']
   grind
  .rw[a2.2.1,a0.2.1,hI.l2,<-hG']
   grind
  .have h1:Sat (Ad (Vd E U' G') M::Ad (Vd E U' G') L::Cells r E.Cy [.slice QC.base QC.len QC.cap]::Row E.A0 2 QC (parts N)::Row E.A0 2 s (parts L)::Z) aY:=
    aG.perm (List.Perm.trans (List.Perm.trans (.cons _ (.swap _ _ _)) (.swap _ _ _)) (.cons _ (List.Perm.trans (.cons _ (.swap _ _ _)) (.swap _ _ _))))
   have h2:=(Sat.iQ.2 h1).KO a8;exact(h2.front 3 rfl).tail.perm (List.Perm.trans (.swap _ _ _) (.cons _ (.swap _ _ _)))
end
section
variable{E:Env}{w:World}{Z:List Pr}{r:Nat}{l:Nat->Iv}
end
section
variable{E:Env}{w:World}{Z:List Pr}{r:Nat}{l:Nat->Iv}
def wT{L:CL}(hs:Mh L){m:Iv}(hm:Ok m)(T: ∀p,mem m p-> ∃c∈L,c.1=p/512){i:Nat}{c:Int×Nat}(O:L[i]? =some c)(aA:0<=c.1){B:Int}(K:0<=B)(Y:B<=c.1*512)
  (v: ∀(j:Nat) c',j<i->L[j]? =some c'->(c'.1+1)*512<=B):cnt m 0 ((c.1+1)*512)=cnt m 0 B+cnt m (c.1*512) (c.1*512+512):=by
 rw[MO (Ok.dY hm) (a:=0) (m:=B) (b:=(c.1+1)*512) K (by omega),MO (Ok.dY hm) (a:=B) (m:=c.1*512) (b:=(c.1+1)*512) Y (by omega)];have:cnt m B (c.1*512)=0:=(Di hm Y).2 λp h1 h2 hp=>by
  obtain⟨y,hy,aC⟩:=T p hp;obtain⟨j,J⟩:=List.mem_iff_getElem?.1 hy;rcases Nat.lt_trichotomy j i with g|g|g
  .have:=v j y g J;omega
  .subst g;rw[O]at J;have:=Option.some.inj J;subst this;omega
  .have:=List.pairwise_iff_getElem.1 hs i j (List.getElem?_eq_some_iff.1 O).1 (List.getElem?_eq_some_iff.1 J).1 g;rw[(List.getElem?_eq_some_iff.1 O).2,(List.getElem?_eq_some_iff.1 J).2]at this;omega
 rw[this,show(c.1+1)*512=c.1*512+512 by omega];omega
def wU{L:CL}(hs:Mh L){m:Iv}(hm:Ok m)(j: ∀p,mem m p-> ∃c∈L,c.1=p/512){B:Int}(v: ∀c∈L,(c.1+1)*512<=B):cnt m 0 B=HE m:=
 MP (Ok.dY hm) λp hp=>by
  obtain⟨y,J,K⟩:=j p hp;have:=v y J;exact⟨Qk hm hp,by omega⟩
def bW{L:CL}{U G:Int->Bool}{s:Ac}(hI:Ve l L U G)(H:Sat (Ld E r s L U G++Z) w){m:Iv}(hm:Ok m)(aK: ∀p,mem m p->mem (l 0) p)(F0:Option Addr->(Int->World->Prop)->World->Prop)
  (hF: ∀(i:Nat) c,L[i]? =some c-> ∀K,K (cnt m (c.1*512) (c.1*512+512)) w->F0 (some ⟨c.2,0,none⟩) K w){K:Int->World->Prop}(hK:K (HE m) w):
  A9 (Int×Int×Unit) (0,0,()) w λs1 _ w2 Y=>
   NC (some (Addr.mk r 0 none)) λp4=>
   ∃x5:Ac,w2.cell? p4=some (.slice x5.base x5.len x5.cap)/\
   CND (decide ((s1.2.1:Int)<((x5.len:Nat):Int))) (
    NC (some (Addr.mk r 0 none)) λp6=>
    ∃x7:Ac,w2.cell? p6=some (.slice x7.base x7.len x7.cap)/\
    NC x7.base λp8=>
    ((0:Int)<=s1.2.1/\(s1.2.1:Int)<(x7.len:Nat))/\
    ∃x9:(Option Addr),w2.cell? ((p8.add (Int.toNat s1.2.1*2)).add 1)=some (.pointer x9)/\
    F0 x9 (λaL aM=>
    Y (i64 (s1.1+aL),i64 (s1.2.1+1),()) aM
    ) w2
   ) (
    K (u64 (s1.1)) w2
   ):=by
 have a0:=Ns hI.IJ hI.Yz;have hlen:=MA H;have aE: ∀p,mem m p-> ∃c∈L,c.1=p/512:=λp hp=>(hI.l0 p).1 (aK p hp);simp only[AH];have aD: ∀{B:Int},0<=B->0<=cnt m 0 B/\cnt m 0 B<=B:=λh=>⟨DU _ _ _,by have:=FO hm h;omega⟩;refine AJ (λst w'=>w'=w/\ ∃(i:Nat) (B:Int),st.2.1=(i:Int)/\i<=L.length/\0<=B/\B<=34359738368/\st.1=cnt m 0 B/\(∀(j:Nat) O,j<i->L[j]? =some O->(O.1+1)*512<=B)/\(∀(j:Nat) O,i<=j->L[j]? =some O->B<=O.1*512)) (λst _=>(L.length-st.2.1).toNat)
  ⟨rfl,0,0,rfl,Nat.zero_le _,by decide,by decide,?_,λj O h=>by omega,λj O _ h=>by have:=hI.Yz O (List.mem_of_getElem? h);omega⟩ ?_
 .exact((Di hm (Int.le_refl _)).2 λk h1 h2=>by omega).symm
 rintro⟨n,i',v⟩ _ w2 ⟨rfl,i,B,hi,aZ,aB,aR,hn,T,aC⟩;dsimp only at hi hn⊢;subst hi;subst hn;have aW:=aD aB;refine⟨s,FL H,AB (λa2=>⟨s,FL H,?_⟩) λaY=> ?_⟩
 .have J:=List.getElem?_eq_getElem (show i<L.length by omega);obtain⟨a,ha,a1,c1,c2⟩:=LU H J;generalize L[i]=c at J c1 c2;have aI:=hI.Yz c (List.mem_of_getElem? J);rw[ha];simp only[AH,Int.toNat_natCast];refine⟨⟨by omega,by omega⟩,_,c2,hF i c J _ ?_⟩;have aJ:=wT hI.IJ hm aE J aI.1 aB (aC i c (Nat.le_refl _) J) T;have aV:=aD (B:=(c.1+1)*512) (by omega);rw[AM (n:=(i:Int)+1),<-aJ,AM];refine⟨⟨by trivial,i+1,(c.1+1)*512,by omega,by omega,by omega,by omega,by trivial,λj O hj y=> ?_,λj O hj y=> ?_⟩,by omega⟩
  .by_cases e:j=i
   .subst e;rw[J]at y;have:=Option.some.inj y;subst this;omega
   .have:=List.pairwise_iff_getElem.1 hI.IJ j i (List.getElem?_eq_some_iff.1 y).1 (List.getElem?_eq_some_iff.1 J).1 (by omega);rw[(List.getElem?_eq_some_iff.1 y).2,(List.getElem?_eq_some_iff.1 J).2]at this;omega
  .have:=List.pairwise_iff_getElem.1 hI.IJ i j (List.getElem?_eq_some_iff.1 J).1 (List.getElem?_eq_some_iff.1 y).1 (by omega);rw[(List.getElem?_eq_some_iff.1 y).2,(List.getElem?_eq_some_iff.1 J).2]at this;omega
 .rw[AI,wU hI.IJ hm aE λc hc=>by
   obtain⟨j,hj⟩:=List.mem_iff_getElem?.1 hc;have:=(List.getElem?_eq_some_iff.1 hj).1;exact T j c (by omega) hj]
  exact hK
def Vk(H:Sat (G7 E r l::Z) w){K:Int->World->Prop}(j:K (HE (l 2)) w):F.BX E (some ⟨r,0,none⟩) K w:=by
 obtain⟨s,L,U,G,hI,H⟩:=Sat.Kr.1 H;unfold F.BX T0.BX;refine bW hI H hI.Pm (λp hp=>((hI.l2 p).1 hp).1) (F.Bo E) (λi c y K j=> ?_) j;unfold F.Bo T0.Bo;simp only[AH];rw[add_eq,Nat.zero_add];refine bT (Nt H y) (j6 c) ?_;have v:=List.mem_of_getElem? y;rw[pX hI.Pm (fr:=c.1*512) λk h0 h1=>by
  rw[hI.l2];have:mem (l 0) (c.1*512+k):=(hI.l0 _).2 ⟨c,v,by omega⟩;simp[this]]
 exact j
def bX(H:Sat (G7 E r l::Z) w){K:Int->Bool->World->Prop}(j: ∀w',Sat (G7 E r l::Z) w'->K ((findL (l 1) 1).getD 0) (findL (l 1) 1).isSome w'):F.B8 E (some ⟨r,0,none⟩) K w:=by
 unfold F.B8 T0.B8;exact Vj H (by decide) (by decide) λw' h=>j w' h
end
def NK(E:Env)(r:Nat)(V:TV):Pr:=Ex λl:Nat->Iv=>Kk (LV l V/\ ∀i,i<4->Ok (l i)) (G7 E r l)
section
variable{E:Env}{w:World}{Z:List Pr}{r t:Nat}{V:TV}{l:Nat->Iv}
def Sat.nC:Sat (NK E r V::Z) w↔ ∃l,(LV l V/\ ∀i,i<4->Ok (l i))/\Sat (G7 E r l::Z) w:=by
 unfold NK;rw[Sat.ex];constructor
 .rintro⟨l,h⟩;exact⟨l,Sat.where.1 h⟩
 .rintro⟨l,h⟩;exact⟨l,Sat.where.2 h⟩
def LV.congr{l l':Nat->Iv}(h:LV l V)(h0:l' 0=l 0)(h1:l' 1=l 1)(h2:l' 2=l 2):LV l' V:=⟨by rw[h0];exact h.i,by rw[h1];exact h.f,by rw[h2];exact h.r⟩
def QS(h:LV l V)(Au: ∀i,i<3->Ok (l i))(H: ∀l',l' 0=l 0->l' 1=l 1->l' 2=l 2->Sat (G7 E r l'::Z) w):Sat (NK E r V::Z) w:=by
 refine Sat.nC.2 ⟨λi=>if i<3 then l i else [],⟨h.congr rfl rfl rfl,λi j=> ?_⟩,H _ rfl rfl rfl⟩;by_cases g:i<3
 .grind
 .show Ok (if i<3 then l i else []);rw[if_neg g];trivial
def YW(H:Sat (NK E r V::Z) w){p:Int}(hp:0<=p)(v:p<18446744073709551616){K:Bool->Bool->Bool->World->Prop}(Y: ∀w',Sat (NK E r V::Z) w'->K (V.LM p) (V.fr p) (V.rl p) w'):
  F.Bj E (some ⟨r,0,none⟩) p K w:=by
 obtain⟨l,j,H⟩:=Sat.nC.1 H;obtain⟨s,L,U,G,hI,H⟩:=Sat.Kr.1 H;refine S8 hI H hp v λw' r0 r1 r2 h0 h1 h2 y=> ?_;have J:r0=V.LM p:=Bool.eq_iff_iff.2 (h0.trans (j.1.i p));have O:r1=V.fr p:=Bool.eq_iff_iff.2 (h1.trans (j.1.f p));have T:r2=V.rl p:=Bool.eq_iff_iff.2 (h2.trans (j.1.r p));rw[J,O,T];exact Y w' (Sat.nC.2 ⟨l,j,Sat.Kr.2 ⟨s,L,U,G,hI,y⟩⟩)
def Th(H:Sat (NK E r V::Z) w){K:Int->World->Prop}(v:K (NT V.rl) w):F.BX E (some ⟨r,0,none⟩) K w:=by
 obtain⟨l,j,H⟩:=Sat.nC.1 H;refine Vk H ?_;rw[<-Zq (j.2 2 (by decide)) j.1.r];exact v
def YX(H:Sat (NK E r V::Z) w)(y: ∀p,V.fr p=true->0<=p/\p<34359738368){K:Int->Bool->World->Prop}(J:(∀p,V.fr p=false)-> ∀w',Sat (NK E r V::Z) w'->K 0 false w')
  (O: ∀p,HK V 1 p-> ∀w',Sat (NK E r V::Z) w'->K p true w'):F.B8 E (some ⟨r,0,none⟩) K w:=by
 obtain⟨l,j,H⟩:=Sat.nC.1 H;refine bX H λw' H'=> ?_;have Y:=Sat.nC.2 ⟨l,j,H'⟩;cases hf:findL (l 1) 1 with
 | none=>
  refine J (λp=> ?_) w' Y;cases g:V.fr p with
  | false=>rfl
  | true=>exact absurd ((I9 j.1).2 λm a c=>by grind) (Nc (j.2 1 (by decide)) (by decide) hf p)
 | some p=>
  obtain⟨h1,h2⟩:=L2 (j.2 1 (by decide)) (by decide) hf;have v:=(I9 j.1).1 h1;have:=y p (v p (Int.le_refl _) (by omega));exact O p ⟨this.1,by omega,v,λp' T=>h2 p' ((I9 j.1).2 T)⟩ w' Y
def YY(H:Sat (NK E r V::Z) w){p:Int}(hp:0<=p)(aC:p<34359738368)(hi:V.LM p=true)(hf:V.fr p=true){K:Int->Int->World->Prop}(hK: ∀x y w',Sat (NK E r (V.take p 1)::Z) w'->K x y w'):
  F.Bv E (some ⟨r,0,none⟩) p 1 K w:=by
 obtain⟨l,⟨j,Au⟩,H⟩:=Sat.nC.1 H;have hr:ID V p 1:=⟨by decide,by omega,λm a b=>by grind⟩;have h0:Ax l p 1 true 32=0:=(Uu j Au hp (by decide) true (e:=32) (by decide)).2.2.1 hr rfl λm a b=>by grind
 refine Vh H hp (by omega) (by decide) (by decide) (λh=>absurd h0 h) λ_ w' v=>hK _ _ w' (QS (l:=Sh.Pl l p 1) (j.Pl (by decide)) (λi hi=> ?_) λl' J O T=>v l' J O T);have Y:i=0∨i=1∨i=2:=by omega
 rcases Y with rfl|rfl|rfl
 .exact Au 0 (by decide)
 .exact G8 (Au 1 (by decide)) (by omega)
 .exact G8 (Au 2 (by decide)) (by omega)
def YZ(H:Sat (NK E r V::Z) w)(T: ∀p,V.rl p=true->V.fr p=true){p:Int}{g:Bool}(hp:0<=p)(aE:p<34359738368)(hi:V.LM p=true)(hf:V.fr p=false){K:Int->World->Prop}
  (hK: ∀w',Sat (NK E r (if g then V.back p 1 else V.LN p 1)::Z) w'->K 0 w'):
  F.Ba E (some ⟨r,0,none⟩) p 1 g K w:=by
 obtain⟨l,⟨j,Au⟩,H⟩:=Sat.nC.1 H;have hr:ID V p 1:=⟨by decide,by omega,λm a b=>by grind⟩;have h0:Ax l p 1 false 31=0:=(Uu j Au hp (by decide) false (e:=31) (by decide)).2.2.2.2 hr rfl λm a b=>by grind
 have hg:=j.N7 Au hp (n:=1) (by decide) (by omega);refine Vi H (λq hq=>(j.f q).2 (T q ((j.r q).1 hq))) hp (by omega) (by decide) (by decide) (λh=>absurd h0 h) λ_ w' Y=>hK w' ?_;have o1:=(Ft (Au 1 (by decide)) (a:=p) (b:=p+1) (by omega) hp (by omega)).1;have o2:=(Ft (Au 2 (by decide)) (a:=p) (b:=p+1) (by omega) hp (by omega)).1;cases g
 .refine QS (l:=Sh.N7 l 3 p 1) hg.1 (λi hi=> ?_) λl' v y J=>Y l' v y J;have O:i=0∨i=1∨i=2:=by omega
  rcases O with rfl|rfl|rfl
  .exact Au 0 (by decide)
  .exact o1
  .exact Au 2 (by decide)
 .refine QS (l:=Sh.N7 l 2 p 1) hg.2 (λi hi=> ?_) λl' v y J=>Y l' v y J;have O:i=0∨i=1∨i=2:=by omega
  rcases O with rfl|rfl|rfl
  .exact Au 0 (by decide)
  .exact o1
  .exact o2
end
def Iz(B:Int)(u g:Int->Bool):List Value:=.int .u64 B::(flags 64 u++flags 64 g)
structure sC(S:CS)(B:Int)(u g:Int->Bool):Prop where
 b0:0<=B
 b1:B+64<=34359738368
 bs: ¬S.empty->B=S.base
 hs: ∀i:Nat,i<64->u i=S.has i
 rl: ∀i:Nat,i<64->S.rel i=(S.has i&&g i)
 hz: ∀i:Nat,64<=i->S.has i=false
section
variable{E:Env}{w:World}{Z:List Pr}{r t q c b ty:Nat}{V:TV}{S:CS}{B:Int}{u g:Int->Bool}
def qget1{i:Int}(h0:0<=i)(h1:i<64):(Iz B u g)[1+i.toNat]? =some (.bool (u i)):=by
 show(Value.int .u64 B::(flags 64 u++flags 64 g))[1+i.toNat]? =_;rw[Nat.add_comm,List.getElem?_cons_succ,List.getElem?_append_left (by rw[Cf];omega)];have:=NU (n:=64) (u:=u) h0 (by omega)
 grind
def qget2{i:Int}(h0:0<=i)(h1:i<64):(Iz B u g)[65+i.toNat]? =some (.bool (g i)):=by
 show(Value.int .u64 B::(flags 64 u++flags 64 g))[65+i.toNat]? =_;rw[show 65+i.toNat=(64+i.toNat)+1 by omega,List.getElem?_cons_succ,List.getElem?_append_right (by rw[Cf];omega),Cf,show 64+i.toNat-64=i.toNat by omega];have:=NU (n:=64) (u:=g) h0 (by omega)
 grind
def qset1{i:Int}(h0:0<=i)(h1:i<64)(x:Bool):(Iz B u g).set (1+i.toNat) (.bool x)=Iz B (λj=>if j=i then x else u j) g:=by
 unfold Iz;rw[Nat.add_comm,List.set_cons_succ,List.set_append_left _ _ (by rw[Cf];omega)];have:=PK (n:=64) (u:=u) h0 x
 grind
def qset2{i:Int}(h0:0<=i)(h1:i<64)(x:Bool):(Iz B u g).set (65+i.toNat) (.bool x)=Iz B u (λj=>if j=i then x else g j):=by
 unfold Iz;rw[show 65+i.toNat=(64+i.toNat)+1 by omega,List.set_cons_succ,List.set_append_right _ _ (by rw[Cf];omega),Cf,show 64+i.toNat-64=i.toNat by omega];have:=PK (n:=64) (u:=g) h0 x
 grind
def wV:(Iz B u g).length=129:=by simp[Iz,Cf]
def bY(v:Nat->Bool)(a m:Nat)(j:a<=m): ∀N,m<N->cN (λk=>v k&&(decide (a<=k)&&decide (k<m+1))) N=cN (λk=>v k&&(decide (a<=k)&&decide (k<m))) N+(if v m then 1 else 0)
 | 0,h=>by omega
 | N+1,h=>by
  simp only[cN];rcases Nat.lt_or_eq_of_le (Nat.le_of_lt_succ h)with q|q
  .rw[bY v a m j N q]
   grind
  .subst q;have e:cN (λk=>v k&&(decide (a<=k)&&decide (k<m+1))) m=cN (λk=>v k&&(decide (a<=k)&&decide (k<m))) m:=qA λi y=>by grind
   grind
def wW(v:Nat->Bool)(N:Nat)(h: ∀i,i<N->v i=false):cN v N=0:=by
 induction N with
 | zero=>rfl
 | succ n ih=>simp only[cN];grind
end
section
variable{E:Env}{w:World}{Z:List Pr}{r t q c b ty:Nat}{V:TV}{S:CS}{B:Int}{u g:Int->Bool}
end
def qW(A D:List Value)(B:Int)(u g:Int->Bool):List Value:=A++(Iz B u g++D)
def j7(q ty:Nat)(A D:List Value)(S:CS):Pr:=Ex λx:Int×(Int->Bool)×(Int->Bool)=>Kk (sC S x.1 x.2.1 x.2.2) (Cells q ty (qW A D x.1 x.2.1 x.2.2))
section
variable{E:Env}{w:World}{Z:List Pr}{r t q c b ty:Nat}{V:TV}{S:CS}{B:Int}{u g:Int->Bool}{A D:List Value}
def Sat.rcw:Sat (j7 q ty A D S::Z) w↔ ∃B u g,sC S B u g/\Sat (Cells q ty (qW A D B u g)::Z) w:=by
 unfold j7;rw[Sat.ex];constructor
 .rintro⟨⟨B,u,g⟩,h⟩;exact⟨B,u,g,Sat.where.1 h⟩
 .rintro⟨B,u,g,h⟩;exact⟨⟨B,u,g⟩,Sat.where.2 h⟩
def gO{i:Nat}(j:i<129):(qW A D B u g)[A.length+i]? =(Iz B u g)[i]? :=by
 unfold qW;rw[List.getElem?_append_right (by omega),show A.length+i-A.length=i by omega,List.getElem?_append_left (by rw[wV];omega)]
def gP{i:Nat}(j:i<129)(x:Value){B':Int}{u' g':Int->Bool}(h:(Iz B u g).set i x=Iz B' u' g'):(qW A D B u g).set (A.length+i) x=qW A D B' u' g':=by
 unfold qW;rw[List.set_append_right _ _ (by omega),show A.length+i-A.length=i by omega,List.set_append_left _ _ (by rw[wV];omega),h]
def sD:(qW A D B u g).length=A.length+129+D.length:=by unfold qW;rw[List.length_append,List.length_append,wV];omega
def gQ(H:Sat (Cells q ty (qW A D B u g)::Z) w):w.cell? (Addr.mk q A.length none)=some (.int .u64 B):=H.Aa (o:=A.length) (by
 have:=gO (A:=A) (D:=D) (B:=B) (u:=u) (g:=g) (i:=0) (by decide);rw[Nat.add_zero]at this;rw[this];rfl)
def sE(H:Sat (Cells q ty (qW A D B u g)::Z) w){i:Int}(h0:0<=i)(h1:i<64):w.cell? (((Addr.mk q A.length none).add 1).add (i.toNat*1))=some (.bool (u i)):=by
 rw[add_add,Nat.mul_one];exact H.cell (o:=A.length) (m:=1+i.toNat) (by rw[gO (by omega)];exact qget1 h0 h1)
def sF(H:Sat (Cells q ty (qW A D B u g)::Z) w){i:Int}(h0:0<=i)(h1:i<64):w.cell? (((Addr.mk q A.length none).add 65).add (i.toNat*1))=some (.bool (g i)):=by
 rw[add_add,Nat.mul_one];exact H.cell (o:=A.length) (m:=65+i.toNat) (by rw[gO (by omega)];exact qget2 h0 h1)
def qstBW(H:Sat (Cells q ty (qW A D B u g)::Z) w){x:Int}{K:World->Prop}(j: ∀w',Sat (Cells q ty (qW A D x u g)::Z) w'->K w'):stCells (Addr.mk q A.length none) 0 [.int .u64 x] w K:=by
 refine DZ H (o:=A.length) rfl (by rw[sD];omega) λw' v=>j w' ?_;have:=gP (A:=A) (D:=D) (B:=B) (u:=u) (g:=g) (i:=0) (by decide) (.int .u64 x) (B':=x) (u':=u) (g':=g) rfl
 grind
def yG(H:Sat (Cells q ty (qW A D B u g)::Z) w){i:Int}(h0:0<=i)(h1:i<64){x:Bool}{K:World->Prop}(y: ∀w',Sat (Cells q ty (qW A D B (λj=>if j=i then x else u j) g)::Z) w'->K w'):
  stCells (((Addr.mk q A.length none).add 1).add (i.toNat*1)) 0 [.bool x] w K:=by
 rw[add_add,Nat.mul_one];refine AV H (o:=A.length) (m:=1+i.toNat) rfl (by rw[sD];omega) λw' v=>y w' ?_;rw[gP (by omega) _ (qset1 h0 h1 x)]at v;exact v
def qst2W(H:Sat (Cells q ty (qW A D B u g)::Z) w){i:Int}(h0:0<=i)(h1:i<64){x:Bool}{K:World->Prop}(y: ∀w',Sat (Cells q ty (qW A D B u (λj=>if j=i then x else g j))::Z) w'->K w'):
  stCells (((Addr.mk q A.length none).add 65).add (i.toNat*1)) 0 [.bool x] w K:=by
 rw[add_add,Nat.mul_one];refine AV H (o:=A.length) (m:=65+i.toNat) rfl (by rw[sD];omega) λw' v=>y w' ?_;rw[gP (by omega) _ (qset2 h0 h1 x)]at v;exact v
def Ra(H:Sat (j7 q ty A D S::Z) w){K:Bool->World->Prop}(y:S.empty->K true w)(j: ¬S.empty->K false w):F.Ec E (some ⟨q,A.length,none⟩) K w:=by
 obtain⟨B,u,g,hI,H⟩:=Sat.rcw.1 H;unfold F.Ec;simp only[AH];refine AJ (λst w'=> ∃i:Nat,st.1=i/\i<=64/\(∀k:Nat,k<i->S.has k=false)/\w'=w) (λst _=>(64-st.1).toNat) ⟨0,rfl,by decide,λk hk=>by omega,rfl⟩ ?_;rintro⟨i',v⟩ _ w2 ⟨i,J,O,aA,rfl⟩;dsimp only at J⊢;subst J;refine AB (λY=>⟨⟨by omega,by omega⟩,_,sE H (by omega) (by omega),AP (λe=>j λh=> ?_) λe=> ?_⟩) λT=>y λk=> ?_
 .rw[hI.hs i (by omega)]at e;rw[h i]at e;cases e
 .rw[AM (n:=(i:Int)+1)];refine⟨⟨i+1,by omega,by omega,λk hk=> ?_,by trivial⟩,by omega⟩;rcases Nat.lt_or_eq_of_le (Nat.le_of_lt_succ hk)with g|g
  .grind
  .subst g;rw[<-hI.hs k (by omega)];exact e
 .rcases Nat.lt_or_ge k 64 with g|g
  .grind
  .exact hI.hz k g
def Ya(H:Sat (j7 q ty A D S::Z) w){n:Int}(bA: -9223372036854775808<=n)(bB:n<9223372036854775808){K:Int->Int->Int->World->Prop}
  (aC:n<1∨64<n->K 0 0 1 w)(aL:1<=n->n<=64->(∀i,¬KZ S.has i n.toNat)->K 0 0 30 w)
  (aM:1<=n->n<=64-> ∀i,KZ S.has i n.toNat->(∀j,KZ S.has j n.toNat->i<=j)->i+n.toNat<=64-> ∀w',Sat (j7 q ty A D (S.alloc i n.toNat)::Z) w'->
   K (S.base+i) (cN (λk=>S.rel k&&(decide (i<=k)&&decide (k<i+n.toNat))) 64) 0 w'):F.Fy E (some ⟨q,A.length,none⟩) n K w:=by
 obtain⟨B,u,g,hI,H⟩:=Sat.rcw.1 H;unfold F.Fy;refine AU (AB (λh j=>AS rfl (aC (.inl h))) λg1 j=>AB (λh=>aC (.inr h)) λg2=> ?_);simp only[AH];generalize hN:n.toNat=N at *
 have bC:n=(N:Int):=by omega
 refine AJ (λst w'=> ∃i run:Nat,st.2.1=i/\st.1=run/\i<=64/\run<=i/\run<N/\(∀k,i-run<=k->k<i->S.has k=true)/\(∀j,KZ S.has j N->i<j+N)/\(run=i∨S.has (i-run-1)=false)/\w'=w) (λst _=>(64-st.2.1).toNat)
  ⟨0,0,rfl,rfl,by decide,by decide,by omega,λk _ h=>by omega,λj _=>by omega,.inl rfl,rfl⟩ ?_
 rintro⟨r',i',v⟩ _ w5 ⟨i,run,hi,hr,aT,bE,bD,aX,Y,aP,rfl⟩;dsimp only at hi hr⊢;subst hi;subst hr;refine AB (λa9=> ?_) λa5=> ?_
 .rw[AM (n:=(run:Int)+1),AM (n:=(i:Int)+1)];have a7:=hI.hs i (by omega);refine AU ⟨⟨by omega,by omega⟩,_,sE H (by omega) (by omega),AP (λe j=> ?_) λe j=> ?_⟩
  .have e:S.has i=false:=by grind
   refine AS (by simp;omega) ⟨⟨i+1,0,by omega,rfl,by omega,by omega,by omega,λk h1 h2=>by omega,λj y=> ?_,.inr (by grind),by trivial⟩,by omega⟩;have:=Y j y;rcases Nat.lt_or_ge (i+1) (j+N)with q|q
   .exact q
   .have:=y (i-j) (by omega)
    grind
  .have e:S.has i=true:=by grind
   have J: ∀k,i-run<=k->k<i+1->S.has k=true:=λk h1 h2=>by grind
   refine AB (λaU=>⟨⟨i+1,run+1,by omega,by omega,by omega,by omega,by omega,λk h1 h2=>J k (by omega) h2,λj y=> ?_,?_,by trivial⟩,by omega⟩) λaR=>Am λaQ O=> ?_
   .have:=Y j y;rcases Nat.lt_or_ge (i+1) (j+N)with q|q
    .exact q
    .rcases aP with h|h
     .omega
     .have:=y (i-run-1-j) (by omega)
      grind
   .grind
   .have aW:run+1=N:=by omega
    have O:aQ=((i+1-N:Nat):Int):=by
     rw[AM (n:=(i:Int)-n),AM]at O;omega
    generalize ha:i+1-N=a at O;have aF:KZ S.has a N:=λk hk=>J _ (by omega) (by omega);subst O;have aE: ¬S.empty:=λh=>by rw[h i]at e;cases e
    refine AJ (λst w'=> ∃k:Nat,st.2.1=k/\a<=k/\k<=i+1/\st.1=cN (λj=>S.rel j&&(decide (a<=j)&&decide (j<k))) 64/\Sat (Cells q ty (qW A D B (λj=>if(a:Int)<=j/\j<k then false else u j) g)::Z) w') (λst _=>((i:Int)+1-st.2.1).toNat)
     ⟨a,rfl,Nat.le_refl _,by omega,?_,?_⟩ ?_
    .show(0:Int)=_;rw[wW _ _ λj y=> ?_];rfl
     grind
    .have:(λj:Int=>if(a:Int)<=j/\j<(a:Int)then false else u j)=u:=by funext j;rw[if_neg (by omega)]
     grind
    rintro⟨cn,k',v⟩ _ aG ⟨k,hk,aJ,a8,aK,T⟩;dsimp only at hk aK⊢;subst hk;refine AB (λhle=> ?_) λa6=> ?_
    .have aN:=J k (by omega) (by omega);have aO:=hI.rl k (by omega);rw[aN,Bool.true_and]at aO;have a4:=bY S.rel a k aJ 64 (by omega);have a3:=Oh (λj=>S.rel j&&(decide (a<=j)&&decide (j<k))) 64;rw[AM (n:=cn+1),AM (n:=(k:Int)+1)];have fin: ∀aA:Int,aA=cN (λj=>S.rel j&&(decide (a<=j)&&decide (j<k+1))) 64->
       ((0:Int)<=(k:Int)/\(k:Int)<(64:Nat))/\stCells (((Addr.mk q A.length none).add 1).add (Int.toNat (k:Int)*1)) 0 [.bool false] aG λaH=>
        (∃m:Nat,(k:Int)+1=m/\a<=m/\m<=i+1/\aA=cN (λj=>S.rel j&&(decide (a<=j)&&decide (j<m))) 64/\Sat (Cells q ty (qW A D B (λj=>if(a:Int)<=j/\j<m then false else u j) g)::Z) aH)/\((i:Int)+1-((k:Int)+1)).toNat<((i:Int)+1-(k:Int)).toNat:=λaA aB=>by
      refine⟨⟨by omega,by omega⟩,yG T (by omega) (by omega) λaH aY=>⟨⟨k+1,by omega,by omega,by omega,aB,?_⟩,by omega⟩⟩;have:(λj:Int=>if(a:Int)<=j/\j<((k+1:Nat):Int)then false else u j)=λj=>if j=(k:Int)then false else if(a:Int)<=j/\j<(k:Int)then false else u j:=by grind
      grind
     refine AU ⟨⟨by omega,by omega⟩,_,sF T (by omega) (by omega),AP (λe1 j=>fin _ ?_) λe1 j=>fin _ ?_⟩
     .grind
     grind
    .have aD:k=i+1:=by omega
     have Ch:=gQ T;refine⟨B,Ch,Am λt25 ht=> ?_⟩;have a1:=hI.b0;have a2:=hI.b1;rw[AM (n:=(i:Int)-n),AM (n:=(i:Int)-n+1),AI (n:=(i:Int)-n+1),AI]at ht;have aI:a+N=i+1:=by omega
     have:=aM (by omega) (by omega) a aF (λj y=>by have:=Y j y;omega) (by omega) aG (Sat.rcw.2 ⟨B,_,g,⟨hI.b0,hI.b1,λ_=>hI.bs aE,λj y=> ?_,λj y=> ?_,λj y=> ?_⟩,T⟩)
     .rw[<-hI.bs aE,aI,<-aD]at this
      grind
     .show(if(a:Int)<=(j:Int)/\(j:Int)<(k:Int)then false else u j)=(S.has j&& !(decide (a<=j)&&decide (j<a+N)));rw[hI.hs j y]
      grind
     .show(S.rel j&& !(decide (a<=j)&&decide (j<a+N)))=((S.has j&& !(decide (a<=j)&&decide (j<a+N)))&&g j);rw[hI.rl j y]
      grind
     .show(S.has j&& !(decide (a<=j)&&decide (j<a+N)))=false;rw[hI.hz j y];rfl
 .refine aL (by omega) (by omega) λj y=> ?_;have h1:=Y j y;have h2:=y (N-1) (by omega);rw[hI.hz _ (by omega)]at h2;cases h2
def bZ(H:Sat (j7 q ty A D S::NK E r V::Z) w)(aC: ∀p,V.fr p=true->V.LM p=true)(a3: ∀p,V.rl p=true->V.fr p=true)(aD: ∀p,V.LM p=true->0<=p/\p<34359738368){K:Int->World->Prop}
  (aM: ¬S.empty-> ∀w',Sat (j7 q ty A D S::NK E r V::Z) w'->K 33 w')(aN:S.empty->(∀p,V.fr p=false)-> ∀w',Sat (j7 q ty A D S::NK E r V::Z) w'->K 30 w')
  (aO:S.empty-> ∀p,HK V 1 p-> ∀w',Sat (j7 q ty A D ⟨p/64*64,λi=>decide (i<64)&&V.fr (p/64*64+i),λi=>decide (i<64)&&V.rl (p/64*64+i)⟩::NK E r (V.take (p/64*64) 64)::Z) w'->K 0 w'):
  F.CQ E (some ⟨q,A.length,none⟩) (some ⟨r,0,none⟩) K w:=by
 unfold F.CQ T0.CQ;have sw: ∀{P1 P2:Pr} {w'},Sat (P1::P2::Z) w'->Sat (P2::P1::Z) w':=λh=>h.perm (.swap _ _ _);refine Ra H (λhe=>AO rfl ?_) λhe=>AS rfl (aM he w H);refine YX (sw H) (λp hp=>aD p (aC p hp)) (λaP w' H'=>AS rfl (aN he aP w' (sw H'))) λp hp w5 H5=>AO rfl ⟨by decide,?_⟩;have aQ:=hp.1;have a2:=hp.2.1;obtain⟨B0,u,g,hI,H6⟩:=Sat.rcw.1 (sw H5);rw[Int.tmod_eq_emod_of_nonneg aQ,AI (n:=p-p %64),show p-p %64=p/64*64 by omega];simp only[AH];have O:=aO he p hp;generalize hB:p/64*64=B at O⊢;have aB:0<=B/\B+64<=34359738368/\B %64=0:=by omega
 refine qstBW H6 λw7 H7=> ?_;have H7:Sat (Cells q ty (qW A D B u g)::NK E r V::Z) w7:=H7;have J:V.take B ((0:Nat):Int)=V:=by
  have e: ∀q,inr B ((0:Nat):Int) q=false:=λq=>Is.2 (by omega);unfold TV.take;simp only[e];simp
 have T: ∀i:Nat,(V.take B i).take (B+i) 1=V.take B ((i+1:Nat):Int):=λi=>by
  have e: ∀x,(!inr B ((i+1:Nat):Int) x)=(!inr B i x&& !inr (B+i) 1 x):=λx=>by
   rw[<-Bool.not_or];congr 1;apply Bool.eq_iff_iff.2;rw[Bool.or_eq_true,Ai,Ai,Ai];omega
  unfold TV.take
  grind
 refine AJ (λst w'=> ∃i:Nat,st.1=(i:Int)/\i<=64/\Sat (Cells q ty (qW A D B (λj=>if j<(i:Int)then V.fr (B+j)else u j) (λj=>if j<(i:Int)then V.rl (B+j)else g j))::NK E r (V.take B i)::Z) w') (λst _=>(64-st.1).toNat)
  ⟨0,rfl,by decide,?_⟩ ?_
 .rw[J]
  skip
  have e:qW A D B (λj=>if j<((0:Nat):Int)then V.fr (B+j)else u j) (λj=>if j<((0:Nat):Int)then V.rl (B+j)else g j)=qW A D B u g:=by
   have f1:flags 64 (λj=>if j<((0:Nat):Int)then V.fr (B+j)else u j)=flags 64 u:=Jq λk h0 h1=>if_neg (by omega);have f2:flags 64 (λj=>if j<((0:Nat):Int)then V.rl (B+j)else g j)=flags 64 g:=Jq λk h0 h1=>if_neg (by omega);unfold qW Iz;rw[f1,f2]
  grind
 rintro⟨i',v⟩ _ w9 ⟨i,hi,aW,H9⟩;dsimp only at hi⊢;subst hi;refine AB (λaE=> ?_) λa0=> ?_
 .refine⟨B,gQ H9,?_⟩;rw[AI (n:=(i:Int)),AI (n:=B+(i:Int)),AM (n:=(i:Int)+1)];refine YW (sw H9) (by omega) (by omega) λa4 aF=>⟨⟨by omega,by omega⟩,yG (sw aF) (by omega) aE λa5 aG=>⟨⟨by omega,by omega⟩,qst2W aG (by omega) aE λa6 y=> ?_⟩⟩;have aU:inr B (i:Int) (B+i)=false:=Is.2 (by omega);have aA:(V.take B i).fr (B+i)=V.fr (B+i):=by show(V.fr (B+i)&& !inr B i (B+i))=_;grind
  have aK:(V.take B i).rl (B+i)=V.rl (B+i):=by show(V.rl (B+i)&& !inr B i (B+i))=_;grind
  rw[aA,aK]at y;have aI:(λj:Int=>if j=(i:Int)then V.fr (B+i)else if j<(i:Int)then V.fr (B+j)else u j)=λj=>if j<((i+1:Nat):Int)then V.fr (B+j)else u j:=by grind
  have aJ:(λj:Int=>if j=(i:Int)then V.rl (B+i)else if j<(i:Int)then V.rl (B+j)else g j)=λj=>if j<((i+1:Nat):Int)then V.rl (B+j)else g j:=by grind
  rw[aI,aJ]at y;rw[aA];refine AP (λe=> ?_) λe=> ?_
  .refine⟨B,gQ y,?_⟩;rw[AI (n:=B+(i:Int))];refine YY (sw y) (by omega) (by omega) (aC _ e) (by grind) ?_;intro _ _ a7 Y;refine⟨⟨i+1,by omega,by omega,?_⟩,by omega⟩;rw[T]at Y;exact sw Y
  .refine⟨⟨i+1,by omega,by omega,?_⟩,by omega⟩;have a1:V.rl (B+i)=false:=by grind
   have:V.take B ((i+1:Nat):Int)=V.take B i:=by
    have e1: ∀x,(V.fr x&& !inr B ((i+1:Nat):Int) x)=(V.fr x&& !inr B i x):=λx=>by
     by_cases hx:x=B+i
     .grind
     .have:inr B ((i+1:Nat):Int) x=inr B i x:=Bool.eq_iff_iff.2 (by rw[Ai,Ai];omega);rw[this]
    have e2: ∀x,(V.rl x&& !inr B ((i+1:Nat):Int) x)=(V.rl x&& !inr B i x):=λx=>by grind
    unfold TV.take
    grind
   grind
 .have aL:i=64:=by omega
  subst aL;refine O w9 (Sat.rcw.2 ⟨B,_,_,⟨aB.1,aB.2.1,λ_=>rfl,λk hk=> ?_,λk hk=> ?_,λk hk=> ?_⟩,H9⟩)
  .grind
  .grind
  grind
end
def Sat.wX{F:List Pr}{w:World}{t:Nat}{s:Ac}{vs us:List Value}(H:Sat (Row t 1 s (vs++us)::F) w):Sat (Row t 1 ⟨s.base,vs.length,s.cap⟩ vs::F) w:=by
 obtain⟨D,h,hs⟩:=H.step;have j:=h.2;have K:vs.length+us.length=s.len:=by have:=j.len;grind
 refine hs w D _ (Ext.refl _ _) ⟨h.1,⟨by simp,by have:=j.cap;grind,j.top,?_⟩⟩ λ_ hk=>.inl hk;rcases j.row with h1|⟨b,cs,h1,h2,y,J,v⟩
 .grind
 .refine .inr ⟨b,cs,h1,h2,y,J,?_⟩;simp only[Nat.mul_one]at v⊢;rw[show vs.length=min vs.length s.len by omega,<-List.take_take,v,List.take_left'];rfl
def OJ(X:FX):List Bool:=(List.range X.n).map λi=>decide (i∉X.bk)
def Lf(X:FX):List Int:=X.bk.reverse.map λa:Nat=>(a:Int)+1
def JV(X:FX):(OJ X).length=X.n:=by simp[OJ]
def MB{X:FX}{i:Nat}(h:i<X.n):(OJ X)[i]? =some (decide (i∉X.bk)):=by simp[OJ,h]
def SV(X:FX):(Lf X).length=X.bk.length:=by simp[Lf]
def yH(E:Env)(b:Nat)(X:FX)(s1 s2:Ac):List Pr:=[Cells b E.KQ [.int .i64 64,.int .i64 (X.n:Int),GJ s1,GJ s2],Row E.AY 1 s1 (BA (OJ X)),Row E.Ep 1 s2 (ints .i64 (Lf X))]
def Kt(E:Env)(b:Nat)(X:FX):Pr:=Ex λx:Ac×Ac=>Kk (Z9 X) (NR (yH E b X x.1 x.2))
section
variable{E:Env}{b:Nat}{X:FX}{Z:List Pr}{w:World}
def Sat.nD:Sat (Kt E b X::Z) w↔ ∃s1 s2,Z9 X/\Sat (yH E b X s1 s2++Z) w:=by
 unfold Kt;rw[Sat.ex];constructor
 .rintro⟨⟨s1,s2⟩,h⟩;rw[Sat.where,Sat.star]at h
  grind
 .rintro⟨s1,s2,h1,h2⟩;refine⟨⟨s1,s2⟩,?_⟩;rw[Sat.where,Sat.star]
  grind
def gR(H:Sat Z w){K:Option Addr->Int->World->Prop}(y: ∀b w',Sat (Kt E b ⟨0,[]⟩::Z) w'->K (some ⟨b,0,none⟩) 0 w'):F.JY E 64 K w:=by
 unfold F.JY;refine AU (AO (by decide) λj=>AO (by decide) ?_);refine AQ (vs:=[.int .i64 64,.int .i64 0,.slice none 0 0,.slice none 0 0]) H λb w' v _=>y b w' (Sat.nD.2 ⟨⟨none,0,0⟩,⟨none,0,0⟩,⟨.nil,λi h=>(by cases h),by decide⟩,?_⟩);exact((v.nil E.AY 1).nil E.Ep 1).perm ((List.reverse_perm [_,_,_]).symm.append_right Z)|>.perm (.cons _ (.refl _))
def nE{X:FX}{a:Nat}{r:List Nat}(hI:Z9 X)(j:X.bk=a::r):(OJ X).set a true=OJ ⟨X.n,r⟩:=by
 have v:=hI.nd;rw[j,List.nodup_cons]at v;apply List.ext_getElem?;intro i;have y:a<X.n:=hI.lt a (by rw[j];simp);rw[List.getElem?_set];by_cases e:a=i
 .subst e;rw[if_pos rfl,if_pos (by rw[JV];exact y)];have:=MB (X:=⟨X.n,r⟩) (i:=a) y
  grind
 .rw[if_neg e];by_cases g:i<X.n
  .rw[MB g,MB (X:=⟨X.n,r⟩) g,j]
   grind
  .rw[List.getElem?_eq_none (by rw[JV];omega),List.getElem?_eq_none (by rw[JV];show X.n<=i;omega)]
def nF{X:FX}{a:Nat}(j:a<X.n):(OJ X).set a false=OJ ⟨X.n,a::X.bk⟩:=by
 apply List.ext_getElem?;intro i;rw[List.getElem?_set];by_cases e:a=i
 .subst e;rw[if_pos rfl,if_pos (by rw[JV];exact j)];have:=MB (X:=⟨X.n,a::X.bk⟩) (i:=a) j
  grind
 .rw[if_neg e];by_cases g:i<X.n
  .rw[MB g,MB (X:=⟨X.n,a::X.bk⟩) g]
   grind
  .rw[List.getElem?_eq_none (by rw[JV];omega),List.getElem?_eq_none (by rw[JV];show X.n<=i;omega)]
def sG{X:FX}(j:X.bk=[]):OJ X++[true]=OJ ⟨X.n+1,[]⟩:=by
 unfold OJ;rw[j,List.range_succ];simp
def cA(H:Sat (Kt E b X::Z) w)(aO:X.n<1099511627776){K:Int->World->Prop}
  (aI:X.bk=[]-> ∀w',Sat (Kt E b ⟨X.n+1,[]⟩::Z) w'->K ((X.n:Int)+1) w')
  (aJ: ∀a r,X.bk=a::r-> ∀w',Sat (Kt E b ⟨X.n,r⟩::Z) w'->K ((a:Int)+1) w'):F.Gu E (some ⟨b,0,none⟩) K w:=by
 obtain⟨s1,s2,hI,H⟩:=Sat.nD.1 H;have aK:=(H.front 1 rfl).EA;have v:=(H.front 2 rfl).EA;rw[BA,List.length_map,JV,Nat.mul_one]at aK;rw[ints,List.length_map,SV,Nat.mul_one]at v;unfold F.Gu;simp only[AH];refine⟨s2,H.cell rfl,?_⟩;cases hb:X.bk with
 | nil=>
  rw[hb]at v;simp at v;refine AO (decide_eq_false (by omega)) ⟨(X.n:Int),H.cell rfl,?_⟩;rw[AM (n:=(X.n:Int)+1)];refine AV H (o:=0) (m:=1) rfl (by simp) λaW aA=>⟨s1,aA.cell rfl,?_⟩;refine AQ (vs:=[.bool true]) aA λaQ aX aD _=> ?_;refine GD (news:=[.bool true]) (aD.FP 1 rfl) rfl rfl (by simp[Value.oneCell']) (by omega) (by omega) λlK aY aE _=> ?_;refine AV (aE.front 1 rfl) (o:=0) (m:=2) rfl (by simp) λaM y=>⟨_,y.cell rfl,aI hb aM (Sat.nD.2 ⟨lK,s2,⟨.nil,λi h=>(by cases h),by grind⟩,?_⟩)⟩;have e1:BA (OJ X)++[.bool true]=BA (OJ ⟨X.n+1,[]⟩):=by rw[<-sG hb];simp[BA]
  have e2:Lf X=Lf ⟨X.n+1,[]⟩:=by unfold Lf;rw[hb]
  rw[e1,e2]at y;exact y
 | cons a r=>
  have aH:Lf X=Lf ⟨X.n,r⟩++[(a:Int)+1]:=by unfold Lf;grind
  have hlen:(Lf ⟨X.n,r⟩).length=r.length:=SV _;rw[hb,List.length_cons]at v;have ha:a<X.n:=hI.lt a (by rw[hb];simp);obtain⟨x2,aC⟩:=(H.front 2 rfl).own.Gf (by omega);obtain⟨x1,aB⟩:=(H.front 1 rfl).own.Gf (by omega);have aN:=(H.front 2 rfl).own.cap;have aP:=(H.front 2 rfl).own.top;refine AS (decide_eq_true (by omega)) ⟨s2,H.cell rfl,?_⟩;rw[AM (n:=((s2.len:Nat):Int)-1),show Int.toNat (((s2.len:Nat):Int)-1)=r.length by omega,aC];simp only[AH];have c6:w.cell? ((Addr.mk x2 0 none).add (r.length*1))=some (.int .i64 ((a:Int)+1)):=by
   refine(H.front 2 rfl).own.cell aC ?_;rw[Nat.mul_one];refine Od ?_
   grind
  refine⟨⟨by omega,by omega⟩,_,c6,s2,H.cell rfl,⟨by omega,by omega⟩,?_⟩;rw[Mr,AM (n:=(a:Int)+1-1),show Int.toNat ((a:Int)+1-1)=a by omega];refine AV H (o:=0) (m:=3) rfl (by simp) λaV J=>⟨s1,J.cell rfl,?_⟩;rw[aB];simp only[AH,Nat.mul_one];refine⟨⟨by omega,by omega⟩,?_⟩;refine Il (J.front 1 rfl) (j:=a) rfl (by rw[BA,List.length_map,JV];exact ha) aB λaL O=>aJ a r hb aL (Sat.nD.2 ⟨s1,⟨s2.base,r.length,s2.cap⟩,⟨?_,λi hi=>hI.lt i (by rw[hb];exact .tail _ hi),hI.JI⟩,?_⟩)
  .have:=hI.nd
   grind
  .have e1:(BA (OJ X)).set a (.bool true)=BA (OJ ⟨X.n,r⟩):=by rw[<-nE hI hb];unfold BA;rw[List.map_set]
   rw[e1]at O;have T:=O.front 2 rfl;have e2:ints .i64 (Lf X)=ints .i64 (Lf ⟨X.n,r⟩)++[.int .i64 ((a:Int)+1)]:=by rw[aH];simp[ints]
   rw[e2]at T;have Y:=T.wX;have e3:(ints .i64 (Lf ⟨X.n,r⟩)).length=r.length:=by rw[ints,List.length_map,hlen]
   rw[e3]at Y;exact Y.front 2 rfl|>.perm (.cons _ (.swap _ _ _))
def cB(H:Sat (Kt E b X::Z) w){a:Nat}(T:a<X.n)(O:a∉X.bk)(aF:X.bk.length<1099511627776){K:Int->World->Prop}(hK: ∀w',Sat (Kt E b ⟨X.n,a::X.bk⟩::Z) w'->K 0 w'):F.C7 E (some ⟨b,0,none⟩) ((a:Int)+1) K w:=by
 obtain⟨s1,s2,hI,H⟩:=Sat.nD.1 H;have aB:=(H.front 1 rfl).EA;have aC:=(H.front 2 rfl).EA;have hf:=hI.JI;rw[BA,List.length_map,JV,Nat.mul_one]at aB;rw[ints,List.length_map,SV,Nat.mul_one]at aC;obtain⟨x1,v⟩:=(H.front 1 rfl).own.Gf (by omega);have y:w.cell? ((Addr.mk x1 0 none).add (a*1))=some (.bool true):=by
  refine(H.front 1 rfl).own.cell v ?_;rw[Nat.mul_one];refine Lq ?_;rw[MB T,decide_eq_true O]
 unfold F.C7 T0.C7 F.Ip;simp only[AH];refine AS (decide_eq_true (by omega)) ⟨(X.n:Int),H.cell rfl,AS (decide_eq_true (by omega)) ⟨s1,H.cell rfl,?_⟩⟩;rw[AM (n:=(a:Int)+1-1),show Int.toNat ((a:Int)+1-1)=a by omega,v];simp only[AH];refine⟨⟨by omega,by omega⟩,true,y,AO rfl ⟨s1,H.cell rfl,?_⟩⟩;rw[v];simp only[AH,Nat.mul_one];refine⟨⟨by omega,by omega⟩,Il (H.front 1 rfl) (j:=a) rfl (by rw[BA,List.length_map,JV];exact T) v λw6 H6=>⟨s2,(H6.front 1 rfl).cell rfl,?_⟩⟩;refine AQ (vs:=[.int .i64 ((a:Int)+1)]) H6 λb9 aK Y _=> ?_;refine GD (news:=[.int .i64 ((a:Int)+1)]) (Y.FP 2 rfl) rfl rfl (by simp[Value.oneCell']) (by omega) (by omega) λdG aL aA _=> ?_;refine AV (aA.front 2 rfl) (o:=0) (m:=3) rfl (by simp) λaD J=>hK aD (Sat.nD.2 ⟨s1,dG,⟨List.nodup_cons.2 ⟨O,hI.nd⟩,λi hi=>by
  rcases List.mem_cons.1 hi with e|e
  .rw[e];exact T
  .exact hI.lt i e,hI.JI⟩,?_⟩)
 have e1:(BA (OJ X)).set a (.bool false)=BA (OJ ⟨X.n,a::X.bk⟩):=by rw[<-nF T];unfold BA;rw[List.map_set]
 have e2:ints .i64 (Lf X)++[.int .i64 ((a:Int)+1)]=ints .i64 (Lf ⟨X.n,a::X.bk⟩):=by simp[ints,Lf]
 rw[e1,e2]at J;exact J.perm (.cons _ (.swap _ _ _))
end
def powL:Nat->Int->Bool
 | 0,n=>n==1
 | k+1,n=>if n>1 then(if Int.tmod n 2=0 then powL k (u64 (Int.tdiv n 2))else n==1)else n==1
def RE.sH(s:RE):Bool:=decide (1<s.l.length)&&(s.last.2.1==i64 (Int.tdiv (bytesF s.size 16 8192) 8192)&&(i64 (Int.tdiv (bytesF s.size 16 8192) s.last.1)==i64 (Int.tdiv (bytesF s.size 16 8192) s.size)))
def RE.ok5(s:RE):Bool:=(s.sH==s.same)&&(powL 64 (u64 s.size)==X6 (u64 s.size))
def allOk5:Nat->RE->Bool
 | 0,_=>true
 | n+1,s=>match s.ok5 with
  | true=>allOk5 n s.next
  | false=>false
def wY:allOk5 rounds (Pn 0)=true:=by decide+kernel
def S9: ∀(n k:Nat),allOk5 n (Pn k)=true-> ∀j,j<n->(Pn (k+j)).ok5=true
 | 0,k,h,j,hj=>by omega
 | n+1,k,h,j,hj=>by
  unfold allOk5 at h;split at h
  .rename_i hg;cases j with
   | zero=>exact hg
   | succ j=>have:=S9 n (k+1) h j (by omega);grind
  .cases h
def ok5{k:Nat}(h:k<rounds):(Pn k).sH=(Pn k).same/\powL 64 (u64 (Pn k).size)=X6 (u64 (Pn k).size):=by
 have:=S9 rounds 0 wY k h;rw[Nat.zero_add]at this;unfold RE.ok5 at this
 grind
section
variable{E:Env}{w:World}{Z:List Pr}
def SX{n:Int}(J:0<=n)(O:n<18446744073709551616){K:Bool->World->Prop}(j:K (powL 64 n) w):F.KV E n K w:=by
 unfold F.KV;refine AJ (λst w'=>w'=w/\ ∃i:Nat,i<=64/\0<=st.1/\st.1<(2:Int)^(64-i)/\powL (64-i) st.1=powL 64 n) (λst _=>st.1.toNat) ⟨rfl,0,by decide,J,O,rfl⟩ ?_;rintro⟨m,u⟩ _ T ⟨rfl,i,Y,m0,m1,hm⟩;dsimp only at m0 m1 hm⊢;have v:(m>1->Int.tmod m 2≠0)->K (m==1) T:=λh=>by
  rw[<-hm]at j;cases hk:64-i with
  | zero=>rw[hk]at j;exact j
  | succ k=>
   rw[hk]at j;unfold powL at j;by_cases g:m>1
   .rw[if_pos g,if_neg (h g)]at j;exact j
   .rw[if_neg g]at j;exact j
 refine AB (λg=>⟨by decide,BI (λe=>⟨by decide,?_⟩) λe=>v λ_=>e⟩) λg=>v λh=>absurd h g;cases hk:64-i with
 | zero=>grind
 | succ k=>
  rw[hk]at m1 hm;unfold powL at hm;rw[if_pos g,if_pos e]at hm;have hp:(2:Int)^(k+1)=2^k*2:=Int.pow_succ 2 k;have y:(2:Int)^(k+1)<=2^64:=by
   have:(2:Nat)^(k+1)<=2^64:=Nat.pow_le_pow_right (by decide) (by omega)
   grind
  have hd:Int.tdiv m 2=m/2:=Int.tdiv_eq_ediv_of_nonneg m0;have he:(2:Int)^64=18446744073709551616:=by decide
  have hu:u64 (Int.tdiv m 2)=m/2:=by rw[hd,AI]
  rw[hu]at hm⊢;exact⟨⟨rfl,i+1,by omega,by omega,by grind,by show powL (64-(i+1)) (m/2)=_;rw[show 64-(i+1)=k by omega];exact hm⟩,by omega⟩
def cC{n:Int}(y:n<2∨n≠0){K:Int->World->Prop}(j:K (if n<2 then 0 else IntKind.wrap .u32 (IntKind.wrap .u32 (Int.tdiv 4294967295 n)+1)) w):F.I7 E n K w:=by
 unfold F.I7;refine AB (λh=> ?_) λh=>⟨by omega,Am λx v=> ?_⟩
 .rw[if_pos h]at j;exact j
 .rw[if_neg h]at j;rw[v];exact j
def O4(H:Sat Z w){K:Ac->Int->World->Prop}(hK: ∀s w',Sat (Row E.At 4 s (Ao Ig LP)::Z) w'->K s 0 w'):F.Du E 8192 32768 K w:=by
 unfold F.Du T0.Du;have p1:powL 64 (u64 8192)=true:=by decide+kernel
 have p2:powL 64 (u64 32768)=true:=by decide+kernel
 refine AU (AO (by decide) (AO (by decide) (SX (by decide+kernel) (by decide+kernel) ?_)));rw[p1];refine AO rfl (AO (by decide) (AO (by decide+kernel) (SX (by decide+kernel) (by decide+kernel) ?_)));rw[p2];refine λj=>AO rfl ?_;obtain⟨aH,aQ⟩:=runs;refine IU (n:=1) (z:=4) H rfl (by decide) λb8 w9 H9=> ?_;refine AJ (λst w'=> ∃k:Nat,k<=rounds/\st.2.1=(Pn k).NJ/\st.2.2.1=(Pn k).size/\Sat (Row E.At 4 st.1 (Ao Ig (Pn k).l)::Z) w') (λst _=>(40000-st.2.2.1).toNat)
  ⟨0,Nat.zero_le _,rfl,rfl,H9⟩ ?_
 rintro⟨FJ,NJ,size,v⟩ _ bL ⟨k,hk,aS,aP,aF⟩;dsimp only at aS aP aF⊢;have hl:=aF.Gb (by decide) Ae;refine AB (λhle=> ?_) λaL=> ?_
 .have aM:k<rounds:=by
   rcases Nat.lt_or_eq_of_le hk with g|g
   .exact g
   .subst g;rw[aQ]at aP;have:=jK;omega
  have hg:=RF (aH k aM);obtain⟨o1,o2⟩:=ok5 aM;rw[aS,aP];generalize hS:Pn k=S at hg aP aS aF hl o1 o2⊢;have aN:Pn (k+1)=S.next:=by rw[<-hS];rfl
  have b0:=hg.s0;have b1:=hg.s1;have a3:=hg.l0;have bO:=hg.l1;have bS:=hg.st0;have bT:=hg.st1;refine Aj (λst w'=>st.1=Ju S.size S.NJ/\w'=bL) ?_ ?_
  .refine SX (by rw[AI];omega) (by rw[AI];omega) ?_;rw[o2];unfold Ju;cases hp:X6 (u64 S.size)
   .refine AO rfl ⟨?_,rfl⟩
    grind
   .rw[if_neg (by decide)];refine AS rfl (AB (λh=>⟨?_,rfl⟩) λh=>AB (λh2=>⟨by decide,Am λx hx=>⟨?_,rfl⟩⟩) λh2=>AB (λh3=>⟨?_,rfl⟩) λh3=>⟨?_,rfl⟩)
    .omega
    .omega
    .omega
    omega
  rintro⟨step,v⟩ _ bM ⟨aI,rfl⟩;dsimp only at aI⊢;subst aI;refine AJ (λst w'=>w'=bM/\ ∃i:Nat,i<=16/\st.1=8192+i*8192/\bytesF S.size (16-i) st.1=bytesF S.size 16 8192) (λst _=>(200000-st.1).toNat) ⟨rfl,0,by decide,by omega,rfl⟩ ?_;rintro⟨n,v⟩ _ cE ⟨rfl,i,hi,hn,O⟩;dsimp only at hn O⊢;refine⟨by omega,by decide,AB (λaL=> ?_) λhle=> ?_⟩
  .rcases Nat.lt_or_ge i 16 with h8|h8
   .obtain⟨k,hk⟩: ∃k,16-i=k+1:=⟨15-i,by omega⟩;rw[hk]at O;rw[AM (n:=n+8192)];refine⟨⟨rfl,i+1,by omega,by omega,?_⟩,by omega⟩;rw[<-O,show 16-(i+1)=k by omega];unfold bytesF;rw[if_pos aL,AM (n:=n+8192)];cases k<;>rfl
   .have:i=16:=by omega
    subst this;have:bytesF S.size 0 n=n:=rfl;rw[show 16-16=0 from rfl,this]at O;have Au:=hg.NJ
    grind
  have a5:n=bytesF S.size 16 8192:=by
   rw[<-O];cases h:16-i with
   | zero=>rfl
   | succ k=>unfold bytesF;rw[if_neg (by omega)]
  rw[a5];clear a5 O hn hi hle;have Y:=aE a3;obtain⟨b,O⟩:=aF.FY (by decide) Ae (i:=S.l.length-1) (by omega);rw[AM (n:=((FJ.len:Nat):Int)-1),O];simp only[AH];refine Am λlast a8=> ?_;have et:Int.toNat last=S.l.length-1:=by omega
  rw[et];have Hd:=aF.drew;have c0:=Hd.Bp Ae O Y (j:=0) rfl;have c1:=Hd.Bp Ae O Y (j:=1) rfl;have aT:S.l.getLastD (0,0,0,0)=S.last:=rfl;rw[aT]at c0 c1 Y;rw[Nat.add_zero]at c0;rw[AM (n:=S.size+Ju S.size S.NJ)];have bR:S.next.size=S.size+Ju S.size S.NJ:=AM;have J:(0:Int)<=last/\last<(FJ.len:Nat):=⟨by omega,by omega⟩;refine Aj (λst w'=>st.1=S.same/\Sat (Row E.At 4 FJ (Ao Ig S.l)::Z) w') ?_ ?_
  .rw[<-o1];unfold RE.sH;refine AB (λh1=>⟨J,S.last.2.1,by rw[add_add];exact c1,by decide,BI (λe1=> ?_) λe1=> ?_⟩) λh1=> ?_
   .have d1:decide (1<S.l.length)=true:=decide_eq_true (by omega);have bE:=c0;refine⟨J,S.last.1,bE,hg.nz (by omega),by omega,?_,Hd⟩
    grind
   .refine⟨?_,Hd⟩
    grind
   .refine⟨?_,Hd⟩
    grind
  rintro⟨x,v⟩ _ cF ⟨hx,aW⟩;dsimp only at hx;subst hx;refine AP (λe=>⟨J,?_⟩) λe=>⟨by decide,?_⟩
  .have hs:=Il aW (j:=(S.l.length-1)*4) (v:=.int .i64 S.size) (K:=λa6=>(∃k:Nat,k<=rounds/\Ju S.size S.NJ=(Pn k).NJ/\S.size+Ju S.size S.NJ=(Pn k).size/\Sat (Row E.At 4 FJ (Ao Ig (Pn k).l)::Z) a6)/\(40000-(S.size+Ju S.size S.NJ)).toNat<(40000-S.size).toNat) rfl (by rw[D8 Ae];omega) O λa6 bB=>⟨⟨k+1,by omega,by rw[aN];rfl,by grind,?_⟩,by omega⟩
   .exact hs
   .have:=JS Ae Y (j:=0) (y:=(S.size,S.last.2)) (v:=.int .i64 S.size) (by decide) rfl;rw[Nat.add_zero]at this;rw[this,aD a3]at bB;rw[aN];unfold RE.next
    grind
  .refine AQ aW λbX cG bC _=> ?_;refine GD (news:=Ig (S.size,i64 (Int.tdiv (bytesF S.size 16 8192) 8192),0,0)) bC rfl rfl (aA _) (by omega) (by omega) λzC cH bD _=>⟨⟨k+1,by omega,by rw[aN];rfl,by grind,?_⟩,by omega⟩;have e1:Ao Ig S.l++Ig (S.size,i64 (Int.tdiv (bytesF S.size 16 8192) 8192),0,0)=Ao Ig (S.l++[(S.size,i64 (Int.tdiv (bytesF S.size 16 8192) 8192),0,0)]):=by rw[F9];simp[Ao]
   rw[e1]at bD;rw[aN];unfold RE.next
   grind
 .have aM:k=rounds:=by
   rcases Nat.lt_or_eq_of_le hk with g|g
   .have:=(RF (aH k g)).s1;omega
   .exact g
  subst aM;rw[aQ]at aF hl;have hlen:=jL;cases hL:aC.l with
  | nil=>grind
  | cons c0 T=>
   rw[hL]at aF hl hlen;have hT:T.length=67:=by grind
   have a2: ∀i c,T[i]? =some c->aB c=true:=λi c hc=>by
    have:=jM;rw[hL]at this;exact List.all_eq_true.1 this c (List.mem_of_getElem? hc)
   have bU:LP=c0::T.map Ei:=by unfold LP;rw[hL]
   refine AJ (λst w'=> ∃i:Nat,st.1=(i:Int)+1/\i<=67/\Sat (Row E.At 4 FJ (Ao Ig (c0::((T.take i).map Ei++T.drop i)))::Z) w') (λst _=>(68-st.1).toNat) ⟨0,rfl,by decide,aF⟩ ?_;rintro⟨i',v⟩ _ bN ⟨i,hi,bP,aG⟩;dsimp only at hi⊢;subst hi;refine AB (λb6=> ?_) λb3=> ?_
   .have b5:i<67:=by omega
    obtain⟨c,hc⟩: ∃c,T[i]? =some c:=⟨_,List.getElem?_eq_getElem (by omega)⟩;have Au:=a2 i c hc;unfold aB at Au;simp only[Bool.and_eq_true,Bool.or_eq_true,decide_eq_true_eq,bne_iff_ne]at Au;obtain⟨o1,o2,o3,o4⟩:=Au;have et:Int.toNat ((i:Int)+1)=i+1:=by omega
    rw[et,AM (n:=(i:Int)+1+1)];generalize hF:(c0::((T.take i).map Ei++T.drop i))=FX at aG;have bZ:FX.length=68:=by grind
    have aJ:FX[i+1]? =some c:=by grind
    have bH:FX.set (i+1) (Ei c)=c0::((T.take (i+1)).map Ei++T.drop (i+1)):=by
     rw[<-hF,List.set_cons_succ];congr 1;have bI:c=T[i]:=by rw[List.getElem?_eq_getElem (by omega)]at hc;exact(Option.some.inj hc).symm
     rw[List.set_append_right _ _ (by rw[List.length_map,List.length_take];omega),List.length_map,List.length_take,Nat.min_eq_left (by omega),Nat.sub_self,List.take_succ_eq_append_getElem (by omega),List.map_append,List.drop_eq_getElem_cons (by omega),List.set_cons_zero,List.append_assoc,bI];rfl
    obtain⟨b,O⟩:=aG.FY (by decide) Ae (i:=i+1) (by omega);rw[O];simp only[AH];have d0:=aG.Bp Ae O aJ (j:=0) rfl;have d1:=aG.Bp Ae O aJ (j:=1) rfl;rw[Nat.add_zero]at d0;have J:(0:Int)<=(i:Int)+1/\(i:Int)+1<(FJ.len:Nat):=⟨by omega,by omega⟩;refine⟨J,c.2.1,by rw[add_add];exact d1,J,c.1,d0,o1,o2,by decide,Am λwide aU=> ?_⟩;refine Aj (λ_ w'=>Sat (Row E.At 4 FJ (Ao Ig (FX.set (i+1) ((Ei c).1,c.2)))::Z) w') ?_ ?_
    .refine⟨J,c.1,d0,AB (λaL=>⟨J,?_⟩) λb7=> ?_⟩
     .have e1:(Ei c).1=wide:=by unfold Ei;dsimp only;rw[<-aU,if_pos aL]
      refine Il aG (j:=(i+1)*4) rfl (by rw[D8 Ae];omega) O λcJ bV=> ?_;have:=JS Ae aJ (j:=0) (y:=(wide,c.2)) (v:=.int .i64 wide) (by decide) rfl
      grind
     .have e1:(Ei c).1=c.1:=by unfold Ei;grind
      show Sat (Row E.At 4 FJ (Ao Ig (FX.set (i+1) ((Ei c).1,c.2)))::Z) bN;rw[e1];have:FX.set (i+1) (c.1,c.2)=FX:=by
       have:=List.getElem?_eq_some_iff.1 aJ;rw[show(c.1,c.2)=FX[i+1]from this.2.symm,List.set_getElem_self]
      grind
    rintro _ _ cI aX;have g1:(FX.set (i+1) ((Ei c).1,c.2))[i+1]? =some ((Ei c).1,c.2):=by grind
    have f0:=aX.Bp Ae O g1 (j:=0) rfl;rw[Nat.add_zero]at f0;have aO:i64 (Int.tdiv (i64 (c.2.1*8192)) (Ei c).1)=(Ei c).2.2.1:=rfl;refine⟨J,(Ei c).1,f0,o3,J,?_⟩;rw[aO,add_add];refine Il aX (j:=(i+1)*4+2) rfl (by rw[D8 Ae,List.length_set];omega) O λcK aR=> ?_;have:=JS Ae g1 (j:=2) (y:=((Ei c).1,c.2.1,(Ei c).2.2.1,c.2.2.2)) (v:=.int .i64 (Ei c).2.2.1) (by decide) rfl;rw[this,List.set_set]at aR;have g2:(FX.set (i+1) ((Ei c).1,c.2.1,(Ei c).2.2.1,c.2.2.2))[i+1]? =some ((Ei c).1,c.2.1,(Ei c).2.2.1,c.2.2.2):=by grind
    have a0:=aR.Bp Ae O g2 (j:=0) rfl;rw[Nat.add_zero]at a0;refine⟨J,(Ei c).1,a0,cC o4 ⟨J,?_⟩⟩;have a4:(if IntKind.wrap .u32 (Ei c).1<2 then(0:Int)else IntKind.wrap .u32 (IntKind.wrap .u32 (Int.tdiv 4294967295 (IntKind.wrap .u32 (Ei c).1))+1))=(Ei c).2.2.2:=rfl;rw[a4,add_add];refine Il aR (j:=(i+1)*4+3) rfl (by rw[D8 Ae,List.length_set];omega) O λcL aY=>⟨⟨i+1,by omega,by omega,?_⟩,by omega⟩;have h3:=JS Ae g2 (j:=3) (y:=Ei c) (v:=.int .u32 (Ei c).2.2.2) (by decide) rfl;rw[h3,List.set_set,bH]at aY;exact aY
   .have b4:i=67:=by omega
    grind
end
def tr(l:List Bool)(i:Nat):Bool:=l.getD i false
def j8{l:List Bool}{i:Nat}(h:i<l.length):l[i]? =some (tr l i):=by
 unfold tr
 grind
def TA{l:List Bool}{i:Nat}(h:l.length<=i):tr l i=false:=by
 unfold tr
 grind
def sI{l:List Bool}{i j:Nat}(h:i<l.length)(x:Bool):tr (l.set i x) j=if j=i then x else tr l j:=by
 unfold tr
 grind
def sJ{l:List Bool}{j n:Nat}:tr (l++List.replicate n false) j=tr l j:=by
 by_cases h:j<l.length
 .unfold tr;grind
 .rw[TA (l:=l) (by omega)];unfold tr
  grind
structure j9(S:SI)(U M:Nat->Bool)(ul ml:List Bool)(lk:Int):Prop where
 u: ∀i,U i=tr ul i
 m: ∀i,M i=tr ml i
 lu:(ul.length:Int)<=S.AK
 lm:(ml.length:Int)<=S.AK
 Kl:S.AK<=137438953472
 lk0:0<=lk/\lk<=S.AK
 lk1: ∀i:Nat,(i:Int)<lk->U i=true
def Gy(S:SI)(s1 s2:Ac)(j:Int):List Value:=[.int .u64 (S.base/8192),.int .u64 S.AA,.int .i64 S.state,.int .i64 S.cls,.bool S.G5,.int .i64 S.elem,.int .i64 S.AK,GJ s1,GJ s2,.int .i64 j]
def Vl(E:Env)(q:Nat)(S:SI)(ul ml:List Bool)(s1 s2:Ac)(j:Int):List Pr:=[Cells q E.Dk (Gy S s1 s2 j),Row E.AY 1 s1 (BA ul),Row E.AY 1 s2 (BA ml)]
def A4(E:Env)(q:Nat)(S:SI)(U M:Nat->Bool):Pr:=Ex λx:List Bool×List Bool×Ac×Ac×Int=>Kk (j9 S U M x.1 x.2.1 x.2.2.2.2) (NR (Vl E q S x.1 x.2.1 x.2.2.1 x.2.2.2.1 x.2.2.2.2))
section
variable{E:Env}{q:Nat}{S:SI}{U M:Nat->Bool}{Z:List Pr}{w:World}
def Sat.Hb:Sat (A4 E q S U M::Z) w↔ ∃ul ml s1 s2 j,j9 S U M ul ml j/\Sat (Vl E q S ul ml s1 s2 j++Z) w:=by
 unfold A4;rw[Sat.ex];constructor
 .rintro⟨⟨ul,ml,s1,s2,j⟩,h⟩;rw[Sat.where,Sat.star]at h
  grind
 .rintro⟨ul,ml,s1,s2,j,h1,h2⟩;refine⟨⟨ul,ml,s1,s2,j⟩,?_⟩;rw[Sat.where,Sat.star]
  grind
def K7{s:Ac}{l:List Bool}(H:Sat (Row E.AY 1 s (BA l)::Z) w):l.length=s.len:=by
 have:=H.EA;rw[BA,List.length_map,Nat.mul_one]at this;omega
def O5{s:Ac}{l:List Bool}(H:Sat (Row E.AY 1 s (BA l)::Z) w){i:Nat}{K:Bool->World->Prop}(j:K (tr l i) w):F.GY E s i K w:=by
 unfold F.GY;have y:=K7 H;refine AS (decide_eq_true (by omega)) (AB (λh=> ?_) λh=> ?_)
 .obtain⟨b,v⟩:=H.own.Gf (by omega);rw[v];simp only[AH];refine⟨⟨by omega,h⟩,_,?_,j⟩;rw[Int.toNat_natCast,Nat.mul_one];exact H.own.cell v (Lq (j8 (by omega)))
 .rw[TA (by omega)]at j;omega
def Rb{s:Ac}{l:List Bool}(H:Sat (Row E.AY 1 s (BA l)::Z) w){i:Nat}(hi:i<1099511627776){x:Bool}{K:Ac->World->Prop}
  (O: ∀s' l' w',(∀j,tr l' j=if j=i then x else tr l j)->l'.length=max l.length (i+1)->Sat (Row E.AY 1 s' (BA l')::Z) w'->K s' w'):F.Hu E s i x K w:=by
 unfold F.Hu;refine AJ (λst w'=> ∃n:Nat,l.length+n<=max l.length (i+1)/\Sat (Row E.AY 1 st.1 (BA (l++List.replicate n false))::Z) w') (λst _=>((i:Int)+1-st.1.len).toNat) ⟨0,by omega,by grind⟩ ?_;rintro⟨s1,u⟩ _ w2 ⟨n,hn,v⟩;dsimp only at v⊢;have T:=K7 v;rw[List.length_append,List.length_replicate]at T;refine AB (λh=> ?_) λh=> ?_
 .refine AQ (vs:=[.bool false]) v λb4 w5 J _=> ?_;refine GD (news:=[.bool false]) J rfl rfl (by simp[Value.oneCell']) (by omega) (by omega) λs6 w7 H7 Y=>⟨⟨n+1,by omega,?_⟩,by omega⟩;have e:BA (l++List.replicate n false)++[.bool false]=BA (l++List.replicate (n+1) false):=by rw[List.replicate_succ'];simp[BA]
  grind
 .obtain⟨b,y⟩:=v.own.Gf (by omega);rw[y];simp only[AH];refine⟨⟨by omega,by omega⟩,?_⟩;rw[Int.toNat_natCast,Nat.mul_one];refine Il v (j:=i) rfl (by rw[BA,List.length_map,List.length_append,List.length_replicate];omega) y λw9 H9=>O s1 ((l++List.replicate n false).set i x) w9 (λj=> ?_) ?_ ?_
  .rw[sI (by grind),sJ]
  .grind
  .have e:(BA (l++List.replicate n false)).set i (.bool x)=BA ((l++List.replicate n false).set i x):=by unfold BA;simp
   grind
def cN_tr(ul:List Bool){U:Nat->Bool}(h: ∀i,U i=tr ul i){n:Nat}(v:ul.length<=n):cN U ul.length=cN U n:=by
 obtain⟨k,rfl⟩:=Nat.exists_eq_add_of_le v;exact(Tw (λi j=>by rw[h,TA j]) k).symm
def Kh(H:Sat (A4 E q S U M::Z) w){K:Int->World->Prop}(hK:K (cN U S.AK.toNat:Nat) w):F.BW E (some ⟨q,0,none⟩) K w:=by
 obtain⟨ul,ml,s1,s2,lk,hI,H⟩:=Sat.Hb.1 H;unfold F.BW;have hl:=K7 (H.front 1 rfl);have Y:=hI.lu;have J:=hI.Kl;refine AJ (λst w'=>w'=w/\ ∃i:Nat,st.2.1=(i:Int)/\i<=ul.length/\st.1=(cN U i:Nat)) (λst _=>((ul.length:Int)-st.2.1).toNat) ⟨rfl,0,rfl,Nat.zero_le _,rfl⟩ ?_;rintro⟨c,i',u⟩ _ w2 ⟨rfl,i,y,T,v⟩;dsimp only at y v⊢;subst y;subst v;have O:=Oh U i;refine AF ⟨s1,H.cell rfl,AB (λh=>AF ⟨s1,H.cell rfl,?_⟩) λh=> ?_⟩
 .obtain⟨b,j⟩:=(H.front 1 rfl).own.Gf (by omega);rw[j];refine AF ⟨⟨by omega,h⟩,tr ul i,?_,?_⟩
  .rw[Int.toNat_natCast,Nat.mul_one];exact(H.front 1 rfl).own.cell j (Lq (j8 (by omega)))
  .rw[<-hI.u i,AM (n:=(i:Int)+1),AM (n:=((cN U i:Nat):Int)+1)];have e:cN U (i+1)=cN U i+(U i).toNat:=rfl;refine AP (λg=>⟨⟨rfl,i+1,by omega,by omega,?_⟩,by omega⟩) λg=>⟨⟨rfl,i+1,by omega,by omega,?_⟩,by omega⟩
   .grind
   grind
 .obtain rfl:i=ul.length:=by omega
  rw[cN_tr ul hI.u (n:=S.AK.toNat) (by omega)];omega
def TB(H:Sat (A4 E q S U M::Z) w)(aC:S.state≠0)(s0:0<=S.AK){K:Int->Int->World->Prop}
  (Y:(∀i:Nat,(i:Int)<S.AK->U i=true)->K 0 30 w)
  (aA: ∀n:Nat,(n:Int)<S.AK->U n=false->(∀i,i<n->U i=true)-> ∀w',Sat (A4 E q S (λi=>U i||i==n) M::Z) w'->K n 0 w'):F.Cj E (some ⟨q,0,none⟩) K w:=by
 obtain⟨ul,ml,s1,s2,lk,hI,H⟩:=Sat.Hb.1 H;unfold F.Cj T0.Cj;have hl:=K7 (H.front 1 rfl);have aI:=hI.lu;have aF:=hI.Kl;obtain⟨l0,l1⟩:=hI.lk0;refine AF ⟨_,H.cell rfl,BI (λe=>absurd e aC) λ_=>AF ⟨_,H.cell rfl,?_⟩⟩;refine AJ (λst w'=>w'=w/\ ∃i:Nat,st.1=(i:Int)/\(i:Int)<=S.AK/\ ∀j,j<i->U j=true) (λst _=>(S.AK-st.1).toNat) ⟨rfl,lk.toNat,by omega,by omega,λj T=>hI.lk1 j (by omega)⟩ ?_;rintro⟨i',u⟩ _ w2 ⟨rfl,i,hi,aG,v⟩;dsimp only at hi⊢;subst hi;refine AF ⟨s1,H.cell rfl,O5 (H.front 1 rfl) ?_⟩;rw[<-hI.u i];have aH:U i=true->(i:Int)<S.AK:=λg=>by
  rw[hI.u]at g;by_cases h:i<ul.length
  .omega
  .rw[TA (by omega)]at g;cases g
 rw[AM (n:=(i:Int)+1)];refine AP (λg=>⟨⟨rfl,i+1,rfl,by grind,λj T=> ?_⟩,by grind⟩) λg=>AF ⟨_,H.cell rfl,AB (λh=>Y λj T=>v j (by omega)) λh=>AF ⟨s1,H.cell rfl,?_⟩⟩
 .grind
 .refine Rb (H.front 1 rfl) (by omega) λs' l' aK aB hlen y=> ?_;refine AF (AV (y.front 1 rfl) (o:=0) (m:=7) rfl (by simp[Gy]) λaL J=>AF (AV J (o:=0) (m:=9) rfl (by simp[Gy]) λaD O=> ?_));refine aA i (by omega) g v aD (Sat.Hb.2 ⟨l',ml,s',s2,(i:Int)+1,⟨λj=> ?_,hI.m,by omega,hI.lm,hI.Kl,⟨by omega,by omega⟩,λj T=> ?_⟩,O⟩)
  .rw[aB,hI.u]
   grind
  grind
def gS(H:Sat (A4 E q S U M::Z) w)(T:S.state≠0){K:Int->World->Prop}(J:0<cN U S.AK.toNat->K 33 w)
  (O:cN U S.AK.toNat=0-> ∀w',w'.cell? (Addr.mk q 0 none)=some (.int .u64 (S.base/8192))->w'.cell? ((Addr.mk q 0 none).add 1)=some (.int .u64 S.AA)->Sat Z w'->K 0 w'):F.C6 E (some ⟨q,0,none⟩) K w:=by
 obtain⟨ul,ml,s1,s2,lk,hI,H1⟩:=Sat.Hb.1 H;unfold F.C6 T0.C6;refine AU (AF ⟨_,H1.cell rfl,BI (λe=>absurd e T) λ_=>Kh H λj=>AB (λg=>J (by omega)) λg=> ?_⟩);exact AF (AV H1 (o:=0) (m:=2) rfl (by simp[Gy]) λw9 H9=>AF (AV H9 (o:=0) (m:=7) rfl (by simp[Gy]) λaB y=>AF (AV y (o:=0) (m:=8) rfl (by simp[Gy]) λY v=>O (by omega) Y (v.Aa rfl) (v.cell rfl) v.tail.tail.tail)))
def Yb(H:Sat (A4 E q S U M::Z) w)(s0:0<=S.AK){K:Ac->Int->World->Prop}(aN:S.state≠1->K ⟨none,0,0⟩ 33 w)(aO:S.state=1->(∃i,M i=true/\U i=false)->K ⟨none,0,0⟩ 40 w)
  (hk:S.state=1->(∀i,M i=true->U i=true)-> ∀s w',Sat (Row E.Ep 1 s (ints .i64 (Ek (λi=>U i&& !M i) S.AK.toNat))::A4 E q S (λi=>U i&&M i) (λ_=>false)::Z) w'->K s 0 w'):
  F.CO E (some ⟨q,0,none⟩) K w:=by
 obtain⟨ul,ml,s1,s2,lk,hI,H⟩:=Sat.Hb.1 H;unfold F.CO T0.CO;have a5:=K7 (H.front 1 rfl);have a6:=K7 (H.front 2 rfl);have a8:=hI.lu;have a7:=hI.lm;have aB:=hI.Kl;refine AF ⟨_,H.cell rfl,Ca aN λaD=> ?_⟩;refine AJ (λst w'=>w'=w/\ ∃i:Nat,st.1=(i:Int)/\i<=ml.length/\ ∀j,j<i->M j=true->U j=true) (λst _=>((ml.length:Int)-st.1).toNat) ⟨rfl,0,rfl,Nat.zero_le _,λj hj=>by omega⟩ ?_;rintro⟨i',u⟩ _ w4 ⟨rfl,i,hi,a3,aT⟩;dsimp only at hi⊢;subst hi;refine AF ⟨s2,H.cell rfl,AB (λy=> ?_) λaM=> ?_⟩
 .rw[AM (n:=(i:Int)+1)];obtain⟨b,J⟩:=(H.front 2 rfl).own.Gf (by omega);refine AU (AF ⟨s2,H.cell rfl,?_⟩)
  try dsimp only
  rw[J];refine AF ⟨⟨by omega,y⟩,tr ml i,?_,?_⟩
  .rw[Int.toNat_natCast,Nat.mul_one];exact(H.front 2 rfl).own.cell J (Lq (j8 (by omega)))
  .rw[<-hI.m i];have nx:(M i=true->U i=true)->(w4=w4/\ ∃i2:Nat,(i:Int)+1=(i2:Int)/\i2<=ml.length/\ ∀j,j<i2->M j=true->U j=true)/\((ml.length:Int)-((i:Int)+1)).toNat<((ml.length:Int)-(i:Int)).toNat:=λg=>⟨⟨rfl,i+1,rfl,by omega,λj hj=>by grind⟩,by omega⟩;refine AP (λg=>AF ⟨s1,H.cell rfl,O5 (H.front 1 rfl) λj=> ?_⟩) λg j=>AO rfl (nx λh=>by grind);rw[<-hI.u i];exact Qn (AP (λh=>nx λ_=>h) λh=>aO aD ⟨i,g,h⟩)
 .have aQ: ∀i,M i=true->U i=true:=λj hj=>by
   by_cases h:j<i
   .grind
   .rw[hI.m,TA (by omega)]at hj;grind
  have H0:=(H.nil E.Ep 1)
  let F:Nat->Bool:=λi=>U i&& !M i
  refine AJ (λst w'=> ∃(k:Nat) (l:List Bool),st.2.1=(k:Int)/\k<=ul.length/\l.length=ul.length/\(∀j,tr l j=if j<k then U j&&M j else U j)/\Sat (Row E.Ep 1 st.1 (ints .i64 (Ek F k))::Cells q E.Dk (Gy S s1 s2 lk)::Row E.AY 1 s1 (BA l)::Row E.AY 1 s2 (BA ml)::Z) w') (λst _=>((ul.length:Int)-st.2.1).toNat)
   ⟨0,ul,rfl,Nat.zero_le _,rfl,λj=>by rw[if_neg (by omega),hI.u],H0⟩ ?_
  rintro⟨r,k',u⟩ _ aR ⟨k,l,aA,a4,aP,aE,v⟩;dsimp only at aA v⊢;subst aA;have HC:=v.front 1 rfl;refine AF ⟨s1,HC.cell rfl,AB (λy=> ?_) λaM=> ?_⟩
  .rw[AM (n:=(k:Int)+1)];obtain⟨b,J⟩:=(v.front 2 rfl).own.Gf (by omega);have aL:tr l k=U k:=by grind
   refine Aj (λst w'=>st.1=F k/\w'=aR) (AF ⟨s1,HC.cell rfl,?_⟩) ?_
   .try dsimp only
    rw[J];refine AF ⟨⟨by omega,y⟩,tr l k,?_,?_⟩
    .rw[Int.toNat_natCast,Nat.mul_one];exact(v.front 2 rfl).own.cell J (Lq (j8 (by omega)))
    .rw[aL];refine AP (λg=>AF ⟨s2,HC.cell rfl,O5 (v.front 3 rfl) ⟨?_,rfl⟩⟩) λg=>⟨?_,rfl⟩
     .show(!tr ml k)=(U k&& !M k);rw[<-hI.m,g];rfl
     grind
   rintro⟨t,u⟩ _ aS ⟨ht,rfl⟩;dsimp only at ht⊢;subst ht;have a2:(Ek F k).length<=k:=by rw[L5];exact Oh _ _
   have hr:=(v).EA;rw[ints,List.length_map,Nat.mul_one]at hr;refine AP (λg=> ?_) λg=>⟨⟨k+1,l,rfl,by omega,aP,λj=> ?_,?_⟩,by omega⟩
   .have g1:U k=true/\M k=false:=by grind
    refine AQ (vs:=[.int .i64 (k:Int)]) v λaZ bC aH _=> ?_;refine GD (news:=[.int .i64 (k:Int)]) aH rfl rfl (by simp[Value.oneCell']) (by omega) (by omega) λpC bD T _=>AF ⟨s1,(T.front 1 rfl).cell rfl,?_⟩
    try dsimp only
    rw[J];refine AF ⟨⟨by omega,y⟩,?_⟩;rw[Int.toNat_natCast,Nat.mul_one];refine Il (T.front 2 rfl) (j:=k) rfl (by rw[BA,List.length_map];omega) J λbE Y=>⟨⟨k+1,l.set k false,rfl,by omega,by grind,λj=> ?_,?_⟩,by omega⟩
    .rw[sI (by omega),aE]
     grind
    .have e1:ints .i64 (Ek F k)++[.int .i64 (k:Int)]=ints .i64 (Ek F (k+1)):=by
      rw[VP (F:=F) (Nat.le_refl k) (λi a b=>by omega) g];simp[ints]
     have e2:(BA l).set k (.bool false)=BA (l.set k false):=by unfold BA;simp
     rw[e1,e2]at Y;exact(Y.front 1 rfl).perm (.cons _ (.swap _ _ _))
   .by_cases e:j=k
    .subst e
     grind
    grind
   .show Sat (Row E.Ep 1 r (ints .i64 (Ek F (k+1)))::_) aS;rw[LQ (F:=F) (m:=k) (n:=1) λi a b=>by grind];omega
  .obtain rfl:k=ul.length:=by omega
   refine AF (AV HC (o:=0) (m:=8) rfl (by simp[Gy]) λbF aI=>AF (AV aI (o:=0) (m:=9) rfl (by simp[Gy]) λO aJ=> ?_));have aK:Ek F S.AK.toNat=Ek F ul.length:=by
    obtain⟨n,hn⟩:=Nat.exists_eq_add_of_le (show ul.length<=S.AK.toNat by omega);rw[hn];exact LQ λi a b=>by show(U i&& !M i)=false;rw[hI.u,TA (by omega)];rfl
   refine hk aD aQ r O ?_;have aC:Sat (Row E.AY 1 ⟨none,0,0⟩ (BA [])::Cells q E.Dk (Gy S s1 ⟨none,0,0⟩ 0)::Row E.Ep 1 r (ints .i64 (Ek F ul.length))::Row E.AY 1 s1 (BA l)::Z) O:=by
    have h1:=((aJ.front 3 rfl).tail).nil E.AY 1;exact h1
   have h2:Sat (A4 E q S (λi=>U i&&M i) (λ_=>false)::Row E.Ep 1 r (ints .i64 (Ek F ul.length))::Z) O:=Sat.Hb.2 ⟨l,[],s1,⟨none,0,0⟩,0,⟨λj=> ?_,λj=>(TA (Nat.zero_le _)).symm,by omega,by omega,aB,⟨Int.le_refl _,s0⟩,λj hj=>by omega⟩,?_⟩
   .rw[aK];exact h2.perm (.swap _ _ _)
   .show(U j&&M j)=tr l j;rw[aE];by_cases h:j<ul.length
    .grind
    .rw[if_neg h,hI.u,TA (by omega)];rfl
   .-- Row s2', Cells, Row r, Row s1
    exact((aC.front 1 rfl).perm (.cons _ ((List.Perm.swap _ _ _).trans (.cons _ (.refl _))))).perm (.cons _ (by
     exact(List.perm_append_comm (l₁:=[Row E.Ep 1 r (ints .i64 (Ek F ul.length)),Row E.AY 1 ⟨none,0,0⟩ (BA [])]) (l₂:=[Row E.AY 1 s1 (BA l)])).append_right Z|>.trans (.cons _ (.swap _ _ _))))
def Rd(n:Nat):Je #[.bool false] n=⟨BA (List.replicate n false)⟩:=by
 rw[Xk];congr 1;apply List.ext_getElem?;intro i;by_cases hi:i<n
 .rw[Jp hi];simp[BA,hi]
 .rw[List.getElem?_eq_none (by rw[Cf];omega),List.getElem?_eq_none (by simp[BA];omega)]
instance manBadDec(AA elem:Int):Decidable (qU AA elem):=by unfold qU;exact inferInstance
def noU:Nat->Bool:=λ_=>false
def nG:(LP.all λc=>decide (0<=c.2.2.1)&&decide (c.2.2.1<=1024))=true:=by decide+kernel
def sK{c:Int}(h0:0<=c)(h1:c<68):0<=(AX c).2.2.1/\(AX c).2.2.1<=1024:=by
 have:=List.all_eq_true.1 nG _ (List.mem_of_getElem? (K4 h0 h1))
 grind
def Yc{page AA:Int}(h0:0<=page)(v:0<=AA){K:Bool->World->Prop}(j:K (decide (0<AA/\AA<=134217728/\page<=34359738368/\AA<=34359738368-page)) w):F.IW E page AA K w:=by
 unfold F.IW;refine AB (λg1=>AB (λg2=>AB (λg3=> ?_) λg3=> ?_) λg2=> ?_) λg1=> ?_
 .rw[AI (n:=34359738368-page)]
  grind
 .grind
 .grind
 grind
def TC{q:Nat}{S:SI}(hs:0<=S.AK/\S.AK<=137438953472)(H:Sat (Cells q E.Dk (Gy S ⟨none,0,0⟩ ⟨none,0,0⟩ 0)::Z) w){K:World->Prop}(hK: ∀w',Sat (A4 E q S noU noU::Z) w'->K w'):
  ∃v:Int,w.cell? ((Addr.mk q 0 none).add 6)=some (.int .i64 v)/\
    ((0:Int)<=v/\(v:Int)<=v/\(v:Int)<9223372036854775808/\((1:Nat):Int)*v<=140737488355328)/\
    AL (.cells (Je #[.bool false] (Int.toNat v*1)) E.AY) w λJ aA=>
    stCells ((Addr.mk q 0 none).add 7) 0 [.slice (some (Addr.mk J 0 none)) (Int.toNat v) (Int.toNat v)] aA λT=>
    ∃y:Int,T.cell? ((Addr.mk q 0 none).add 6)=some (.int .i64 y)/\
    ((0:Int)<=y/\(y:Int)<=y/\(y:Int)<9223372036854775808/\((1:Nat):Int)*y<=140737488355328)/\
    AL (.cells (Je #[.bool false] (Int.toNat y*1)) E.AY) T λO aB=>
    stCells ((Addr.mk q 0 none).add 8) 0 [.slice (some (Addr.mk O 0 none)) (Int.toNat y) (Int.toNat y)] aB K:=by
 have hb:(0:Int)<=S.AK/\S.AK<=S.AK/\S.AK<9223372036854775808/\((1:Nat):Int)*S.AK<=140737488355328:=⟨hs.1,Int.le_refl _,by omega,by omega⟩;have hn:(BA (List.replicate (Int.toNat S.AK) false)).length=Int.toNat S.AK*1:=by simp[BA]
 refine⟨S.AK,H.cell rfl,hb,?_⟩;rw[Nat.mul_one,Rd];refine IU (n:=Int.toNat S.AK) (z:=1) H hn (by omega) λJ aA aC=> ?_;refine AV (aC.front 1 rfl) (o:=0) (m:=7) rfl (by simp[Gy]) λT Y=>⟨S.AK,Y.cell rfl,hb,?_⟩;rw[Nat.mul_one,Rd];refine IU (n:=Int.toNat S.AK) (z:=1) Y hn (by omega) λO aB aD=> ?_;refine AV (aD.front 1 rfl) (o:=0) (m:=8) rfl (by simp[Gy]) λaF aE=> ?_;have tz: ∀i,noU i=tr (List.replicate (Int.toNat S.AK) false) i:=λi=>by
  have:=sJ (l:=[]) (j:=i) (n:=Int.toNat S.AK);rw[List.nil_append]at this;rw[this];rfl
 refine hK aF (Sat.Hb.2 ⟨List.replicate (Int.toNat S.AK) false,List.replicate (Int.toNat S.AK) false,⟨some ⟨J,0,none⟩,Int.toNat S.AK,Int.toNat S.AK⟩,⟨some ⟨O,0,none⟩,Int.toNat S.AK,Int.toNat S.AK⟩,0,⟨tz,tz,?_,?_,hs.2,⟨Int.le_refl _,hs.1⟩,λi hi=>by omega⟩,?_⟩)
 .grind
 .grind
 .exact aE.perm (.cons _ (.swap _ _ _))
def Vm(H:Sat Z w){page AA c:Int}{np:Bool}(h0:0<=page)(p0:0<=AA)(p1:AA<18446744073709551616){K:Option Addr->Int->World->Prop}
  (aA:Gl page AA c-> ∀w',Sat Z w'->K none 1 w')(aB: ¬Gl page AA c-> ∀b w',Sat (A4 E b (Gx page AA c np) noU noU::Z) w'->K (some ⟨b,0,none⟩) 0 w'):F.E8 E page AA c np K w:=by
 unfold F.E8 T0.E8;refine Aj (λst w'=>st.1= !decide ((0<AA/\AA<=134217728/\page<=34359738368/\AA<=34359738368-page)/\0<=c/\c<68)/\w'=w) (Yc h0 p0 ?_) ?_
 .refine Qn (AB (λg=>AB (λg2=>⟨?_,rfl⟩) λg2=>⟨?_,rfl⟩) λg=>⟨?_,rfl⟩)
  .grind
  .grind
  grind
 rintro⟨t,u⟩ _ w3 ⟨ht,rfl⟩;dsimp only at ht⊢;subst ht;refine Qn (AB (λg=> ?_) λg=> ?_)
 rotate_left
 .refine aA ?_ w3 H;unfold Gl;by_cases e:c<=0∨68<=c
  .omega
  .have hb:=Ia (c:=c) (by omega) (by omega);omega
 obtain⟨⟨g1,g2,g3,g4⟩,c0,c1⟩:=g;rw[AM (n:=AA),AM (n:=AA*8192)];refine AQ (vs:=[.int .u64 page,.int .u64 AA,.int .i64 1,.int .i64 c,.bool np,.int .i64 (AA*8192),.int .i64 1,.slice none 0 0,.slice none 0 0,.int .i64 0]) H λb6 w7 H7 _=> ?_;have aG:page*8192/8192=page:=Int.mul_ediv_cancel _ (by decide);by_cases hc:c=0
 .refine AU (AO (decide_eq_false (by omega)) λj=> ?_);refine TC (S:=Gx page AA c np) ?_ ?_ λw' H'=>aB (by unfold Gl;omega) b6 w' H'
  .show 0<=(if c=0 then(1:Int)else _)/\(if c=0 then(1:Int)else _)<=_;omega
  .show Sat (Cells b6 E.Dk [.int .u64 (page*8192/8192),.int .u64 AA,.int .i64 1,.int .i64 c,.bool np,.int .i64 (if c=0 then AA*8192 else(AX c).1),.int .i64 (if c=0 then 1 else(AX c).2.2.1),.slice none 0 0,.slice none 0 0,.int .i64 0]::Z) w7
   grind
 .refine AU (AS (decide_eq_true (by omega)) (O4 H7 λJ aH v=> ?_));have hl:=v.Gb (by decide) Ae;rw[IZ]at hl;obtain⟨x,hx⟩:=v.FY (by decide) Ae (i:=c.toNat) (by rw[IZ];omega);have O:=K4 c0 c1;have aM:=Ia c0 c1;have aO:=sK c0 c1;have y:(0:Int)<=c/\c<(J.len:Nat):=⟨c0,by omega⟩;have ct: ∀{w'} {Y:List Pr},Sat (Row E.At 4 J (Ao Ig LP)::Y) w'->w'.cell? ((Addr.mk x 0 none).add (Int.toNat c*4))=some (.int .i64 (AX c).1)/\w'.cell? (((Addr.mk x 0 none).add (Int.toNat c*4)).add 1)=some (.int .i64 (AX c).2.1)/\
    w'.cell? (((Addr.mk x 0 none).add (Int.toNat c*4)).add 2)=some (.int .i64 (AX c).2.2.1):=λh=>by
   refine⟨?_,?_,?_⟩
   .have:=h.Bp Ae hx O (j:=0) rfl;omega
   .rw[add_add];exact h.Bp Ae hx O (j:=1) rfl
   .rw[add_add];exact h.Bp Ae hx O (j:=2) rfl
  rw[hx];refine AF ⟨y,_,(ct v).2.1,?_⟩;rw[AI (n:=(AX c).2.1)];refine Ca (λe=>aA (by unfold Gl;omega) aH v.tail.tail) λe=>AF ⟨y,_,(ct v).1,?_⟩;refine AV (v.front 1 rfl) (o:=0) (m:=5) rfl (by simp) λaQ T=>AF ⟨y,_,(ct (T.front 1 rfl)).2.2,?_⟩;refine AV T (o:=0) (m:=6) rfl (by simp) λaI aK j=> ?_;refine TC (S:=Gx page AA c np) (Z:=Row E.At 4 J (Ao Ig LP)::Z) ?_ ?_ λw' H'=>aB (by unfold Gl;omega) b6 w' (H'.perm (.swap _ _ _)).tail
  .show 0<=(if c=0 then(1:Int)else(AX c).2.2.1)/\(if c=0 then(1:Int)else(AX c).2.2.1)<=_;omega
  .show Sat (Cells b6 E.Dk [.int .u64 (page*8192/8192),.int .u64 AA,.int .i64 1,.int .i64 c,.bool np,.int .i64 (if c=0 then AA*8192 else(AX c).1),.int .i64 (if c=0 then 1 else(AX c).2.2.1),.slice none 0 0,.slice none 0 0,.int .i64 0]::Row E.At 4 J (Ao Ig LP)::Z) aI
   grind
end
def T4(k:IntKind)(l:List Int): ∀v∈ints k l,v.oneCell'=true:=by intro v j;simp[ints]at j;obtain⟨x,_,rfl⟩:=j;rfl
def sL(l:List Bool): ∀v∈BA l,v.oneCell'=true:=by intro v j;simp[BA]at j;rcases j with ⟨_,rfl⟩|⟨_,rfl⟩<;>rfl
section
variable{E:Env}(hE:EnvS E){w:World}
include hE
end
section
variable{E:Env}(hE:EnvS E){w:World}
include hE
end
section
variable{E:Env}(hE:EnvS E){w:World}{Rs:List Pr}{b:Nat}{V:VS}
include hE
end
section
variable{E:Env}(hE:EnvS E){w:World}
include hE
end
section
variable{E:Env}(hE:EnvS E){w:World}
include hE
end
def ZA(V:VS)(p:Int):Int:=if N8 V.laid p then if N8 V.ready p then 2 else if N8 V.rel p then 3 else 1 else 0
def PX{V:VS}(h:WH V)(p:Int):(ZA V p=0/\ ¬mem V.laid p/\ ¬mem V.ready p/\ ¬mem V.rel p)∨(ZA V p=1/\mem V.laid p/\ ¬mem V.ready p/\ ¬mem V.rel p)∨(ZA V p=2/\mem V.laid p/\mem V.ready p/\ ¬mem V.rel p)∨(ZA V p=3/\mem V.laid p/\ ¬mem V.ready p/\mem V.rel p):=by
 unfold ZA;by_cases h1:mem V.laid p
 .rw[if_pos (Bh.2 h1)];by_cases h2:mem V.ready p
  .rw[if_pos (Bh.2 h2)];exact .inr (.inr (.inl ⟨rfl,h1,h2,h.re p h2⟩))
  .rw[if_neg (λe=>h2 (Bh.1 e))];by_cases h3:mem V.rel p
   .rw[if_pos (Bh.2 h3)];grind
   .rw[if_neg (λe=>h3 (Bh.1 e))];grind
 .rw[if_neg (λe=>h1 (Bh.1 e))];exact .inl ⟨rfl,h1,λe=>h1 (h.rl p e),λe=>h1 (h.el p e)⟩
section
variable{E:Env}(hE:EnvS E){w:World}
include hE
end
abbrev tP:=List (Int×Int×Int)
abbrev wZ:=List (Int×Int)
def nX(e:Int×Int×Int):List Value:=[.int .u64 e.1,.int .i64 e.2.1,.int .u64 e.2.2]
def wd2(e:Int×Int):List Value:=[.int .u64 e.1,.int .u64 e.2]
def kP(e:Int×Int×Int):Int:=e.1
def kW(e:Int×Int):Int:=e.1
def Jc(e:Int×Int×Int):(nX e).length=3:=rfl
def T5(e:Int×Int×Int): ∀v∈nX e,v.oneCell'=true:=by intro v j;simp[nX]at j;rcases j with rfl|rfl|rfl<;>rfl
structure MG where
 s0:Ac
 s1:Ac
 s2:Ac
 s3:Ac
 s4:Ac
def SY(g:MG):List Value:=[GJ g.s0,GJ g.s1,GJ g.s2,GJ g.s3,GJ g.s4]
def Hn(E:Env)(c:Nat)(V:VS)(g:MG)(P:tP)(W:wZ):List Pr:=
 [Cells c E.Ay (SY g),K3 g.s0 (ints .u64 V.pl),K3 g.s1 (BA V.rf),K3 g.s2 (ints .u64 V.fl),Row E.As 3 g.s3 (Ao nX P),Row E.IV 2 g.s4 (Ao wd2 W)]
structure KE(V:VS)(P:tP)(W:wZ):Prop where
 ok:WH V
 IJ:JH kP P
 srw:JH kW W
 hp: ∀p,mem V.laid p↔ ∃e∈P,kP e=p
 hs: ∀e∈P,e.2.1=ZA V e.1
 hw: ∀e∈W,e.1 %8=0/\mem V.ready (e.1/8192)/\V.wd (e.1/8192) (e.1 %8192/8)=e.2
 hf: ∀e∈P,mem V.ready e.1-> ∀i,0<=i->i<1024->(∀x∈W,x.1≠e.1*8192+i*8)->V.wd e.1 i=e.2.2
 jE: ∀x∈V.pl,0<=x/\x<18446744073709551616
def Gz(E:Env)(c:Nat)(V:VS):Pr:=Ex λx:MG×tP×wZ=>Kk (KE V x.2.1 x.2.2) (NR (Hn E c V x.1 x.2.1 x.2.2))
section
variable{E:Env}{c:Nat}{V:VS}{Z:List Pr}{w:World}{g:MG}{P:tP}{W:wZ}
def Sat.Vn:Sat (Gz E c V::Z) w↔ ∃g P W,KE V P W/\Sat (Hn E c V g P W++Z) w:=by
 unfold Gz;rw[Sat.ex];constructor
 .rintro⟨⟨g,P,W⟩,h⟩;rw[Sat.where,Sat.star]at h
  grind
 .rintro⟨g,P,W,h1,h2⟩;refine⟨⟨g,P,W⟩,?_⟩;rw[Sat.where,Sat.star]
  grind
def KE.stm(h:KE V P W){e:Int×Int×Int}(he:e∈P):mem V.laid e.1:=(h.hp _).2 ⟨e,he,rfl⟩
def KE.Yz(h:KE V P W){e:Int×Int×Int}(he:e∈P):512<=e.1/\e.1<34359738368:=h.ok.Kl _ (h.stm he)
def KE.fewP(h:KE V P W):P.length<=34359738368:=by
 have:=h.IJ.JI (a:=0) (b:=34359738368) (by decide) λe he=>by have:=h.Yz he;unfold kP;omega
 omega
def Vo(H:Sat (Hn E c V g P W++Z) w):P.length=g.s3.len/\g.s3.len<=g.s3.cap/\g.s3.cap<9223372036854775808:=(H.front 4 rfl).Gb (by decide) Jc
def XM(H:Sat (Hn E c V g P W++Z) w){i:Nat}{e:Int×Int×Int}(y:P[i]? =some e): ∃b,g.s3.base=some ⟨b,0,none⟩/\
  w.cell? ((Addr.mk b 0 none).add (i*3))=some (.int .u64 e.1)/\w.cell? (((Addr.mk b 0 none).add (i*3)).add 0)=some (.int .u64 e.1)/\w.cell? (((Addr.mk b 0 none).add (i*3)).add 1)=some (.int .i64 e.2.1)/\w.cell? (((Addr.mk b 0 none).add (i*3)).add 2)=some (.int .u64 e.2.2):=by
 have h:=H.front 4 rfl;obtain⟨b,v⟩:=h.FY (by decide) Jc (List.getElem?_eq_some_iff.1 y).1;refine⟨b,v,?_,?_,?_,?_⟩
 .exact h.Bp Jc v y (j:=0) rfl
 .rw[add_add];exact h.Bp Jc v y (j:=0) rfl
 .rw[add_add];exact h.Bp Jc v y (j:=1) rfl
 .rw[add_add];exact h.Bp Jc v y (j:=2) rfl
def Pu(H:Sat (Hn E c V g P W++Z) w){K:Bool->World->Prop}(h0:V.rf=[]->K false w)
  (h1: ∀x r,V.rf=x::r-> ∀s w',Sat (Hn E c {V with rf:=r} {g with s1:=s} P W++Z) w'->K x w'):F.Eu E (some ⟨c,0,none⟩) K w:=by
 unfold F.Eu;have Y:=(H.front 2 rfl).NV;have y:=H.cell (o:=0) (m:=1) rfl;simp only[AH];refine⟨g.s1,y,BI (λe=>h0 ?_) λe=> ?_⟩
 .have:(BA V.rf).length=0:=by omega
  simpa[BA]using this
 .cases hr:V.rf with
  | nil=>have:=Y.1;rw[hr]at this;simp[BA]at this;omega
  | cons x r=>
   obtain⟨a,T,hd⟩:=(H.front 2 rfl).Oe (j:=0) (v:=.bool x) (by rw[hr];rfl);refine⟨g.s1,y,?_⟩;rw[T];simp only[AH];refine⟨⟨by decide,by omega⟩,x,hd,g.s1,y,⟨by decide,by omega⟩,?_⟩;have J:=Sat.back 2 ((H.front 2 rfl).Of (n:=1) (by omega)) (by simp[Hn]);rw[hr]at J;exact AV J (o:=0) (m:=1) rfl (by simp[SY]) λw' O=>h1 x r hr ⟨HU g.s1.base g.s1.cap (Int.toNat 1) 1,g.s1.len-Int.toNat 1,g.s1.cap-Int.toNat 1⟩ w' O
def TE{page AA:Int}(h0:0<=page)(v:0<=AA){K:Bool->World->Prop}(j: ∀b,(b=true↔Jl page AA)->K b w):F.GS E page AA K w:=by
 unfold F.GS Jl at *
 refine AB (λh1=>AB (λh2=> ?_) λh2=> ?_) λh1=> ?_
 .rw[AI (n:=34359738368-page)];exact j _ (by grind)
 .exact j _ (by simp;omega)
 .exact j _ (by simp;omega)
def Nv(hI:KE V P W)(H:Sat (Hn E c V g P W++Z) w){n:Int}{K:Int->Bool->World->Prop}
  (y: ∀b,(b=true↔ ∃e,P[pos kP P n]? =some e/\e.1=n)-> ∀w',Sat (Hn E c V g P W++Z) w'->K (pos kP P n:Nat) b w'):F.DP E (some ⟨c,0,none⟩) n K w:=by
 unfold F.DP;have j:=H.drew;have Y:=Vo H;have hf:=hI.fewP;simp only[AH];refine⟨g.s3,j.cell rfl,?_⟩;refine bsearch (key:=kP) (by decide) Jc (λ_=>rfl) hI.IJ (j.front 4 rfl) (j.cell rfl) (by omega) n λst v=> ?_;have j:=j.drew;have hp:=Nf (key:=kP) P n;rw[v];refine⟨g.s3,j.cell rfl,AB (λT=> ?_) λO=>y _ ⟨λh=>by(cases h),λ⟨e,he,_⟩=>by grind⟩ _ j⟩;obtain⟨e,he⟩: ∃e,P[pos kP P n]? =some e:=⟨_,List.getElem?_eq_getElem (by omega)⟩;obtain⟨b,J,h0,_⟩:=XM j he;refine⟨g.s3,j.cell rfl,?_⟩;rw[J];refine⟨⟨by omega,by omega⟩,e.1,h0,y _ ?_ _ j⟩
 grind
def nH(hI:KE V P W){n:Int}:(∃e,P[pos kP P n]? =some e/\e.1=n)↔mem V.laid n:=by
 rw[hI.hp];exact⟨λ⟨e,he,h⟩=>⟨e,List.mem_of_getElem? he,h⟩,λ⟨e,he,h⟩=>⟨e,Ng hI.IJ he h,h⟩⟩
def TF(hI:KE V P W)(H:Sat (Hn E c V g P W++Z) w){page AA:Int}(h0:0<=page)(p0:0<=AA)(h1:page+AA<18446744073709551616){K:Int->Bool->World->Prop}
  (O:(∀m,page<=m->m<page+AA-> ¬mem V.laid m)-> ∀w',Sat (Hn E c V g P W++Z) w'->K 0 true w')
  (Y: ∀m,mem V.laid m->page<=m->m<page+AA->m<34359738368-> ∀w',Sat (Hn E c V g P W++Z) w'->K (m+1) false w'):
  F.BH E (some ⟨c,0,none⟩) page AA K w:=by
 unfold F.BH T0.BH;refine Nv hI H λb _ w3 v=> ?_;have hl:=Vo v;have hp:=Nf (key:=kP) P page;simp only[AH];rw[AI (n:=page+AA) (by omega) h1];refine AU ⟨g.s3,v.cell rfl,AB (λaD=> ?_) λaC j=>AO rfl (O (λm h1 h2 T=> ?_) _ v)⟩
 .obtain⟨e,he⟩: ∃e,P[pos kP P page]? =some e:=⟨_,List.getElem?_eq_getElem (by omega)⟩;obtain⟨b,hb,aB,_⟩:=XM v he;have J:=pos_at he;have hr:=hI.Yz (List.mem_of_getElem? he);unfold kP at J;refine⟨g.s3,v.cell rfl,?_⟩;rw[hb];refine⟨⟨by omega,by omega⟩,e.1,by grind,λj=>AB (λg1=> ?_) λg1=>O (λm h1 h2 T=> ?_) _ v⟩
  .refine⟨g.s3,v.cell rfl,?_⟩;rw[hb];refine⟨⟨by omega,by omega⟩,e.1,by grind,?_⟩;rw[AI (n:=e.1+1)];exact Y e.1 (hI.stm (List.mem_of_getElem? he)) J g1 hr.2 _ v
  .obtain⟨d,hd,hk⟩:=(hI.hp m).1 T;obtain⟨j,y⟩:=List.mem_iff_getElem?.1 hd;rcases Nat.lt_or_ge j (pos kP P page)with q|q
   .have:=Hj (key:=kP) y q;omega
   .rcases Nat.lt_or_eq_of_le q with q|q
    .have:=hI.IJ.lt he y q;unfold kP at this hk;omega
    .subst q;rw[he]at y;cases y;unfold kP at hk;omega
 .obtain⟨d,hd,hk⟩:=(hI.hp m).1 T;obtain⟨j,y⟩:=List.mem_iff_getElem?.1 hd;have:=(List.getElem?_eq_some_iff.1 y).1;have:=Hj (key:=kP) y (n:=page) (by omega);omega
def least(p:Nat->Prop): ∀n,p n-> ∃n,p n/\ ∀m,m<n-> ¬p m:=by
 intro n
 induction n using Nat.strongRecOn with
 | ind n ih=>grind
def nI{l:Iv}(T: ∀p,mem l p->p<34359738368)(j AA:Int)(hf:j<=34359738368): ∃a,Mk l j AA a:=by
 have hex: ∃n:Nat,(512*(n:Int)) %512=0/\512<=512*(n:Int)/\j<=512*(n:Int)/\ ∀m,512*(n:Int)<=m->m<512*(n:Int)+AA-> ¬mem l m:=
  ⟨67108864,by decide,by decide,by omega,λm h1 _ J=>by grind⟩
 obtain⟨K,y⟩:=hex;obtain⟨n,hs,v⟩:=least (λn:Nat=>(512*(n:Int)) %512=0/\512<=512*(n:Int)/\j<=512*(n:Int)/\ ∀m,512*(n:Int)<=m->m<512*(n:Int)+AA-> ¬mem l m) K y;refine⟨512*(n:Int),hs.1,hs.2.1,hs.2.2.1,hs.2.2.2,λa O h1 h2 J=> ?_⟩;have:=v (a/512).toNat (by omega)
 grind
def TG(hI:KE V P W)(H:Sat (Hn E c V g P W++Z) w){y AA:Int}(h0:0<=y)(h1:y<18446744073709551616)(p0:0<AA)(p1:AA<=134217728){K:Int->Bool->World->Prop}
  (aG:Lc V.laid y AA-> ∀w',Sat (Hn E c V g P W++Z) w'->K 0 false w')
  (aQ: ∀at_,X3 V.laid y AA at_-> ∀w',Sat (Hn E c V g P W++Z) w'->K at_ true w'):
  F.Bw E (some ⟨c,0,none⟩) y AA K w:=by
 unfold F.Bw T0.Bw;have main: ∀page:Int,0<page->page<18446744073709551616->y<=page->(∀a,a %512=0->512<=a->y<=a->a<page-> ∃m,a<=m/\m<a+AA/\mem V.laid m)->
   A9 (Int×Unit) (page,()) w λs4 _ w5 aH=>
   CND (decide ((s4.1:Int)≥34359738368)) (
    K 0 false w5
   ) (
    An (Int×Unit) (λJ7=>
     512≠(0:Int)/\
     CND (((Int.tmod s4.1 512):Int) !=0) (
      512≠(0:Int)/\
      Kj (u64 ((u64 (s4.1+512))-(Int.tmod s4.1 512)):Int) λaC=>
      J7 (aC,()) w5
     ) (
      J7 (s4.1,()) w5
     )
    ) λs8 _ w9=>
     An (Bool×Unit) (λaA=>
      CND (decide ((s8.1:Int)≥34359738368)) (
       aA (true,()) w9
      ) (
       aA (decide ((AA:Int)>(u64 (34359738368-s8.1))),()) w9
      )
     ) λLH _ aD=>
      CND (LH.1) (
       K 0 false aD
      ) (
       F.BH E (some ⟨c,0,none⟩) s8.1 AA (λO aI aE=>
       CND (aI) (
        K s8.1 true aE
       ) (
        aH (O,()) aE
       )
       ) aD
      )
   ):=by
  intro page T aF Y J;refine AJ (λst w'=>0<st.1/\st.1<18446744073709551616/\y<=st.1/\(∀a,a %512=0->512<=a->y<=a->a<st.1-> ∃m,a<=m/\m<a+AA/\mem V.laid m)/\Sat (Hn E c V g P W++Z) w') (λst _=>(34359738368+1-st.1).toNat) ⟨T,aF,Y,J,H⟩ ?_;clear T aF Y J H page;rintro⟨page,v⟩ _ w5 ⟨T,aF,Y,J,H⟩;dsimp only at T aF Y J⊢;have aL: ∀p,mem V.laid p->p<34359738368:=λp hp=>(hI.ok.Kl p hp).2;have none: ∀page:Int,y<=page->(∀a,a %512=0->512<=a->y<=a->a<page-> ∃m,a<=m/\m<a+AA/\mem V.laid m)->34359738368<page+AA->Lc V.laid y AA:=λpage Y J aX=>by
   rcases Int.lt_or_le 34359738368 y with g|g
   .exact .inl g
   .obtain⟨a,ha⟩:=nI aL y AA g;refine .inr ⟨a,ha,λh=> ?_⟩;rcases Int.lt_or_le a page with q|q
    .obtain⟨m,m1,m2,m3⟩:=J a ha.mul ha.low ha.fr q;exact ha.free m m1 m2 m3
    .omega
  refine AB (λaW=>aG (none page Y J (by omega)) _ H) λaS=> ?_;have cont: ∀q:Int,page<=q->q<page+512->q %512=0-> ∀j:Nat->Value,
    An (Bool×Unit) (λaA=>
      CND (decide ((q:Int)≥34359738368)) (
       aA (true,()) w5
      ) (
       aA (decide ((AA:Int)>(u64 (34359738368-q))),()) w5
      )
     ) λLH _ aD=>
      CND (LH.1) (
       K 0 false aD
      ) (
       F.BH E (some ⟨c,0,Option.none⟩) q AA (λO aI aE=>
       CND (aI) (
        K q true aE
       ) (
        ((0<O/\O<18446744073709551616/\y<=O/\(∀a,a %512=0->512<=a->y<=a->a<O-> ∃m,a<=m/\m<a+AA/\mem V.laid m)/\Sat (Hn E c V g P W++Z) aE)/\(34359738368+1-O).toNat<(34359738368+1-page).toNat)
       )
       ) aD
      ):=by
   intro q q0 q1 q8 j;have aB: ∀a,a %512=0->512<=a->y<=a->a<q-> ∃m,a<=m/\m<a+AA/\mem V.laid m:=λa a1 a2 a3 a4=>J a a1 a2 a3 (by omega);refine AU (AB (λg1 j=>AS rfl (aG (none q (by omega) aB (by omega)) _ H)) λg1=> ?_);rw[AI (n:=34359738368-q)];refine λj=>AB (λg2=>aG (none q (by omega) aB (by omega)) _ H) λg2=> ?_;refine TF hI H (by omega) (by omega) (by omega) (λaP w' H'=>AS rfl (aQ q ⟨by omega,⟨q8,by omega,by omega,aP,aB⟩,by omega⟩ _ H')) λm m0 m1 m2 m3 w' H'=>AO rfl ⟨⟨by omega,by omega,by omega,λa a1 a2 a3 a4=> ?_,H'⟩,by omega⟩
   grind
  rw[Int.tmod_eq_emod_of_nonneg (by omega)];refine AU ⟨by decide,Ca (λhm=>⟨by decide,Am λq hq=> ?_⟩) λhm=>cont page (Int.le_refl _) (by omega) hm⟩;rw[AI (n:=page+512),AI]at hq;exact cont q (by omega) (by omega) (by omega)
 refine AU (BI (λe j=>main 512 (by decide) (by decide) (by omega) λa _ a2 _ a4=>by omega) λe j=>main y (by omega) h1 (Int.le_refl _) λa _ _ a3 a4=>by omega)
def cD(H:Sat (Gz E c V::Z) w){n:Int}{K:Int->World->Prop}(y: ∀w',Sat (Gz E c V::Z) w'->K (ZA V n) w'):F.C8 E (some ⟨c,0,none⟩) n K w:=by
 obtain⟨g,P,W,hI,H⟩:=Sat.Vn.1 H;unfold F.C8 T0.C8;refine Nv hI H λb v O j=> ?_;have fin:=y O (Sat.Vn.2 ⟨g,P,W,hI,j⟩);have T:=Vo j;cases b
 .refine AS rfl ?_;have: ¬mem V.laid n:=λh=>by have:=v.2 ((nH hI).2 h);cases this
  have e:ZA V n=0:=by unfold ZA;rw[if_neg λh=>this (Bh.1 h)]
  grind
 .refine AO rfl ?_;obtain⟨e,he,hk⟩:=v.1 rfl;obtain⟨b,v,_,_,h1,_⟩:=XM j he;have J:=(List.getElem?_eq_some_iff.1 he).1;simp only[AH];refine⟨g.s3,j.cell rfl,?_⟩;rw[v];refine⟨⟨by omega,by omega⟩,e.2.1,by grind,?_⟩;rw[hI.hs e (List.mem_of_getElem? he),hk];exact fin
end
section
variable{V V':VS}{P:tP}{W W':wZ}{p:Int}
def sM(h:WH V)(h2:mem V.ready p):ZA V p=2:=by
 rcases PX h p with ⟨_,_,g,_⟩|⟨_,_,g,_⟩|⟨g,_⟩|⟨_,_,g,_⟩
 .grind
 .grind
 .exact g
 grind
def stV_1(h:WH V)(h1:mem V.laid p)(h2: ¬mem V.ready p)(j: ¬mem V.rel p):ZA V p=1:=by
 rcases PX h p with ⟨_,g,_⟩|⟨g,_⟩|⟨_,_,g,_⟩|⟨_,_,_,g⟩
 .grind
 .exact g
 .grind
 grind
def SZ(h1:mem V'.laid p↔mem V.laid p)(h2:mem V'.ready p↔mem V.ready p)(j:mem V'.rel p↔mem V.rel p):ZA V' p=ZA V p:=by
 have v:N8 V'.laid p=N8 V.laid p:=Bool.eq_iff_iff.2 (by rw[Bh,Bh];exact h1);have y:N8 V'.ready p=N8 V.ready p:=Bool.eq_iff_iff.2 (by rw[Bh,Bh];exact h2);have J:N8 V'.rel p=N8 V.rel p:=Bool.eq_iff_iff.2 (by rw[Bh,Bh];exact j);unfold ZA;grind
def KE.st(hI:KE V P W){e:Int×Int×Int}(he:e∈P):(e.2.1=1/\ ¬mem V.ready e.1/\ ¬mem V.rel e.1)∨(e.2.1=2/\mem V.ready e.1/\ ¬mem V.rel e.1)∨(e.2.1=3/\ ¬mem V.ready e.1/\mem V.rel e.1):=by
 have h:=hI.hs e he;have hm:=hI.stm he;rcases PX hI.ok e.1 with ⟨_,g,_⟩|⟨g1,_,g2,g3⟩|⟨g1,_,g2,g3⟩|⟨g1,_,g2,g3⟩
 .grind
 .grind
 .grind
 grind
def KE.is2(hI:KE V P W){e:Int×Int×Int}(he:e∈P):e.2.1=2↔mem V.ready e.1:=by
 rcases hI.st he with ⟨g,h,_⟩|⟨g,h,_⟩|⟨g,h,_⟩
 .grind
 .grind
 grind
def KE.is3(hI:KE V P W){e:Int×Int×Int}(he:e∈P):e.2.1=3↔mem V.rel e.1:=by
 rcases hI.st he with ⟨g,_,h⟩|⟨g,_,h⟩|⟨g,_,h⟩
 .grind
 .grind
 grind
def xA{F:Int×Int×Int->Int×Int×Int}(j: ∀e,kP (F e)=kP e)(hs:JH kP P):JH kP (P.map F):=by
 unfold JH;rw[List.pairwise_map];exact List.Pairwise.imp (λh=>by grind) hs
def map_set{F v:Int×Int×Int->Int×Int×Int}(hs:JH kP P){j:Nat}{e:Int×Int×Int}(y:P[j]? =some e)(h: ∀d∈P,d.1≠e.1->v d=F d):(P.map F).set j (v e)=P.map v:=by
 apply List.ext_getElem?;intro i;rw[List.getElem?_set,List.getElem?_map,List.getElem?_map,List.length_map];by_cases J:j=i
 .grind
 .rw[if_neg J];cases hd:P[i]? with
  | none=>rfl
  | some d=>
   have:d.1≠e.1:=by
    rcases Nat.lt_or_gt_of_ne J with q|q
    .have:=hs.lt y hd q;unfold kP at this;omega
    .have:=hs.lt hd y q;unfold kP at this;omega
   grind
def KE.full(hI:KE V P W){a:Int}{n:Nat}(hf: ∀m,a<=m->m<a+n->mem V.laid m){k:Nat}(hk:k<n): ∃e,P[pos kP P a+k]? =some e/\e.1=a+k:=by
 obtain⟨e,he,j⟩:=(hI.hp (a+k)).1 (hf _ (by omega) (by omega));have h1:=Ng hI.IJ he j;have h2:=X5 hI.IJ hI.ok.ME hI.hp a k;rw[(FI hI.ok.ME (by omega)).2 λm m1 v=>hf m m1 (by omega)]at h2;rw[show pos kP P (a+(k:Int))=pos kP P a+k by omega]at h1;exact⟨e,h1,j⟩
def KE.Yd(hI:KE V P W)(Au:WH V'){a:Int}{n:Nat}(Y:V'.ready=V.ready)(hl:V'.rel=V.rel)(K:V'.wd=V.wd)(T: ∀x∈V'.pl,x∈V.pl)
  (hm: ∀p,mem V'.laid p↔mem V.laid p∨(a<=p/\p<a+n))(y: ∀p,a<=p->p<a+n-> ¬mem V.laid p):
  KE V' (P.take (pos kP P a)++((List.range n).map λi:Nat=>(a+(i:Int),(1:Int),(0:Int)))++P.drop (pos kP P a)) W:=by
 have v: ∀e,e∈P.take (pos kP P a)++((List.range n).map λi:Nat=>(a+(i:Int),(1:Int),(0:Int)))++P.drop (pos kP P a)↔e∈P∨ ∃i:Nat,i<n/\e=(a+(i:Int),1,0):=λe=>by
  rw[List.mem_append,List.mem_append,List.mem_map];constructor
  .grind
  .rintro(h|⟨i,h,rfl⟩)
   .rcases Int.lt_or_le (kP e) a with g|g
    .exact .inl (.inl (mG hI.IJ h g))
    .exact .inr (mH h g)
   grind
 have aA: ∀p,a<=p->p<a+n-> ¬mem V.ready p/\ ¬mem V.rel p:=λp h1 h2=>⟨λh=>y p h1 h2 (hI.ok.rl p h),λh=>y p h1 h2 (hI.ok.el p h)⟩;refine⟨Au,?_,hI.srw,λp=> ?_,λe he=> ?_,λe he=> ?_,λe he J i h0 h1 hx=> ?_,λx hx=>hI.jE x (T x hx)⟩
 .refine JH.tO (hI.IJ.take _) ?_ (hI.IJ.drop _) (a:=a) (b:=a+n) (by omega) (λe he=>(Lk he).2) (λe he=> ?_) λe he=> ?_
  .unfold JH;rw[List.pairwise_map];exact List.Pairwise.imp (λh=>by unfold kP;omega) List.pairwise_lt_range
  .obtain⟨i,O,rfl⟩:=List.mem_map.1 he;have:=List.mem_range.1 O;unfold kP;omega
  .have h1:=Ll hI.IJ he;rcases Int.lt_or_le (kP e) (a+n)with g|g
   .exact absurd (hI.stm h1.1) (y _ h1.2 g)
   .exact g
 .rw[hm,hI.hp];constructor
  .rintro(⟨e,he,hk⟩|⟨h1,h2⟩)
   .grind
   .refine⟨(p,1,0),(v _).2 (.inr ⟨(p-a).toNat,by omega,?_⟩),rfl⟩
    grind
  .rintro⟨e,he,hk⟩;rcases(v e).1 he with h|⟨i,O,rfl⟩
   .grind
   .unfold kP at hk;omega
 .rcases(v e).1 he with h|⟨i,O,rfl⟩
  .rw[hI.hs e h];refine(SZ ⟨λg=> ?_,λg=>(hm _).2 (.inl g)⟩ (by rw[Y]) (by rw[hl])).symm;exact hI.stm h
  .have:=aA (a+(i:Int)) (by omega) (by omega);exact(stV_1 Au ((hm _).2 (.inr ⟨by dsimp only;omega,by omega⟩)) (by grind) (by grind)).symm
 .rw[Y,K];exact hI.hw e he
 .rw[Y]at J;rcases(v e).1 he with h|⟨j,hj,rfl⟩
  .rw[K];exact hI.hf e h J i h0 h1 hx
  grind
def cF(V:VS)(page x:Int)(e:Int×Int×Int):Int×Int×Int:=if page<=e.1/\e.1<x/\e.2.1≠2 then(e.1,2,if e.2.1=3 then IN V page e.1 else 0)else e
def Vp(V:VS)(page x:Int)(e:Int×Int×Int):kP (cF V page x e)=kP e:=by unfold cF;split<;>rfl
def KE.QK(hI:KE V P W){page AA:Int}(Au:WH V')(h1:V'.laid=V.laid)(h2: ∀p,mem V'.ready p↔mem V.ready p∨(page<=p/\p<page+AA))(Y: ∀p,mem V'.rel p↔mem V.rel p/\ ¬(page<=p/\p<page+AA))
  (O: ∀p i,V'.wd p i=if page<=p/\p<page+AA/\N8 V.rel p=true then IN V page p else V.wd p i)(T: ∀x∈V'.pl,x∈V.pl):KE V' (P.map (cF V page (page+AA))) W:=by
 refine⟨Au,xA (Vp V page _) hI.IJ,hI.srw,λp=> ?_,λe' j=> ?_,λx J=> ?_,λe' j y i i0 i1 J=> ?_,λx J=>hI.jE x (T x J)⟩
 .rw[h1,hI.hp];constructor
  .rintro⟨e,he,hk⟩;exact⟨_,List.mem_map_of_mem he,(Vp V page _ e).trans hk⟩
  .rintro⟨e',j,hk⟩;obtain⟨e,he,rfl⟩:=List.mem_map.1 j;exact⟨e,he,(Vp V page _ e).symm.trans hk⟩
 .obtain⟨e,he,rfl⟩:=List.mem_map.1 j;have hk:(cF V page (page+AA) e).1=e.1:=Vp V page _ e;rw[hk];unfold cF;by_cases c:page<=e.1/\e.1<page+AA/\e.2.1≠2
  .rw[if_pos c];exact(sM Au ((h2 _).2 (.inr ⟨c.1,c.2.1⟩))).symm
  .rw[if_neg c];by_cases c2:mem V.ready e.1
   .rw[(hI.is2 he).2 c2];exact(sM Au ((h2 _).2 (.inl c2))).symm
   .have c3: ¬(page<=e.1/\e.1<page+AA):=λg=>c ⟨g.1,g.2,λk=>c2 ((hI.is2 he).1 k)⟩;rw[hI.hs e he];refine(SZ (by rw[h1]) ?_ ?_).symm
    .grind
    grind
 .obtain⟨g1,g2,g3⟩:=hI.hw x J;refine⟨g1,(h2 _).2 (.inl g2),?_⟩;rw[O,if_neg λg=>hI.ok.re _ g2 (Bh.1 g.2.2)];exact g3
 .obtain⟨e,he,rfl⟩:=List.mem_map.1 j;have hk:(cF V page (page+AA) e).1=e.1:=Vp V page _ e;rw[hk]at y J⊢;rw[O];rcases hI.st he with ⟨s,K,r2⟩|⟨s,K,r2⟩|⟨s,K,r2⟩
  .have v:=((h2 _).1 y).resolve_left K;rw[if_neg λg=>r2 (Bh.1 g.2.2)];unfold cF;rw[if_pos ⟨v.1,v.2,by omega⟩];dsimp only;rw[if_neg (by omega)];exact hI.ok.clean _ _ i0 i1 K
  .rw[if_neg λg=>r2 (Bh.1 g.2.2)];unfold cF;rw[if_neg λg=>g.2.2 s];exact hI.hf e he K i i0 i1 J
  .have v:=((h2 _).1 y).resolve_left K;rw[if_pos ⟨v.1,v.2,Bh.2 r2⟩];unfold cF
   grind
def WH.congr(h:WH V)(h1:V'.laid=V.laid)(h2:V'.ready=V.ready)(j:V'.rel=V.rel)(hw: ∀p i,0<=i->i<1024-> ¬mem V.ready p->V'.wd p i=0):WH V':=
 ⟨by rw[h1];exact h.ME,by rw[h2];exact h.Pm,by rw[j];exact h.V3,by rw[h1,h2];exact h.rl,by rw[h1,j];exact h.el,by rw[h2,j];exact h.re,by rw[h1];exact h.Kl,by grind,by rw[h1,h2,j];exact h.sums⟩
def KE.congr(hI:KE V P W)(h1:V'.laid=V.laid)(h2:V'.ready=V.ready)(O:V'.rel=V.rel)(J: ∀x∈V'.pl,x∈V.pl)(v: ∀p i,0<=i->i<1024->V'.wd p i=V.wd p i):KE V' P W:=by
 refine⟨hI.ok.congr h1 h2 O λp i i0 i1 h=>by rw[v p i i0 i1];exact hI.ok.clean p i i0 i1 h,hI.IJ,hI.srw,λp=>by rw[h1];exact hI.hp p,λe he=> ?_,λy K=> ?_,λe he j i i0 i1 T=> ?_,λy K=>hI.jE y (J y K)⟩
 .rw[hI.hs e he];exact(SZ (by rw[h1]) (by rw[h2]) (by rw[O])).symm
 .obtain⟨g1,g2,g3⟩:=hI.hw y K
  grind
 .rw[h2]at j;rw[v _ _ i0 i1];exact hI.hf e he j i i0 i1 T
end
def yI{F:List Pr}{w:World}{t:Nat}{x y z:Int}(H:Sat F w){K:Nat->World->Prop}(T: ∀b w',Sat (Cells b t [.int .u64 x,.int .i64 y,.int .u64 z]::F) w'->K b w'):
  AL (.cells #[.int .u64 0,.int .i64 0,.int .u64 0] t) w λb w1=>stCells (Addr.mk b 0 none) 0 [.int .u64 x,.int .i64 y,.int .u64 z] w1 λj=>K b j:=by
 refine AQ (vs:=[.int .u64 0,.int .i64 0,.int .u64 0]) H λb w1 H1 _=> ?_;exact Gm (news:=[.int .u64 x,.int .i64 y,.int .u64 z]) H1 rfl (by intro v J;simp at J;rcases J with rfl|rfl|rfl<;>rfl) λj O=>T b j O
section
variable{E:Env}{c:Nat}{V:VS}{Z:List Pr}{w:World}{g:MG}{P:tP}{W:wZ}
def mput3{s:Ac}{P':tP}(H:Sat (Row E.As 3 s (Ao nX P')::(Hn E c V g P W++Z)) w){K:World->Prop}(v: ∀w',Sat (Hn E c V {g with s3:=s} P' W++Z) w'->K w'):
  stCells ((Addr.mk c 0 none).add 3) 0 [.slice s.base s.len s.cap] w K:=by
 refine AV (H.front 1 rfl) (o:=0) (m:=3) rfl (by simp[SY]) λw' j=>v w' ?_;have h1:=(j.front 5 rfl).tail;exact Sat.QH [Cells c E.Ay (SY {g with s3:=s}),K3 g.s0 (ints .u64 V.pl),K3 g.s1 (BA V.rf),K3 g.s2 (ints .u64 V.fl)] (T:=Row E.IV 2 g.s4 (Ao wd2 W)::Z) (h1.front 1 rfl)
def Ye(H:Sat (Gz E c V::Z) w){page AA:Int}(h0:0<=page)(h1:page<18446744073709551616)(p0:0<=AA)(p1:AA<18446744073709551616){K:Int->World->Prop}
  (cE: ¬Jl page AA-> ∀w',Sat (Gz E c V::Z) w'->K 1 w')
  (bQ:Jl page AA->cnt V.laid page (page+AA)≠AA-> ∀w',Sat (Gz E c V::Z) w'->K 33 w')
  (cG:Jl page AA->cnt V.laid page (page+AA)=AA->cnt V.ready page (page+AA)=AA-> ∀w',Sat (Gz E c V::Z) w'->K 0 w')
  (cH:Jl page AA->cnt V.laid page (page+AA)=AA->cnt V.ready page (page+AA)≠AA-> ∀r,V.rf=true::r-> ∀w',Sat (Gz E c {V with rf:=r}::Z) w'->K 13 w')
  (cI:Jl page AA->cnt V.laid page (page+AA)=AA->cnt V.ready page (page+AA)≠AA->(∀r,V.rf≠true::r)-> ∀w',(WH (JB V page AA)->Sat (Gz E c (JB V page AA)::Z) w')->K 0 w'):
  F.Cm E (some ⟨c,0,none⟩) page AA K w:=by
 have H0:=H;obtain⟨g,P,W,hI,H⟩:=Sat.Vn.1 H;have back: ∀w',Sat (Hn E c V g P W++Z) w'->Sat (Gz E c V::Z) w':=λw' H'=>Sat.Vn.2 ⟨g,P,W,hI,H'⟩;unfold F.Cm T0.Cm;refine TE h0 p0 λbr cA=> ?_;cases br
 .exact AS rfl (cE (λh=>by grind) _ H0)
 have y:=cA.1 rfl;have cK:=y;unfold Jl at cK;have hA:page<page+AA:=by omega
 have hB:page+AA<18446744073709551616:=by omega
 refine AO rfl (Nv hI H λb3 c8 w5 H5=> ?_);have hl:=Vo H5;have dA:=hI.fewP;have hp:=Nf (key:=kP) P page;simp only[AH];refine⟨g.s3,H5.cell rfl,?_⟩;rw[AM (n:=((g.s3.len:Nat):Int)-(pos kP P page:Nat)),AI (n:=((g.s3.len:Nat):Int)-(pos kP P page:Nat))];have aJ:cnt V.laid page (page+AA)=AA↔ ∀m,page<=m->m<page+AA->mem V.laid m:=by
  have:=FI hI.ok.ME (a:=page) (b:=page+AA) (by omega)
  grind
 have aR:cnt V.ready page (page+AA)=AA↔ ∀m,page<=m->m<page+AA->mem V.ready m:=by
  have:=FI hI.ok.Pm (a:=page) (b:=page+AA) (by omega)
  grind
 have aV:cnt V.laid page (page+AA)=AA-> ∀k:Nat,(k:Int)<AA-> ∃e,P[pos kP P page+k]? =some e/\e.1=page+k:=λhc k hk=>by
  have:=hI.full (a:=page) (n:=AA.toNat) (λm m1 m2=>aJ.1 hc m m1 (by omega)) (k:=k) (by omega);exact this
 refine AB (λdB=>bQ y (λhc=> ?_) _ (back _ H5)) λhle=> ?_
 .obtain⟨e,he,_⟩:=aV hc (AA.toNat-1) (by omega)
  grind
 refine AJ (λst w'=>Sat (Hn E c V g P W++Z) w'/\ ∃i:Nat,st.2.1=i/\(i:Int)<=AA/\(∀k:Nat,k<i-> ∃e,P[pos kP P page+k]? =some e/\e.1=page+k)/\(st.1=true↔ ∀m,page<=m->m<page+i->mem V.ready m)) (λst _=>(AA-st.2.1).toNat)
  ⟨H5,0,rfl,by show(0:Int)<=AA;omega,λk hk=>by omega,⟨λ_ m m1 m2=>by omega,λ_=>rfl⟩⟩ ?_
 rintro⟨rd,i',v⟩ _ w9 ⟨H9,i,hi,bO,bG,a0⟩;dsimp only at hi a0⊢;subst hi;refine AB (λbR=> ?_) λcD=> ?_
 .obtain⟨e,he⟩: ∃e,P[pos kP P page+i]? =some e:=⟨_,List.getElem?_eq_getElem (by omega)⟩;obtain⟨b,hb,_,c0,c1,c2⟩:=XM H9 he;have aA:=List.mem_of_getElem? he;have cC:=hI.Yz aA;rw[AM (n:=(i:Int)),AM (n:=(pos kP P page:Nat)+(i:Int)),AI (n:=page+(i:Int)),AI (n:=(i:Int)+1)];refine⟨g.s3,H9.cell rfl,?_⟩;rw[hb];have et:Int.toNat ((pos kP P page:Nat)+(i:Int))=pos kP P page+i:=by omega
  rw[et];refine⟨⟨by omega,by omega⟩,e.1,c0,e.2.1,c1,e.2.2,c2,yI H9 λc3 dG aH=>⟨e.1,aH.Aa rfl,Ca (λdD=>bQ y (λhc=> ?_) _ (back _ aH.tail)) λheq=> ?_⟩⟩
  .grind
  .have aI: ∀k:Nat,k<i+1-> ∃e,P[pos kP P page+k]? =some e/\e.1=page+k:=λk hk=>by
    rcases Nat.lt_or_eq_of_le (Nat.le_of_lt_succ hk)with q|q
    .grind
    grind
   refine AP (λht=>⟨e.2.1,aH.cell rfl,⟨aH.tail,i+1,by omega,by omega,aI,?_⟩,by omega⟩) λhf=>⟨⟨aH.tail,i+1,by omega,by omega,aI,?_⟩,by omega⟩
   .rw[beq_iff_eq,hI.is2 aA];have:=a0.1 ht;constructor
    .intro h m m1 m2;rcases Int.lt_or_le m (page+i)with q|q
     .exact this m m1 q
     .rw[show m=e.1 by omega];exact h
    .intro h;exact h e.1 (by omega) (by omega)
   grind
 .have bP:(i:Int)=AA:=by omega
  have hc:cnt V.laid page (page+AA)=AA:=aJ.2 λm m1 m2=>by
   obtain⟨e,he,hk⟩:=bG (m-page).toNat (by omega);have:=hI.stm (List.mem_of_getElem? he)
   grind
  refine AP (λht=>cG y hc (aR.2 λm m1 m2=>a0.1 ht m m1 (by omega)) _ (back _ H9)) λhf=> ?_;have aG:cnt V.ready page (page+AA)≠AA:=λh=>by grind
  have main:(∀r,V.rf≠true::r)-> ∀(s1:Ac) (a6:World),Sat (Hn E c {V with rf:=V.rf.tail} {g with s1:=s1} P W++Z) a6->
    A9 (Int×Unit) (0,()) a6 λOH _ aB aE=>
     CND (decide ((OH.1:Int)<(i64 (AA)))) (
      NC (some (Addr.mk c 0 none)) λcN=>
      ∃aM:Ac,aB.cell? (cN.add 3)=some (.slice aM.base aM.len aM.cap)/\
      NC aM.base λa2=>
      ((0:Int)<=(i64 ((pos kP P page:Nat)+OH.1))/\((i64 ((pos kP P page:Nat)+OH.1)):Int)<(aM.len:Nat))/\
      ∃bD:Int,aB.cell? ((a2.add (Int.toNat (i64 ((pos kP P page:Nat)+OH.1))*3)).add 0)=some (.int .u64 bD)/\
      ∃bE:Int,aB.cell? ((a2.add (Int.toNat (i64 ((pos kP P page:Nat)+OH.1))*3)).add 1)=some (.int .i64 bE)/\
      ∃bF:Int,aB.cell? ((a2.add (Int.toNat (i64 ((pos kP P page:Nat)+OH.1))*3)).add 2)=some (.int .u64 bF)/\
      AL (.cells #[.int .u64 0,.int .i64 0,.int .u64 0] E.As) aB λaD cU=>
      stCells (Addr.mk aD 0 none) 0 [.int .u64 bD,.int .i64 bE,.int .u64 bF] cU λT=>
      ∃bU:Int,T.cell? ((Addr.mk aD 0 none).add 1)=some (.int .i64 bU)/\
      CND ((bU:Int)==2) (
       aE (i64 (OH.1+1),()) T
      ) (
       An (Int×Unit) (λbB=>
        An (Bool×Unit) (λbC=>
         ∃bV:Int,T.cell? ((Addr.mk aD 0 none).add 1)=some (.int .i64 bV)/\
         CND ((bV:Int)==3) (
          NC (some (Addr.mk c 0 none)) λcO=>
          ∃aT:Ac,T.cell? (cO.add 2)=some (.slice aT.base aT.len aT.cap)/\
          bC (decide ((((aT.len:Nat):Int):Int)>0),()) T
         ) (
          bC (false,()) T
         )
        ) λs41 _ aL=>
         CND (s41.1) (
          NC (some (Addr.mk c 0 none)) λcP=>
          ∃aN:Ac,aL.cell? (cP.add 2)=some (.slice aN.base aN.len aN.cap)/\
          NC aN.base λcQ=>
          ((0:Int)<=0/\(0:Int)<(aN.len:Nat))/\
          ∃bW:Int,aL.cell? (cQ.add (Int.toNat 0*1))=some (.int .u64 bW)/\
          NC (some (Addr.mk c 0 none)) λcR=>
          ∃aC:Ac,aL.cell? (cR.add 2)=some (.slice aC.base aC.len aC.cap)/\
          ((0:Int)<=1/\(1:Int)<=(aC.len:Nat))/\
          NC (some (Addr.mk c 0 none)) λcS=>
          stCells (cS.add 2) 0 [.slice (HU aC.base aC.cap (Int.toNat 1) 1) (aC.len-(Int.toNat 1)) (aC.cap-(Int.toNat 1))] aL λa7=>
          bB (bW,()) a7
         ) (
          bB (0,()) aL
         )
       ) λs38 _ Y=>
        NC (some (Addr.mk c 0 none)) λcT=>
        ∃J:Ac,Y.drew.cell? (cT.add 3)=some (.slice J.base J.len J.cap)/\
        ∃aO:Int,Y.drew.cell? (Addr.mk aD 0 none)=some (.int .u64 aO)/\
        NC J.base λa3=>
        ((0:Int)<=(i64 ((pos kP P page:Nat)+OH.1))/\((i64 ((pos kP P page:Nat)+OH.1)):Int)<(J.len:Nat))/\
        stCells (a3.add (Int.toNat (i64 ((pos kP P page:Nat)+OH.1))*3)) 0 [.int .u64 aO,.int .i64 2,.int .u64 s38.1] Y.drew λaS=>
        aE (i64 (OH.1+1),()) aS
      )
     ) (
      K 0 aB
     ):=by
   intro cL s1 a6 b0;have bI:P.map (cF V page (page+((0:Nat):Int)))=P:=by
    rw[show P=P.map id by simp,List.map_map];exact List.map_congr_left λe _=>by show cF V page (page+((0:Nat):Int)) e=e;unfold cF;rw[if_neg (by omega)]
   have bJ:cnt V.rel page (page+((0:Nat):Int))=0:=(Di hI.ok.V3 (by omega)).2 λn n1 n2=>by omega
   rw[AM (n:=AA)];refine AJ (λst w'=> ∃i:Nat,st.1=i/\(i:Int)<=AA/\ ∃s2,Sat (Hn E c {V with rf:=V.rf.tail,fl:=V.fl.drop (cnt V.rel page (page+i)).toNat} {g with s1:=s1,s2:=s2} (P.map (cF V page (page+i))) W++Z) w') (λst _=>(AA-st.1).toNat)
    ⟨0,rfl,by show(0:Int)<=AA;omega,g.s2,by rw[bI,bJ];exact b0⟩ ?_
   rintro⟨i',v⟩ _ aB ⟨i,hi,bO,s2,aF⟩;dsimp only at hi⊢;subst hi;refine AB (λbR=> ?_) λcD=> ?_
   .obtain⟨e,he,aZ⟩:=aV hc i bR;have aA:=List.mem_of_getElem? he;have hlen:=(List.getElem?_eq_some_iff.1 he).1;have cC:=hI.Yz aA;have c9:=DU V.rel page (page+i);have aQ:=KM hI.ok.V3 (a:=page) (k:=page+i) (by omega);have b7:page+(i:Int)+1=page+((i+1:Nat):Int):=by omega
    rw[b7]at aQ;have bL:(P.map (cF V page (page+i)))[pos kP P page+i]? =some e:=by
     rw[List.getElem?_map,he];show some (cF V page (page+i) e)=some e;unfold cF;grind
    have bS: ∀d∈P,d.1≠e.1->cF V page (page+((i+1:Nat):Int)) d=cF V page (page+i) d:=λd _ hd=>by
     unfold cF;by_cases q:page<=d.1/\d.1<page+i/\d.2.1≠2
     .grind
     .rw[if_neg q,if_neg λq2=>q ⟨q2.1,by omega,q2.2.2⟩]
    have cJ:=Vo aF;rw[List.length_map]at cJ;simp only[AH];rw[AM (n:=(pos kP P page:Nat)+(i:Int)),AM (n:=(i:Int)+1)];have et:Int.toNat ((pos kP P page:Nat)+(i:Int))=pos kP P page+i:=by omega
    rw[et];obtain⟨b,hb,_,c0,c1,c2⟩:=XM aF bL;refine⟨_,aF.cell rfl,?_⟩;rw[hb];refine⟨⟨by omega,by omega⟩,e.1,c0,e.2.1,c1,e.2.2,c2,yI aF λaD T O=>⟨e.2.1,O.cell rfl,BI (λa5=> ?_) λa5=> ?_⟩⟩
    .refine⟨⟨i+1,by omega,by omega,s2,?_⟩,by omega⟩;have aG: ¬mem V.rel (page+i):=by rw[<-aZ];exact hI.ok.re _ ((hI.is2 aA).1 a5)
     have em:P.map (cF V page (page+((i+1:Nat):Int)))=P.map (cF V page (page+i)):=List.map_congr_left λd hd=>by
      by_cases q:d.1=e.1
      .have:d=e:=hI.IJ.inj hd aA q;subst this;unfold cF;grind
      grind
     rw[em,aQ.2 aG];exact O.tail
    .-- the page's fill, and what is left of the fills
     have fin: ∀(fill:Int) (a4:Ac) (Y:World),cF V page (page+((i+1:Nat):Int)) e=(e.1,2,fill)->
       Sat (Cells aD E.As [.int .u64 e.1,.int .i64 e.2.1,.int .u64 e.2.2]::(Hn E c {V with rf:=V.rf.tail,fl:=V.fl.drop (cnt V.rel page (page+((i+1:Nat):Int))).toNat} {g with s1:=s1,s2:=a4} (P.map (cF V page (page+i))) W++Z)) Y->
       ∃J:Ac,Y.drew.cell? ((Addr.mk c 0 none).add 3)=some (.slice J.base J.len J.cap)/\
        ∃aO:Int,Y.drew.cell? (Addr.mk aD 0 none)=some (.int .u64 aO)/\
        NC J.base λa3=>
        ((0:Int)<=((pos kP P page:Nat)+(i:Int))/\((pos kP P page:Nat)+(i:Int))<(J.len:Nat))/\
        stCells (a3.add ((pos kP P page+i)*3)) 0 [.int .u64 aO,.int .i64 2,.int .u64 fill] Y.drew λaS=>
        (∃k:Nat,(i:Int)+1=k/\(k:Int)<=AA/\ ∃s2,Sat (Hn E c {V with rf:=V.rf.tail,fl:=V.fl.drop (cnt V.rel page (page+k)).toNat} {g with s1:=s1,s2:=s2} (P.map (cF V page (page+k))) W++Z) aS)/\(AA-((i:Int)+1)).toNat<(AA-(i:Int)).toNat:=by
      intro fill a4 Y aY b4;have Hd:=b4.drew;have dC:=Vo Hd.tail;obtain⟨b',bH,_⟩:=XM Hd.tail bL;refine⟨_,(Hd.front 1 rfl).cell rfl,e.1,Hd.Aa rfl,?_⟩;rw[bH];refine⟨⟨by omega,by grind⟩,?_⟩;refine st_rec Jc T5 (Hd.front 5 rfl) (i:=pos kP P page+i) (by grind) (e.1,2,fill) bH λaS b6=>⟨⟨i+1,by omega,by omega,a4,?_⟩,by omega⟩;have a9:=(Sat.back 5 b6 (by simp[Hn])).tail;rw[<-aY,map_set hI.IJ he bS]at a9;exact a9
     have hF:cF V page (page+((i+1:Nat):Int)) e=(e.1,2,if e.2.1=3 then IN V page e.1 else 0):=by
      unfold cF;rw[if_pos ⟨by omega,by omega,a5⟩]
     refine AU (AU ⟨e.2.1,O.cell rfl,BI (λaK=> ?_) λaK j=>AO rfl λj=> ?_⟩)
     .have bT:mem V.rel (page+i):=by rw[<-aZ];exact(hI.is3 aA).1 aK
      rw[if_pos aK]at hF;have bK:=aQ.1 bT;have bM:=(O.front 4 rfl).NV;refine⟨s2,(O.front 1 rfl).cell rfl,λj=>AB (λcX=> ?_) λhz=> ?_⟩
      .cases hd:V.fl.drop (cnt V.rel page (page+i)).toNat with
       | nil=>have:=bM.1;dsimp only at this;rw[hd]at this;simp[ints]at this;omega
       | cons x r=>
        obtain⟨a,ha,Ch⟩:=(O.front 4 rfl).Oe (j:=0) (v:=.int .u64 x) (by dsimp only;rw[hd];rfl);refine⟨s2,(O.front 1 rfl).cell rfl,?_⟩;rw[ha];refine⟨⟨by decide,by omega⟩,x,Ch,s2,(O.front 1 rfl).cell rfl,⟨by decide,by omega⟩,?_⟩;have b1:=Sat.back 4 ((O.front 4 rfl).Of (n:=1) (show 1<=s2.len by omega)) (by simp[Hn]);have hx:IN V page e.1=x:=by
         unfold IN;rw[aZ];have:V.fl[(cnt V.rel page (page+i)).toNat]? =some x:=by
          have:=congrArg (λl=>l[0]?) hd
          grind
         grind
        have cB:(V.fl.drop (cnt V.rel page (page+i)).toNat).drop 1=V.fl.drop (cnt V.rel page (page+((i+1:Nat):Int))).toNat:=by
         rw[List.drop_drop,bK];congr 1;omega
        rw[hx]at hF;refine AV (b1.front 1 rfl) (o:=0) (m:=2) rfl (by simp[SY]) λa7 b5 j=>fin x ⟨HU s2.base s2.cap (Int.toNat 1) 1,s2.len-Int.toNat 1,s2.cap-Int.toNat 1⟩ a7 hF ?_;have aW:=Sat.back 1 b5 (by simp[Hn]);have e1:(ints IntKind.u64 (V.fl.drop (cnt V.rel page (page+i)).toNat)).drop 1=ints .u64 (V.fl.drop (cnt V.rel page (page+((i+1:Nat):Int))).toNat):=by
         rw[<-cB];simp[ints]
        dsimp only at aW;rw[e1]at aW;exact aW
      .have aU:V.fl.drop (cnt V.rel page (page+i)).toNat=[]:=by
        have:=bM.1;dsimp only at this;have:(ints IntKind.u64 (V.fl.drop (cnt V.rel page (page+i)).toNat)).length=0:=by omega
        rw[ints,List.length_map]at this
        grind
       have cW:=List.drop_eq_nil_iff.1 aU;have hx:IN V page e.1=0:=by
        unfold IN
        grind
       rw[hx]at hF;refine λj=>fin 0 s2 T hF ?_;have:V.fl.drop (cnt V.rel page (page+((i+1:Nat):Int))).toNat=V.fl.drop (cnt V.rel page (page+i)).toNat:=by
        rw[aU,List.drop_eq_nil_iff];omega
       grind
     .have aG: ¬mem V.rel (page+i):=λh=>aK ((hI.is3 aA).2 (by grind));rw[if_neg aK]at hF;refine fin 0 s2 T hF ?_;rw[aQ.2 aG];exact O
   .have bP:(i:Int)=AA:=by omega
    refine cI y hc aG cL aB λAu=> ?_;rw[bP]at aF;refine Sat.Vn.2 ⟨{g with s1:=s1,s2:=s2},P.map (cF V page (page+AA)),W,hI.QK Au rfl (λp=> ?_) (λp=> ?_) (λp i=>rfl) (λx hx=>hx),aF⟩
    .exact Eo hI.ok.Pm hA h0 hB p
    .exact FH hA
  refine Pu H9 (λe=>AO rfl (main (λr h=>by grind) g.s1 w9 ?_)) λx r e s w' H'=> ?_
  .have:V.rf.tail=V.rf:=by rw[e];rfl
   rw[this];exact H9
  .cases x
   .refine AO rfl (main (λr h=>by grind) s w' ?_);rw[e];exact H'
   .exact AS rfl (cH y hc aG r e w' (Sat.Vn.2 ⟨_,P,W,hI.congr rfl rfl rfl (λx hx=>hx) λ_ _ _ _=>rfl,H'⟩))
end
section
variable{E:Env}{c:Nat}{V:VS}{Z:List Pr}{w:World}{g:MG}{P:tP}{W:wZ}
end
section
variable{E:Env}{c:Nat}{V:VS}{Z:List Pr}{w:World}{g:MG}{P:tP}{W:wZ}
def WQ(H:Sat (Gz E c V::Z) w){hint AA:Int}(h0:0<=hint)(h1:hint<18446744073709551616)(p0:0<=AA)(p1:AA<18446744073709551616){K:Int->Int->World->Prop}
  (aT:(AA=0∨AA %512≠0∨134217728<AA)->K 0 1 w)
  (bW: ¬(AA=0∨AA %512≠0∨134217728<AA)-> ∀r,V.rf=true::r-> ∀w',Sat (Gz E c {V with rf:=r}::Z) w'->K 0 13 w')
  (bX: ¬(AA=0∨AA %512≠0∨134217728<AA)->(∀r,V.rf≠true::r)->M5 V hint AA-> ∀w',Sat (Gz E c {V with rf:=V.rf.tail,pl:=V.pl.tail}::Z) w'->K 0 13 w')
  (bY: ¬(AA=0∨AA %512≠0∨134217728<AA)->(∀r,V.rf≠true::r)-> ∀at_,512<=at_->at_+AA<=34359738368->It V hint AA at_-> ∀w',(WH {V with rf:=V.rf.tail,pl:=V.pl.tail,laid:=D9 V.laid at_ (at_+AA)}->Sat (Gz E c {V with rf:=V.rf.tail,pl:=V.pl.tail,laid:=D9 V.laid at_ (at_+AA)}::Z) w')->K at_ 0 w'):
  F.CR E (some ⟨c,0,none⟩) hint AA K w:=by
 unfold F.CR T0.CR;rw[Int.tmod_eq_emod_of_nonneg p0];refine AU (BI (λe j=>AS rfl (aT (.inl e))) λn1=>⟨by decide,Ca (λe j=>AS rfl (aT (.inr (.inl e)))) λn2 j=>AB (λe=>aT (.inr (.inr e))) λn3=> ?_⟩);have aG: ¬(AA=0∨AA %512≠0∨134217728<AA):=by omega
 have aC:0<AA:=by omega
 obtain⟨g,P,W,hI,H⟩:=Sat.Vn.1 H;have aI:(∀r,V.rf≠true::r)-> ∀(s1:Ac) (w5:World),Sat (Hn E c {V with rf:=V.rf.tail} {g with s1:=s1} P W++Z) w5->
    An (Int×Bool×Unit) (λJ6=>
     NC (some (Addr.mk c 0 none)) λp9=>
     ∃aP:Ac,w5.cell? p9=some (.slice aP.base aP.len aP.cap)/\
     CND (decide ((((aP.len:Nat):Int):Int)>0)) (
      NC (some (Addr.mk c 0 none)) λb6=>
      ∃aK:Ac,w5.cell? b6=some (.slice aK.base aK.len aK.cap)/\
      NC aK.base λb7=>
      ((0:Int)<=0/\(0:Int)<(aK.len:Nat))/\
      ∃aA:Int,w5.cell? (b7.add (Int.toNat 0*1))=some (.int .u64 aA)/\
      NC (some (Addr.mk c 0 none)) λb8=>
      ∃J:Ac,w5.cell? b8=some (.slice J.base J.len J.cap)/\
      ((0:Int)<=1/\(1:Int)<=(J.len:Nat))/\
      NC (some (Addr.mk c 0 none)) λb9=>
      stCells b9 0 [.slice (HU J.base J.cap (Int.toNat 1) 1) (J.len-(Int.toNat 1)) (J.cap-(Int.toNat 1))] w5 λaD=>
      An (Bool×Unit) (λTW=>
       CND (decide ((aA:Int)>0)) (
        512≠(0:Int)/\
        CND (((Int.tmod aA 512):Int)==0) (
         F.GS E aA AA (λcD cJ=>
         TW (cD,()) cJ
         ) aD
        ) (
         TW (false,()) aD
        )
       ) (
        TW (false,()) aD
       )
      ) λUj _ bG=>
       CND (Uj.1) (
        F.BH E (some (Addr.mk c 0 none)) aA AA (λc6 cE cK=>
        J6 (aA,cE,()) cK
        ) bG
       ) (
        J6 (aA,Uj.1,()) bG
       )
     ) (
      J6 (0,false,()) w5
     )
    ) λs7 _ w8=>
     An (Int×Bool×Unit) (λa4=>
      CND (!s7.2.1) (
       F.Bw E (some (Addr.mk c 0 none)) hint AA (λcF cG cL=>
       a4 (cF,cG,()) cL
       ) w8
      ) (
       a4 (s7.1,s7.2.1,()) w8
      )
     ) λuV _ aW=>
      An (Int×Bool×Unit) (λa5=>
       CND (!uV.2.1) (
        F.Bw E (some (Addr.mk c 0 none)) 0 AA (λcH cI cM=>
        a5 (cH,cI,()) cM
        ) aW
       ) (
        a5 (uV.1,uV.2.1,()) aW
       )
      ) λWo _ aX=>
       CND (!Wo.2.1) (
        K 0 13 aX
       ) (
        F.DP E (some (Addr.mk c 0 none)) Wo.1 (λy c7 bH=>
        AL (.cells ⟨[]⟩ E.As) bH λa6 aY=>
        NC (some (Addr.mk c 0 none)) λcA=>
        ∃aB:Ac,aY.cell? (cA.add 3)=some (.slice aB.base aB.len aB.cap)/\
        ((0:Int)<=y/\(y:Int)<=(aB.cap:Nat))/\
        APP E.As 3 24 #[.int .u64 0,.int .i64 0,.int .u64 0] ⟨(some (Addr.mk a6 0 none)),0,0⟩ ⟨(HU aB.base aB.cap 0 3),(Int.toNat y),aB.cap⟩ aY λV2 bI=>
        A9 (Ac×Int×Unit) (V2,0,()) bI λiW _ aN aM=>
         CND (decide ((iW.2.1:Int)<AA)) (
          AL (.cells ⟨[.int .u64 (u64 (Wo.1+iW.2.1)),.int .i64 1,.int .u64 0]⟩ E.As) aN λa7 bJ=>
          APP E.As 3 24 #[.int .u64 0,.int .i64 0,.int .u64 0] iW.1 ⟨(some (Addr.mk a7 0 none)),1,1⟩ bJ λs53 bK=>
          aM (s53,u64 (iW.2.1+1),()) bK
         ) (
          NC (some (Addr.mk c 0 none)) λcB=>
          ∃O:Ac,aN.cell? (cB.add 3)=some (.slice O.base O.len O.cap)/\
          ((0:Int)<=y/\(y:Int)<=(O.len:Nat))/\
          APP E.As 3 24 #[.int .u64 0,.int .i64 0,.int .u64 0] iW.1 ⟨(HU O.base O.cap (Int.toNat y) 3),(O.len-(Int.toNat y)),(O.cap-(Int.toNat y))⟩ aN λRp bL=>
          NC (some (Addr.mk c 0 none)) λcC=>
          stCells (cC.add 3) 0 [.slice Rp.base Rp.len Rp.cap] bL λcN=>
          K Wo.1 0 cN
         )
        ) aX
       ):=by
  intro bE s1 w5 H5;simp only[AH];have aF:KE {V with rf:=V.rf.tail,pl:=V.pl.tail} P W:=hI.congr rfl rfl rfl (λx hx=>List.mem_of_mem_tail hx) λ_ _ _ _=>rfl;refine Aj (λst w'=> ∃s0,Sat (Hn E c {V with rf:=V.rf.tail,pl:=V.pl.tail} {g with s0:=s0,s1:=s1} P W++Z) w'/\(st.2.1=true->It V hint AA st.1)/\(st.2.1=false->QG V AA)) ?_ ?_
  .have hl:=(H5.front 1 rfl).NV;have hc:w5.cell? (Addr.mk c 0 none)=some (.slice g.s0.base g.s0.len g.s0.cap):=H5.Aa rfl;refine⟨g.s0,hc,AB (λb0=> ?_) λbU=> ?_⟩
   .have bT:V.pl=[]∨ ∃x r,V.pl=x::r:=by
     cases V.pl with
     | nil=>grind
     | cons x r=>grind
    rcases bT with hp|⟨x,r,hp⟩
    .have:=hl.1;dsimp only at this;rw[hp]at this;simp[ints]at this;omega
    .
     have b4:=hI.jE x (by rw[hp];simp);obtain⟨a,ha,hd⟩:=(H5.front 1 rfl).Oe (j:=0) (v:=.int .u64 x) (by dsimp only;rw[hp];rfl);refine⟨g.s0,hc,?_⟩;rw[ha];refine⟨⟨by decide,by omega⟩,x,hd,g.s0,hc,⟨by decide,by omega⟩,?_⟩;have H6:=Sat.back 1 ((H5.front 1 rfl).Of (n:=1) (show 1<=g.s0.len by omega)) (by simp[Hn]);dsimp only at H6;rw[hp]at H6;refine DZ H6 (o:=0) rfl (by simp[SY]) λaD bM=> ?_;have aZ:Sat (Hn E c {V with rf:=V.rf.tail,pl:=V.pl.tail} {g with s0:=⟨HU g.s0.base g.s0.cap (Int.toNat 1) 1,g.s0.len-Int.toNat 1,g.s0.cap-Int.toNat 1⟩,s1:=s1} P W++Z) aD:=by
      unfold Hn;dsimp only;rw[hp];exact bM
     have no: ∀{b:Bool},b=false-> ¬Sr V.laid x AA->(∃s0,Sat (Hn E c {V with rf:=V.rf.tail,pl:=V.pl.tail} {g with s0:=s0,s1:=s1} P W++Z) aD/\(b=true->It V hint AA x)/\(b=false->QG V AA)):=λhb Y=>
      ⟨_,aZ,λh=>(by rw[hb]at h;cases h),λ_ p r' aV=>by grind⟩
     rw[Int.tmod_eq_emod_of_nonneg b4.1];refine AU (AB (λg0=>⟨by decide,BI (λg1=>TE (by omega) p0 λbr a9 j=> ?_) λg1 j=>AO rfl (no rfl λh=>g1 h.1)⟩) λg0 j=>AO rfl (no rfl λh=>by have:=h.2.1;omega));cases br
     .exact AO rfl (no rfl λh=>by have:=a9.2 ⟨by omega,h.2.2.1⟩;cases this)
     .have hr:=a9.1 rfl;unfold Jl at hr;refine AS rfl (TF aF aZ (by omega) p0 (by omega) (λaU w' T=>⟨_,T,λ_=>.inl ⟨x,r,hp,⟨g1,by omega,hr.2,(Di hI.ok.ME (by omega)).2 aU⟩,rfl⟩,λh=>by cases h⟩) λm m0 m1 m2 _ w' T=>⟨_,T,λh=>(by cases h),λ_ p r' aV=> ?_⟩);rw[hp]at aV;cases aV;exact λh=>(Di hI.ok.ME (by omega)).1 h.2.2.2 m m1 m2 m0
   .have aR:V.pl=[]:=by
     have:=hl.1;dsimp only at this;have:(ints IntKind.u64 V.pl).length=0:=by omega
     rw[ints,List.length_map]at this
     grind
    refine⟨g.s0,?_,λh=>(by cases h),λ_ p r h=>by grind⟩;unfold Hn;dsimp only;rw[aR];unfold Hn at H5;dsimp only at H5;rw[aR]at H5;exact H5
  rintro⟨pl,ok,v⟩ _ w8 ⟨s0,H8,hy,Y⟩;dsimp only at hy Y⊢;refine Aj (λst w'=>Sat (Hn E c {V with rf:=V.rf.tail,pl:=V.pl.tail} {g with s0:=s0,s1:=s1} P W++Z) w'/\(st.2.1=true->It V hint AA st.1)/\(st.2.1=false->QG V AA/\Lc V.laid hint AA)) ?_ ?_
  .cases ok
   .exact AS rfl (TG aF H8 h0 h1 aC (by omega) (λhh w' T=>⟨T,λh=>(by cases h),λ_=>⟨Y rfl,hh⟩⟩) λa ha w' T=>⟨T,λ_=>.inr ⟨Y rfl,.inl ha⟩,λh=>by cases h⟩)
   .exact AO rfl ⟨H8,hy,λh=>by cases h⟩
  clear hy Y;rintro⟨pl,ok,v⟩ _ aW ⟨a0,hy,Y⟩;dsimp only at hy Y⊢;refine Aj (λst w'=>Sat (Hn E c {V with rf:=V.rf.tail,pl:=V.pl.tail} {g with s0:=s0,s1:=s1} P W++Z) w'/\(st.2.1=true->It V hint AA st.1)/\(st.2.1=false->M5 V hint AA)) ?_ ?_
  .cases ok
   .exact AS rfl (TG aF a0 (by decide) (by decide) aC (by omega) (λhh w' T=>⟨T,λh=>(by cases h),λ_=>⟨(Y rfl).1,(Y rfl).2,hh⟩⟩) λa ha w' T=>⟨T,λ_=>.inr ⟨(Y rfl).1,.inr ⟨(Y rfl).2,ha⟩⟩,λh=>by cases h⟩)
   .exact AO rfl ⟨a0,hy,λh=>by cases h⟩
  clear hy Y;rintro⟨pl,ok,v⟩ _ aX ⟨a1,hy,Y⟩;dsimp only at hy Y⊢;cases ok
  .exact AS rfl (bX aG bE (Y rfl) _ (Sat.Vn.2 ⟨_,_,_,aF,a1⟩))
  have aS:=hy rfl;have aH:=aS.fits hI.ok.ME aC;have b1:0<=pl:=by
   rcases aS with ⟨p,r,hp,_,he⟩|⟨_,⟨_,h3,_⟩|⟨_,_,h3,_⟩⟩
   .rw[he];exact(hI.jE p (by rw[hp];simp)).1
   .have:=h3.low;omega
   .have:=h3.low;omega
  have cZ:=aH.1;have c0:=aH.2.1;have bA:=aH.2.2.1;have aU:=(Di hI.ok.ME (show pl<=pl+AA by omega)).1 aH.2.2.2;clear hy Y aH;refine AO rfl (Nv aF a1 λb3 cY bH bN=> ?_);have bD:=Nf (key:=kP) P pl;have c1:=hI.fewP;refine IU (n:=0) (z:=3) bN rfl (by decide) λa6 aY aL=> ?_;have hl:=Vo aL.tail;refine⟨g.s3,(aL.front 1 rfl).cell rfl,⟨by omega,by grind⟩,?_⟩;refine Gq (x:=⟨HU g.s3.base g.s3.cap 0 3,pos kP P pl,g.s3.cap⟩) (news:=Ao nX (P.take (pos kP P pl))) aL rfl ((aL.front 5 rfl).RC (by decide) Jc bD) (by rw[D8 Jc,List.length_take];grind) (IE T5 _) (by grind) (by grind) λV2 bI a2 cS=> ?_;rw[List.nil_append]at a2;refine AJ (λst w'=> ∃i:Nat,st.2.1=(i:Int)/\(i:Int)<=AA/\st.1.len=pos kP P pl+i/\
    Sat (Row E.As 3 st.1 (Ao nX (P.take (pos kP P pl)++((List.range i).map λi:Nat=>(pl+(i:Int),(1:Int),(0:Int)))))::(Hn E c {V with rf:=V.rf.tail,pl:=V.pl.tail} {g with s0:=s0,s1:=s1} P W++Z)) w') (λst _=>(AA-st.2.1).toNat)
   ⟨0,rfl,by show(0:Int)<=AA;omega,by grind,by simpa using a2⟩ ?_
  rintro⟨iW,i',v⟩ _ aN ⟨i,hi,cR,bC,aE⟩;dsimp only at hi bC aE⊢;subst hi;refine AB (λb0=> ?_) λbU=> ?_
  .rw[AI (n:=pl+(i:Int)),AI (n:=(i:Int)+1)];refine AQ aE λa7 bJ bO _=> ?_;refine GD (news:=nX (pl+(i:Int),1,0)) bO rfl rfl (T5 _) (by omega) (by omega) λs53 bK cV cT=>⟨⟨i+1,by omega,by omega,by omega,?_⟩,by omega⟩;have e1:Ao nX (P.take (pos kP P pl)++((List.range i).map λi:Nat=>(pl+(i:Int),(1:Int),(0:Int))))++nX (pl+(i:Int),1,0)=Ao nX (P.take (pos kP P pl)++((List.range (i+1)).map λi:Nat=>(pl+(i:Int),(1:Int),(0:Int)))):=by
    rw[List.range_succ,List.map_append,<-List.append_assoc,F9 (_++_)];simp[Ao]
   grind
  .have bB:(i:Int)=AA:=by omega
   refine⟨g.s3,(aE.front 1 rfl).cell rfl,⟨by omega,by grind⟩,?_⟩;refine Gq (x:=⟨HU g.s3.base g.s3.cap (pos kP P pl) 3,g.s3.len-pos kP P pl,g.s3.cap-pos kP P pl⟩) (news:=Ao nX (P.drop (pos kP P pl))) aE rfl ((aE.front 5 rfl).RD (by decide) Jc bD) (by rw[D8 Jc,List.length_drop];grind) (IE T5 _) (by grind) (by grind) λRp bL a3 _=> ?_;rw[<-F9]at a3;refine mput3 a3 λw' T=>bY aG bE pl (by omega) bA aS w' λAu=> ?_;refine Sat.Vn.2 ⟨_,_,_,hI.Yd (n:=i) Au rfl rfl rfl (λx hx=>List.mem_of_mem_tail hx) (λp=> ?_) (λp q1 q2=>aU p q1 (by rw[<-bB];exact q2)),T⟩;rw[bB];exact Eo hI.ok.ME (Int.lt_add_of_pos_right _ aC) b1 (Int.lt_of_le_of_lt bA (by decide)) p
 refine Pu H (λe=>AO rfl (aI (λr h=>by grind) g.s1 w ?_)) λx r e s w' T=> ?_
 .have:V.rf.tail=V.rf:=by rw[e];rfl
  rw[this];exact H
 .cases x
  .refine AO rfl (aI (λr h=>by grind) s w' ?_);rw[e];exact T
  .exact AS rfl (bW aG r e w' (Sat.Vn.2 ⟨_,P,W,hI.congr rfl rfl rfl (λx hx=>hx) λ_ _ _ _=>rfl,T⟩))
end
def Nw{α β:Type}{f g:α->List β}: ∀{l:List α},(∀x∈l,f x=g x)->l.flatMap f=l.flatMap g
 | [],_=>rfl
 | a::l,h=>by rw[List.flatMap_cons,List.flatMap_cons,h a (.head _),Nw λx j=>h x (.tail _ j)]
abbrev QV:=Int×(Int->Bool)×(Int->Bool)
def qc(v:Nat->QV)(i:Nat):List Value:=Iz (v i).1 (v i).2.1 (v i).2.2
def cE(m t:Nat):List Value:=[.pointer (some ⟨m,0,none⟩),.pointer (some ⟨t,0,none⟩)]
def cG(f:Nat)(sl:Ac)(hint:Int):List Value:=[.pointer (some ⟨f,0,none⟩),GJ sl,.int .u64 hint]
def Dh(m t f:Nat)(sl:Ac)(hint:Int)(v:Nat->QV):List Value:=cE m t++((List.range 64).flatMap (qc v)++cG f sl hint)
def nY(m t:Nat)(v:Nat->QV)(p:Nat):List Value:=cE m t++((List.range 64).take p).flatMap (qc v)
def xB(f:Nat)(sl:Ac)(hint:Int)(v:Nat->QV)(p:Nat):List Value:=((List.range 64).drop (p+1)).flatMap (qc v)++cG f sl hint
def I0(v:Nat->QV): ∀l:List Nat,(l.flatMap (qc v)).length=129*l.length
 | []=>rfl
 | a::l=>by
  rw[List.flatMap_cons,List.length_append,I0 v l,List.length_cons];have:(qc v a).length=129:=wV;omega
def kA(m t:Nat)(v:Nat->QV){p:Nat}(hp:p<64):(nY m t v p).length=2+p*129:=by
 unfold nY;rw[List.length_append,I0,List.length_take,List.length_range];have:(cE m t).length=2:=rfl;omega
def xC{p:Nat}(hp:p<64):List.range 64=(List.range 64).take p++p::(List.range 64).drop (p+1):=by
 have h:=(List.take_append_drop p (List.range 64)).symm;rw[List.drop_eq_getElem_cons (by rw[List.length_range];exact hp),List.getElem_range]at h;exact h
def Yf(m t f:Nat)(sl:Ac)(hint:Int)(v:Nat->QV){p:Nat}(hp:p<64):Dh m t f sl hint v=qW (nY m t v p) (xB f sl hint v p) (v p).1 (v p).2.1 (v p).2.2:=by
 unfold Dh qW nY xB;have h:(List.range 64).flatMap (qc v)=((List.range 64).take p).flatMap (qc v)++(qc v p++((List.range 64).drop (p+1)).flatMap (qc v)):=by
  conv=>lhs;rw[xC hp]
  grind
 rw[h];simp only[List.append_assoc];rfl
def Sa(v:Nat->QV)(p:Nat)(x:QV):Nat->QV:=λj=>if j=p then x else v j
def sN(m t f:Nat)(sl:Ac)(hint:Int)(v:Nat->QV){p:Nat}(hp:p<64)(x:QV):qW (nY m t v p) (xB f sl hint v p) x.1 x.2.1 x.2.2=Dh m t f sl hint (Sa v p x):=by
 rw[Yf m t f sl hint (Sa v p x) hp];have y:nY m t (Sa v p x) p=nY m t v p:=by
  unfold nY;congr 1;refine Nw λi j=> ?_;obtain⟨k,hk,e⟩:=List.mem_take_iff_getElem.1 j;rw[List.getElem_range]at e;unfold qc Sa
  grind
 have J:xB f sl hint (Sa v p x) p=xB f sl hint v p:=by
  unfold xB;congr 1;refine Nw λi j=> ?_;obtain⟨k,hk,e⟩:=List.mem_drop_iff_getElem.1 j;rw[List.getElem_range]at e;unfold qc Sa
  grind
 have K:Sa v p x p=x:=if_pos rfl
 grind
def sO(m t f:Nat)(sl:Ac)(hint:Int)(v:Nat->QV):(Dh m t f sl hint v).length=8261:=by
 unfold Dh;rw[List.length_append,List.length_append,I0,List.length_range];rfl
def rh_0(m t f:Nat)(sl:Ac)(hint:Int)(v:Nat->QV):(Dh m t f sl hint v)[0]? =some (.pointer (some ⟨m,0,none⟩)):=rfl
def rh_1(m t f:Nat)(sl:Ac)(hint:Int)(v:Nat->QV):(Dh m t f sl hint v)[1]? =some (.pointer (some ⟨t,0,none⟩)):=rfl
def Yg(m t f:Nat)(sl:Ac)(hint:Int)(v:Nat->QV)(i:Nat):(Dh m t f sl hint v)[8258+i]? =(cG f sl hint)[i]? :=by
 unfold Dh;rw[List.getElem?_append_right (by show 2<=_;omega),List.getElem?_append_right (by rw[I0,List.length_range];show 8256<=8258+i-2;omega),I0,List.length_range];rw[show 8258+i-(cE m t).length-129*64=i by show 8258+i-2-8256=i;omega]
def sP(m t f:Nat)(sl:Ac)(hint:Int)(v:Nat->QV)(i:Nat)(x:Value){f':Nat}{sl':Ac}{hint':Int}(h:(cG f sl hint).set i x=cG f' sl' hint'):(Dh m t f sl hint v).set (8258+i) x=Dh m t f' sl' hint' v:=by
 unfold Dh;rw[List.set_append_right _ _ (by show 2<=_;omega),List.set_append_right _ _ (by rw[I0,List.length_range];show 8256<=8258+i-2;omega),I0,List.length_range];rw[show 8258+i-(cE m t).length-129*64=i by show 8258+i-2-8256=i;omega,h]
structure RG where
 m:Nat
 t:Nat
 f:Nat
 sl:Ac
 v:Nat->QV
 L:List (Int×Nat)
abbrev kB:=Int->(Nat->Bool)×(Nat->Bool)
def KA(x:Int×Nat):List Value:=[.int .i64 x.1,.pointer (some ⟨x.2,0,none⟩)]
def Bz(x:Int×Nat):(KA x).length=2:=rfl
def rsR(E:Env)(sp:Int->Option (Nat×SI))(um:kB)(x:Int×Nat):Pr:=match sp x.1 with
 | some y=>A4 E x.2 y.2 (um x.1).1 (um x.1).2
 | none=>iN
def FD(E:Env)(h:Nat)(S:HS)(um:kB)(g:RG):List Pr:=
 [Cells h E.Ab (Dh g.m g.t g.f g.sl S.hint g.v),Gz E g.m S.V,NK E g.t S.T,Kt E g.f S.fx,Row E.AZ 2 g.sl (Ao KA g.L),Ad (rsR E S.sp um) g.L]
structure dL(S:HS)(g:RG):Prop where
 q: ∀i,i<64->sC (S.ca i) (g.v i).1 (g.v i).2.1 (g.v i).2.2
 mem: ∀id,id∈g.L.map (·.1)↔S.sp id≠none
 so:(g.L.map λx=>S.at x.1).Pairwise (· < ·)
def Lg(E:Env)(h:Nat)(S:HS)(um:kB):Pr:=Ex λg:RG=>Kk (dL S g) (NR (FD E h S um g))
section
variable{E:Env}{h:Nat}{S:HS}{um:kB}{g:RG}{Z:List Pr}{w:World}
def Sat.Ie:Sat (Lg E h S um::Z) w↔ ∃g,dL S g/\Sat (FD E h S um g++Z) w:=by
 unfold Lg;rw[Sat.ex];constructor
 .rintro⟨g,j⟩;rw[Sat.where,Sat.star]at j
  grind
 .rintro⟨g,h1,h2⟩;refine⟨g,?_⟩;rw[Sat.where,Sat.star]
  grind
def Sat.sQ{R:List Pr}(H:Sat (Cells h E.Ab (Dh g.m g.t g.f g.sl S.hint g.v)::R) w)(hI:dL S g){p:Nat}(hp:p<64):
  Sat (j7 h E.Ab (nY g.m g.t g.v p) (xB g.f g.sl S.hint g.v p) (S.ca p)::R) w/\
  ∀{C:CS} {R':List Pr} {w'},Sat (j7 h E.Ab (nY g.m g.t g.v p) (xB g.f g.sl S.hint g.v p) C::R') w'->
   ∃x:QV,sC C x.1 x.2.1 x.2.2/\Sat (Cells h E.Ab (Dh g.m g.t g.f g.sl S.hint (Sa g.v p x))::R') w':=by
 refine⟨Sat.rcw.2 ⟨_,_,_,hI.q p hp,?_⟩,λ{C R' w'} j=> ?_⟩
 .rw[<-Yf g.m g.t g.f g.sl S.hint g.v hp];exact H
 .obtain⟨B,u,k,y,j⟩:=Sat.rcw.1 j;refine⟨(B,u,k),y,?_⟩;have:=sN g.m g.t g.f g.sl S.hint g.v hp (B,u,k)
  grind
end
def Yh{w:World}{ok:Bool->Prop}{s:Ac}{z:Nat->Bool}(h:Qq w .bool ok s z):rowAt w s.base s.len (BA (MC s.len z)):=by
 cases hb:s.base with
 | none=>
  have:s.len=0:=by
   rcases Nat.eq_zero_or_pos s.len with e|e
   .exact e
   .obtain⟨x,K,_⟩:=h.xO e
    grind
  show BA (MC s.len z)=[];rw[this];rfl
 | some a=>
  refine⟨by simp[BA,JO],λj v J=> ?_⟩;have y:j<s.len:=by
   have:=(List.getElem?_eq_some_iff.1 J).1;simpa[BA,JO]using this
  rw[Lq (Zf z y)]at J;cases J;obtain⟨x,K,O⟩:=h.xO y
  grind
def Qq.oldB16{w w':World}{s:Ac}{z:Nat->Bool}(h:PY w .bool s z)(he:Ext AR w w'):PY w' .bool s z:=
 ⟨h.1,h.2.1,λj J=>by
  obtain⟨x,h1,h2,y⟩:=h.2.2 j J;exact⟨x,h1,λi v K=>he.cell (h2 i v K) λf=>f,y⟩⟩
def Vq(S:HS)(l:List Int):Int:=cP λp=>decide (0<S.own p/\S.own p∈l)
def BS.gT{S:HS}{fl:Int->Bool}(hI:BS S fl){id:Int}{x:Nat×SI}(j:S.sp id=some x)(p:Int):S.own p=id↔x.2.base/8192<=p/\p<x.2.base/8192+x.2.AA:=by
 have h0:=hI.sp id x j;refine⟨λe=> ?_,λh=>h0.2.2.2.2 p h.1 h.2⟩;obtain⟨_,_,_,y,v,h1,h2⟩:=hI.ow p (by omega)
 grind
def nJ{S:HS}{fl:Int->Bool}(hI:BS S fl)(hk:KG S){id:Int}{x:Nat×SI}(j:S.sp id=some x){l:List Int}(v:id∉l):Vq S (l++[id])=Vq S l+x.2.AA/\0<=x.2.base/8192/\x.2.base/8192+x.2.AA<=34359738368:=by
 have h0:=hI.sp id x j;have b0:0<=x.2.base/8192/\x.2.base/8192+x.2.AA<=34359738368:=by
  have y:=h0.2.2.2.2 (x.2.base/8192) (Int.le_refl _) (by omega);have J:=h0.2.2.2.2 (x.2.base/8192+x.2.AA-1) (by omega) (by omega);have g1:=hk.tv.Kl _ (hI.ow _ (by omega:0<S.own (x.2.base/8192))).1;have g2:=hk.tv.Kl _ (hI.ow _ (by omega:0<S.own (x.2.base/8192+x.2.AA-1))).1;omega
 refine⟨?_,b0⟩;unfold Vq;rw[RH (f:=λp=>decide (0<S.own p/\S.own p∈l)) (g:=inr (x.2.base/8192) x.2.AA),VB b0.1 (by omega) b0.2]
 .intro p;rw[Bool.eq_iff_iff,Bool.or_eq_true,decide_eq_true_iff,decide_eq_true_iff,Ai,<-hI.gT j p,List.mem_append,List.mem_singleton];constructor
  .rintro⟨h1,h2|h2⟩
   .exact .inl ⟨h1,h2⟩
   .exact .inr h2
  .rintro(⟨h1,h2⟩|h2)
   .exact⟨h1,.inl h2⟩
   .exact⟨by omega,.inr h2⟩
 .intro p a b;have a:=of_decide_eq_true a;rw[Ai,<-hI.gT j p]at b;rw[b]at a;exact v a.2
def sR{S:HS}(hI:BS S no){l:List Int}(h: ∀n,n∈l↔S.sp n≠none):Vq S l=S.AA:=by
 rw[hI.pg];refine aH λp _ _=> ?_;rw[decide_eq_decide];refine⟨λh=>h.1,λh0=>⟨h0,(h _).2 ?_⟩⟩;obtain⟨_,_,_,x,j,_⟩:=hI.ow p h0;rw[j];exact λe=>by cases e
section
variable{E:Env}{h:Nat}{S:HS}{um:kB}{g:RG}{Z:List Pr}{w:World}
def dM{R:List Pr}(H:Sat (Cells h E.Ab (Dh g.m g.t g.f g.sl S.hint g.v)::R) w):w.cell? ((Addr.mk h 0 none).add 8259)=some (.slice g.sl.base g.sl.len g.sl.cap):=
 H.cell (o:=0) (m:=8259) (by rw[Nat.zero_add];exact Yg g.m g.t g.f g.sl S.hint g.v 1)
def xD{R:List Pr}(H:Sat (Cells h E.Ab (Dh g.m g.t g.f g.sl S.hint g.v)::R) w):w.cell? ((Addr.mk h 0 none).add 1)=some (.pointer (some ⟨g.t,0,none⟩)):=
 H.cell (o:=0) (m:=1) (by rw[Nat.zero_add];exact rh_1 g.m g.t g.f g.sl S.hint g.v)
def Nx{R:List Pr}{sl:Ac}{L:List (Int×Nat)}(H:Sat (Row E.AZ 2 sl (Ao KA L)::R) w):L.length=sl.len:=(H.Gb (by decide) Bz).1
def TH(H:Sat (FD E h S um g++Z) w)(hI:dL S g)(aA:g.L.length<1099511627776){id:Int}{K:Int->World->Prop}(v:S.sp id=none->K (-1) w)(J: ∀(i q:Nat),g.L[i]? =some (id,q)->K i w):
  F.FK E (some ⟨h,0,none⟩) id K w:=by
 unfold F.FK;have hl:=Nx (H.front 4 rfl);refine AJ (λst w'=>w'=w/\ ∃i:Nat,st.1=(i:Int)/\i<=g.L.length/\ ∀(j q:Nat),j<i->g.L[j]? ≠some (id,q)) (λst _=>((g.L.length:Int)-st.1).toNat) ⟨rfl,0,rfl,Nat.zero_le _,λj q hj=>by omega⟩ ?_;rintro⟨i',u⟩ _ w2 ⟨rfl,i,hi,aE,aF⟩;dsimp only at hi⊢;subst hi;refine AF ⟨g.sl,dM H,AB (λO=>AF ⟨g.sl,dM H,?_⟩) λaD=> ?_⟩
 .obtain⟨x,T⟩: ∃x,g.L[i]? =some x:=⟨_,List.getElem?_eq_getElem (by omega)⟩;obtain⟨b,Y⟩:=(H.front 4 rfl).FY (by decide) Bz (i:=i) (by omega);rw[Y];refine AF ⟨⟨by omega,O⟩,x.1,?_,BI (λe=>J i x.2 (by grind)) λe=> ?_⟩
  .have:=(H.front 4 rfl).Bp Bz Y T (j:=0) rfl
   grind
  .rw[AM (n:=(i:Int)+1)];refine⟨⟨rfl,i+1,by omega,by omega,λj q hj hq=> ?_⟩,by omega⟩
   grind
 .refine v ?_;cases hs:S.sp id with
  | none=>rfl
  | some y=>
   have:=(hI.mem id).2 (by grind);obtain⟨x,T,e⟩:=List.mem_map.1 this;obtain⟨j,hj⟩:=List.mem_iff_getElem?.1 T
   grind
def TI(H:Sat (FD E h S um g++Z) w)(hI:dL S g)(v:g.L.length<1099511627776){id:Int}{K:Option Addr->World->Prop}(J:S.sp id=none->K none w)(O: ∀(i q:Nat),g.L[i]? =some (id,q)->K (some ⟨q,0,none⟩) w):
  F.Aq E (some ⟨h,0,none⟩) id K w:=by
 unfold F.Aq T0.Aq;have hl:=Nx (H.front 4 rfl);refine TH H hI v (λhs=>AS rfl (J hs)) λi q y=> ?_;have Y:=(List.getElem?_eq_some_iff.1 y).1;obtain⟨b,T⟩:=(H.front 4 rfl).FY (by decide) Bz (i:=i) (by omega);refine AO (decide_eq_false (by omega)) (AF ⟨g.sl,dM H,?_⟩)
 try dsimp only
 rw[T];refine AF ⟨⟨by omega,by omega⟩,some ⟨q,0,none⟩,?_,O i q y⟩;have:=(H.front 4 rfl).Bp Bz T y (j:=1) rfl;rw[add_add];exact this
def kC{R:List Pr}(H:Sat (Ad (rsR E S.sp um) g.L::R) w)(hI:dL S g){i:Nat}{x:Int×Nat}(j:g.L[i]? =some x): ∃y R',S.sp x.1=some y/\Sat (A4 E x.2 y.2 (um x.1).1 (um x.1).2::R') w:=by
 have hm:x.1∈g.L.map (·.1):=List.mem_map.2 ⟨x,List.mem_of_getElem? j,rfl⟩;obtain⟨y,v⟩:=Option.ne_none_iff_exists'.1 ((hI.mem x.1).1 hm);have h1:=H.HA j;have e:rsR E S.sp um x=A4 E x.2 y.2 (um x.1).1 (um x.1).2:=by unfold rsR;rw[v]
 grind
def nK(H:Sat (Lg E h S um::Z) w)(v:BS S no)(hk:KG S){a:Int}(a0:0<=a)(a1:a<18446744073709551616){K:Int->World->Prop}(hK: ∀w',Sat (Lg E h S um::Z) w'->K (S.own (a/8192)) w'):F.HB E (some ⟨h,0,none⟩) a K w:=by
 obtain⟨g,hI,H⟩:=Sat.Ie.1 H;unfold F.HB;have hl:=Nx (H.front 4 rfl);have aJ:=(H.front 4 rfl).Gb (by decide) Bz;have aF:u64 (Int.tdiv a 8192)=a/8192:=by rw[Int.tdiv_eq_ediv_of_nonneg a0,AI]
 rw[aF];generalize hP:a/8192=P at *
 have aO:0<=P:=by omega
 have aP:P<18446744073709551616:=by omega
 refine AJ (λst w'=>Sat (FD E h S um g++Z) w'/\ ∃i:Nat,st.1=(i:Int)/\i<=g.L.length/\ ∀(j:Nat) (x:Int×Nat),j<i->g.L[j]? =some x->S.own P≠x.1) (λst _=>((g.L.length:Int)-st.1).toNat) ⟨H,0,rfl,Nat.zero_le _,λj q hj=>by omega⟩ ?_;rintro⟨i',u⟩ _ w2 ⟨O,i,hi,aR,aS⟩;dsimp only at hi⊢;subst hi;refine AF ⟨g.sl,dM O,AB (λT=>AF ⟨g.sl,dM O,?_⟩) λaE=> ?_⟩
 .obtain⟨x,hx⟩: ∃x,g.L[i]? =some x:=⟨_,List.getElem?_eq_getElem (by omega)⟩;obtain⟨b,hb⟩:=(O.front 4 rfl).FY (by decide) Bz (i:=i) (by omega);rw[hb];have Hd:=O.drew;obtain⟨y,R',hy,h1⟩:=kC (Hd.front 5 rfl) hI hx;obtain⟨ul,ml,s1,s2,lk,aQ,h2⟩:=Sat.Hb.1 h1;have aA:=v.sp x.1 y hy;have Y:=v.gT hy P;have e1:=aA.2.2.2.2 (y.2.base/8192) (Int.le_refl _) (by omega);have e2:=aA.2.2.2.2 (y.2.base/8192+y.2.AA-1) (by omega) (by omega);have g1:=hk.tv.Kl _ (v.ow _ (by omega:0<S.own (y.2.base/8192))).1;have g2:=hk.tv.Kl _ (v.ow _ (by omega:0<S.own (y.2.base/8192+y.2.AA-1))).1;refine AF ⟨⟨by omega,T⟩,some ⟨x.2,0,none⟩,?_,?_⟩
  .have:=(O.front 4 rfl).Bp Bz hb hx (j:=1) rfl;rw[add_add];exact this
  refine Aj (λst w'=>(st.1=true↔S.own P=x.1)/\Sat (FD E h S um g++Z) w') ⟨by decide,AF ⟨_,h2.Aa rfl,AB (λaE=>⟨by decide,AF ⟨_,h2.Aa rfl,AF ⟨_,h2.cell rfl,?_,Hd⟩⟩⟩) λaM=>⟨?_,Hd⟩⟩⟩ ?_
  .show decide _=true↔_;rw[AI (n:=P-y.2.base/8192),decide_eq_true_iff,Y];omega
  .grind
  rintro⟨t,u⟩ _ aH ⟨ht,J⟩;dsimp only at ht⊢;refine AP (λe=>AF ⟨g.sl,dM J,?_⟩) λe=> ?_
  .try dsimp only
   rw[hb];refine AF ⟨⟨by omega,T⟩,x.1,?_,?_⟩
   .have:=(J.front 4 rfl).Bp Bz hb hx (j:=0) rfl
    grind
   .rw[<-ht.1 e];exact hK aH (Sat.Ie.2 ⟨g,hI,J⟩)
  .rw[AM (n:=(i:Int)+1)];refine⟨⟨J,i+1,by omega,by omega,λj z hj hz=> ?_⟩,by omega⟩
   grind
 .have h0:S.own P=0:=by
   have aT:=v.o0 P;by_cases hp:0<S.own P
   .obtain⟨_,_,_,y,hy,_⟩:=v.ow P hp;obtain⟨x,hx,e⟩:=List.mem_map.1 ((hI.mem (S.own P)).2 (by grind));obtain⟨j,hj⟩:=List.mem_iff_getElem?.1 hx
    grind
   .omega
  have:=hK w2 (Sat.Ie.2 ⟨g,hI,O⟩)
  grind
end
def kD{a b m:Iv}(v:Ok a)(J:Ok b)(hm:Ok m)(h1: ∀p,mem a p->mem m p)(h2: ∀p,mem b p->mem m p)(hd: ∀p,mem a p-> ¬mem b p)(j: ∀p,mem m p->p<34359738368):HE a+HE b<=HE m:=by
 rw[<-VA v (f:=N8 a) (λp=>Bh.symm) λp hp=>j p (h1 p (Bh.1 hp)),<-VA J (f:=N8 b) (λp=>Bh.symm) λp hp=>j p (h2 p (Bh.1 hp)),<-VA hm (f:=N8 m) (λp=>Bh.symm) λp hp=>j p (Bh.1 hp),
  <-RH (h:=λp=>N8 a p||N8 b p) (λp=>rfl) λp x y=>hd p (Bh.1 x) (Bh.1 y)]
 refine X7 λp hp=>Bh.2 ?_;rcases Bool.or_eq_true_iff.1 hp with h|h
 .exact h1 p (Bh.1 h)
 .exact h2 p (Bh.1 h)
def WH.Yd{V V':VS}(h:WH V){a n:Int}(Y:0<n)(h0:512<=a)(T:a+n<=34359738368)(j:V'.laid=D9 V.laid a (a+n))(v:V'.ready=V.ready)(y:V'.rel=V.rel)(K:V'.wd=V.wd):WH V':=by
 have hm:=Eo h.ME (a:=a) (b:=a+n) (by omega) (by omega) (by omega);have O:=(Ft h.ME (a:=a) (b:=a+n) (by omega) (by omega) (by omega)).1;have J: ∀p,mem V'.laid p->512<=p/\p<34359738368:=λp hp=>by
  rw[j,hm]at hp;rcases hp with hp|hp
  .exact h.Kl p hp
  .omega
 refine⟨by grind,by rw[v];exact h.Pm,by rw[y];exact h.V3,λp hp=> ?_,λp hp=> ?_,λp hp=> ?_,J,λp i a b hp=> ?_,?_⟩
 .rw[j,hm];rw[v]at hp;exact .inl (h.rl p hp)
 .rw[j,hm];rw[y]at hp;exact .inl (h.el p hp)
 .rw[v]at hp;rw[y];exact h.re p hp
 .rw[v]at hp;rw[K];exact h.clean p i a b hp
 .rw[v,y,j];exact kD h.Pm h.V3 O (λp hp=>(hm p).2 (.inl (h.rl p hp))) (λp hp=>(hm p).2 (.inl (h.el p hp))) h.re λp hp=>(J p (by rw[j];exact hp)).2
def WH.QK{V:VS}(h:WH V){a n:Int}(h0:0<=a)(hn:0<n)(Y:a+n<=34359738368)(j: ∀p,a<=p->p<a+n->mem V.laid p):WH (JB V a n):=by
 have hm:=Eo h.Pm (a:=a) (b:=a+n) (by omega) (by omega) (by omega);have y:=(Ft h.Pm (a:=a) (b:=a+n) (by omega) (by omega) (by omega)).1;have v:=λp=>FH (l:=V.rel) (a:=a) (b:=a+n) (n:=p) (by omega);have K: ∀p,mem (JB V a n).ready p->mem V.laid p:=λp hp=>by
  rcases(hm p).1 hp with g|g
  .exact h.rl p g
  .exact j p g.1 g.2
 have r2: ∀p,mem (JB V a n).rel p->mem V.laid p:=λp hp=>h.el p ((v p).1 hp).1;have O: ∀p,mem (JB V a n).ready p-> ¬mem (JB V a n).rel p:=λp hp T=>by
  have g2:=(v p).1 T;rcases(hm p).1 hp with g|g
  .exact h.re p g g2.1
  omega
 have J:Ok (JB V a n).rel:=G8 h.V3 (by omega);refine⟨h.ME,y,J,K,r2,O,h.Kl,λp i a1 b1 hp=> ?_,kD y J h.ME K r2 O λp hp=>(h.Kl p hp).2⟩;show(if a<=p/\p<a+n/\N8 V.rel p=true then IN V a p else V.wd p i)=0;have g:=λx=>hp ((hm p).2 x);rw[if_neg λx=>g (.inr ⟨x.1,x.2.1⟩)];exact h.clean p i a1 b1 λx=>g (.inl x)
def Ut.take{V:TV}(h:Ut V){x n:Int}(J:0<n):Ut (V.take x n):=by
 obtain⟨j,f1,f2⟩:=h.cf;obtain⟨v,y,r2⟩:=h.cr;refine⟨λp hp=>h.fi p (PR.1 hp).1,λp hp=>PR.2 ⟨h.rf p (RL.1 hp).1,(RL.1 hp).2⟩,h.Kl,h.ci,⟨EI j x (x+n),G8 f1 (by omega),λp=> ?_⟩,⟨EI v x (x+n),G8 y (by omega),λp=> ?_⟩⟩
 .rw[FH (by omega),f2,PR]
 .rw[FH (by omega),r2,RL]
def QT{f:Int->Bool}{x n p:Int}:(f p||inr x n p)=true↔f p=true∨(x<=p/\p<x+n):=by
 rw[Bool.or_eq_true_iff,Ai]
def Ut.grow{V:TV}(h:Ut V){c n:Int}(y:0<=c)(J:0<n)(v:c+n<=67108864):Ut (V.grow c n):=by
 obtain⟨li,i1,i2⟩:=h.ci;obtain⟨K,f1,f2⟩:=h.cf;obtain⟨O,j,r2⟩:=h.cr;have key: ∀{l:Iv} {f:Int->Bool},Ok l->(∀p,mem l p↔f p=true)-> ∃l',Ok l'/\ ∀p,mem l' p↔(f p||inr (c*512) (n*512) p)=true:=λ{l f} o g=>
  ⟨D9 l (c*512) (c*512+n*512),(Ft o (by omega) (by omega) (by omega)).1,λp=>by rw[Eo o (by omega) (by omega) (by omega),g,QT]⟩
 refine⟨λp hp=> ?_,λp hp=> ?_,λp hp=> ?_,key i1 i2,key f1 f2,key j r2⟩
 .exact QT.2 ((QT.1 hp).imp_left (h.fi p))
 .exact QT.2 ((QT.1 hp).imp_left (h.rf p))
 .rcases QT.1 hp with g|g
  .exact h.Kl p g
  .omega
section
variable{S:HS}
def gU(hk:Ut S.T){q:Int}(h:HK S.T 1 q):Q3 (filled S.T q):=by
 have h1:=h.1;have h2:=h.2.1;refine⟨by show 0<=q/64*64;omega,by show q/64*64<_;omega,by show q/64*64 %64=0;omega,λi j=> ?_,λi j=> ?_⟩
 .show(decide (i<64)&&_)=false
  grind
 .have j:(decide (i<64)&&S.T.rl (q/64*64+i))=true:=j;show(decide (i<64)&&S.T.fr (q/64*64+i))=true;rw[Bool.and_eq_true_iff]at j⊢;exact⟨j.1,hk.rf _ j.2⟩
def KG.fill(h:KG S){i:Nat}{q:Int}(y:HK S.T 1 q):KG (S.fill i q):=by
 refine⟨h.tv.take (by decide),h.vv,λj v=> ?_,h.ok,h.fx⟩;show Q3 (if j=i then filled S.T q else S.ca j);by_cases e:j=i
 .rw[if_pos e];exact gU h.tv y
 .rw[if_neg e];exact h.ci j v
def Kb.ok{S1:HS}{i:Nat}(h:Kb S i S1)(hk:KG S):KG S1:=by
 rcases h with ⟨_,q,j,rfl⟩|⟨_,rfl⟩
 .exact hk.fill j
 .exact hk
def Iu.ok{S1:HS}{p n:Int}(h:Iu S p n S1)(hk:KG S):KG S1:=by
 rcases h with ⟨_,rfl⟩|⟨i,_,_,_,hf,_⟩
 .exact hk
 .exact hf.ok hk
def gV{C:CS}(h:Q3 C)(k n:Nat):Q3 (C.alloc k n):=by
 refine⟨h.b0,h.b1,h.b64,λi j=> ?_,λi j=> ?_⟩
 .show(C.has i&&_)=false;rw[h.hz i j];rfl
 .have j:(C.rel i&& !(decide (k<=i)&&decide (i<k+n)))=true:=j;show(C.has i&& !(decide (k<=i)&&decide (i<k+n)))=true;rw[Bool.and_eq_true_iff]at j⊢;exact⟨h.rh i j.1,j.2⟩
def KG.JF(h:KG S){i k n:Nat}(v:i<64):KG (S.JF i k n):=by
 refine⟨h.tv,h.vv,λj y=> ?_,h.ok,h.fx⟩;show Q3 (if j=i then(S.ca i).alloc k n else S.ca j);by_cases e:j=i
 .rw[if_pos e];exact gV (h.ci i v) k n
 .rw[if_neg e];exact h.ci j y
def KG.Fp(h:KG S){page n:Int}(j:0<n):KG (S.Fp page n):=⟨h.tv.take j,h.vv,h.ci,h.ok,h.fx⟩
def cH{V:VS}(h:WH V){hint n a:Int}(v:0<n)(j:It V hint n a):Sr V.laid a n:=by
 rcases j with ⟨p,r,_,hf,rfl⟩|⟨_,j|⟨_,j⟩⟩
 .exact hf
 .exact j.2.1.fits h.ME v j.2.2
 .exact j.2.1.fits h.ME v j.2.2
end
section
variable{V:VS}
def O6{l:Iv}{j n a y:Int}(h:Mk l j n a)(v:Mk l j n y):a=y:=by
 rcases Int.lt_trichotomy a y with g|g|g
 .obtain⟨m,m1,J,K⟩:=v.first a h.mul h.low h.fr g;exact absurd K (h.free m m1 J)
 .exact g
 .obtain⟨m,m1,J,K⟩:=h.first y v.mul v.low v.fr g;exact absurd K (v.free m m1 J)
def Re{l:Iv}{j n a:Int}(h:X3 l j n a)(v:Lc l j n):False:=by
 rcases v with g|⟨y,g1,g2⟩
 .have:=h.1;omega
 .rw[O6 h.2.1 g1]at h;exact g2 h.2.2
def cI{hint n a K:Int}(h:It V hint n a)(O:It V hint n K):a=K:=by
 rcases h with ⟨p,r,h1,h2,J⟩|⟨h1,h2⟩
 .rcases O with ⟨T,Y,v,j,y⟩|⟨v,_⟩
  .rw[h1]at v;cases v;rw[J,y]
  .exact absurd h2 (v p r h1)
 .rcases O with ⟨T,Y,v,j,y⟩|⟨_,j⟩
  .exact absurd j (h1 T Y v)
  .rcases h2 with h2|⟨h2,J⟩
   .rcases j with j|⟨j,_⟩
    .exact O6 h2.2.1 j.2.1
    .exact(Re h2 j).elim
   .rcases j with j|⟨_,y⟩
    .exact(Re j h2).elim
    .exact O6 J.2.1 y.2.1
def gW{hint n a:Int}(h:It V hint n a)(j:M5 V hint n):False:=by
 rcases h with ⟨p,r,h1,h2,_⟩|⟨_,h|⟨_,h⟩⟩
 .exact j.1 p r h1 h2
 .exact Re h j.2.1
 .exact Re h j.2.2
end
def Ny{V:TV}{n p j:Int}(h:HK V n p)(v:HK V n j):p=j:=Int.le_antisymm (h.2.2.2 j v.2.2.1) (v.2.2.2 p h.2.2.1)
section
variable{S S1 S2:HS}
def Kb.uniq{i:Nat}(h:Kb S i S1)(K:Kb S i S2):S1=S2:=by
 rcases h with ⟨he,q,O,rfl⟩|⟨y,rfl⟩
 .rcases K with ⟨_,J,v,rfl⟩|⟨j,rfl⟩
  .rw[Ny O v]
  .rcases j with j|j
   .exact absurd he j
   .have:=j q;rw[O.2.2.1 q (Int.le_refl _) (by omega)]at this;cases this
 .rcases K with ⟨he,J,v,rfl⟩|⟨j,rfl⟩
  .rcases y with y|y
   .exact absurd he y
   .have:=y J;rw[v.2.2.1 J (Int.le_refl _) (by omega)]at this;cases this
  .rfl
def Iu.uniq{p n:Int}(h:Iu S p n S1)(K:Iu S p n S2):S1=S2:=by
 rcases h with ⟨J,rfl⟩|⟨i,O,hp,J,hf,_⟩
 .rcases K with ⟨_,rfl⟩|⟨i,O,hp,v,hf,_⟩
  .rfl
  .exact absurd ⟨by omega,by omega,v⟩ J
 .rcases K with ⟨v,rfl⟩|⟨j,Y,T,v,y,_⟩
  .exact absurd ⟨by omega,by omega,J⟩ v
  .obtain rfl:i=j:=by omega
   exact hf.uniq y
def dJ.Nz{p n page:Int}(h:dJ S p n page S2)(K:Iu S p n S1): ∃x,HK S1.T n x/\page=x/\S2=S1.Fp x n:=by
 rcases h with ⟨O,i,k,hi,hp,hn,hf,hr,_,_,rfl,rfl⟩|⟨O,ht,y,rfl⟩
 .rcases K with ⟨J,rfl⟩|⟨j,hj,aA,J,v,Y⟩
  .omega
  .obtain rfl:i=j:=by omega
   rw[hf.uniq v]at hr
   grind
 .rw[ht.uniq K]at y⊢
  grind
def dJ.uniq{p n a b:Int}(h:dJ S p n a S1)(T:dJ S p n b S2):a=b/\S1=S2:=by
 rcases h with ⟨O,i,k,hi,hp,hn,hf,hr,hl,_,rfl,rfl⟩|⟨O,J,v,rfl⟩
 .rcases T with ⟨Y,j,k',hj,aF,aE,y,aH,aC,_,rfl,rfl⟩|⟨Y,J,v,rfl⟩
  .obtain rfl:i=j:=by omega
   obtain rfl:=hf.uniq y
   grind
  .exact(dJ.Nz (.inl ⟨O,i,k,hi,hp,hn,hf,hr,hl,‹_›,rfl,rfl⟩) J).elim λx K=>by
    rw[Ny v K.1];grind
 .obtain⟨x,K,rfl,rfl⟩:=T.Nz J;rw[Ny v K];grind
def aK.uniq{n:Int}(h:aK S n S1)(j:aK S n S2):S1=S2:=by
 obtain⟨_,a,v,rfl⟩:=h;obtain⟨_,b,y,rfl⟩:=j;rw[cI v y]
def aK.not{n:Int}(h:aK S n S1)(j:SJ S n S2):False:=by
 obtain⟨y,a,v,rfl⟩:=h;rcases j with ⟨r,h1,_⟩|⟨_,h1,_⟩
 .grind
 .exact gW v h1
def SJ.uniq{n:Int}(h:SJ S n S1)(y:SJ S n S2):S1=S2:=by
 rcases h with ⟨r,h1,rfl⟩|⟨h0,h1,rfl⟩
 .rcases y with ⟨J,v,rfl⟩|⟨j,_,_⟩
  .grind
  .exact absurd h1 (j r)
 .rcases y with ⟨J,v,rfl⟩|⟨j,_,rfl⟩
  .grind
  .rfl
def VI.uniq{p n a b:Int}(h:VI S p n a S1)(y:VI S p n b S2):a=b/\S1=S2:=by
 rcases h with h|⟨S0,aB,ht,T,hg,hf,rfl⟩
 .rcases y with y|⟨T0,O,v,j,K,J,rfl⟩
  .exact h.uniq y
  .obtain⟨x,Y,_⟩:=h.Nz v;exact absurd Y.2.2.1 (j x)
 .rcases y with y|⟨T0,O,v,j,K,J,rfl⟩
  .obtain⟨x,Y,_⟩:=y.Nz ht;exact absurd Y.2.2.1 (T x)
  .obtain rfl:=ht.uniq v;obtain rfl:=hg.uniq K;rw[Ny hf J];grind
def Made.uniq{T:HS}{page n:Int}(h:Made S page n S1)(v:Made S page n T):S1=T:=by
 rcases h with ⟨h1,rfl⟩|⟨h1,_,rfl⟩
 .rcases v with ⟨_,rfl⟩|⟨j,_,_⟩
  .rfl
  .exact absurd h1 j
 .rcases v with ⟨j,_⟩|⟨j,_,rfl⟩
  .exact absurd j h1
  .rfl
def Found.uniq{p n a b:Int}(h:Found S p n a S1)(y:Found S p n b S2):a=b/\S1=S2:=by
 obtain⟨T,J,hm⟩:=h;obtain⟨K,v,j⟩:=y;obtain⟨rfl,rfl⟩:=J.uniq v;exact⟨rfl,hm.uniq j⟩
def Found.not{p n a:Int}(h:Found S p n a S1)(h':RM S p n S2):False:=by
 obtain⟨T,v,hm⟩:=h;rcases h' with ⟨S0,hs,J,hg⟩|⟨T',page,r,j,aD,hr,_⟩
 .rcases v with v|⟨O,Y,j,K,y,aB,rfl⟩
  .obtain⟨x,hx,_⟩:=v.Nz hs;exact J x hx.2.2.1
  .obtain rfl:=j.uniq hs;exact y.not hg
 .obtain⟨rfl,rfl⟩:=v.uniq j;rcases hm with ⟨h1,_⟩|⟨_,h1,_⟩
  .grind
  grind
def RM.uniq{p n:Int}(h:RM S p n S1)(h':RM S p n S2):S1=S2:=by
 rcases h with ⟨S0,hs,Y,hg⟩|⟨T,page,r,ht,aI,hr,rfl⟩
 .rcases h' with ⟨aC,J,y,v⟩|⟨T',K,r',j,O,aE,_⟩
  .obtain rfl:=hs.uniq J;exact hg.uniq v
  .exfalso;rcases j with j|⟨T0,aD,j,y,v,_,_⟩
   .obtain⟨x,hx,_⟩:=j.Nz hs;exact Y x hx.2.2.1
   .obtain rfl:=j.uniq hs;exact v.not hg
 .rcases h' with ⟨aC,J,y,v⟩|⟨T',K,r',j,O,aE,rfl⟩
  .exfalso;rcases ht with ht|⟨T0,aD,j,Y,hg,_,_⟩
   .obtain⟨x,hx,_⟩:=ht.Nz J;exact y x hx.2.2.1
   .obtain rfl:=j.uniq J;exact hg.not v
  .obtain⟨rfl,rfl⟩:=ht.uniq j
   grind
def Next.uniq{a b:Int}{X Y:FX}(h:Next S a X)(v:Next S b Y):a=b/\X=Y:=by
 rcases h with ⟨h1,rfl,rfl⟩|⟨x,r,h1,rfl,rfl⟩
 .rcases v with ⟨_,rfl,rfl⟩|⟨x,r,j,_⟩
  .grind
  grind
 .rcases v with ⟨j,_⟩|⟨J,y,j,rfl,rfl⟩
  .grind
  grind
def sS{n:Int}(j:1<=n)(v:n<=134217728):IF n %512=0/\n<=IF n/\IF n<=134217728/\IF n<n+512:=by unfold IF;omega
def nL(hI:BS S no)(hk:KG S){n a:Int}(J:1<=n)(K:n<=134217728)(y:It S.V S.hint (IF n) a)(a0:0<=a):
  BS (S.grown {S.V with rf:=S.V.rf.tail,pl:=S.V.pl.tail,laid:=D9 S.V.laid a (a+IF n)} a (IF n)) no/\KG (S.grown {S.V with rf:=S.V.rf.tail,pl:=S.V.pl.tail,laid:=D9 S.V.laid a (a+IF n)} a (IF n))/\
   MD (S.grown {S.V with rf:=S.V.rf.tail,pl:=S.V.pl.tail,laid:=D9 S.V.laid a (a+IF n)} a (IF n)).T.fr a n/\a %512=0/\a+IF n<=34359738368/\ ∀p,a<=p->p<a+IF n->S.T.LM p=false:=by
 obtain⟨O,u2,u3,u4⟩:=sS J K;have hf:=cH hk.vv (by omega) y;obtain⟨f1,f2,f3,f4⟩:=hf;have j: ∀p,a<=p->p<a+IF n->S.T.LM p=false:=λp h1 h2=>Gc λhp=>(Di hk.vv.ME (by omega)).1 f4 p h1 h2 ((hI.la p).2 hp);have v:512<=a:=by omega
 refine⟨hI.grown hk a0 (by omega) f3 f1 O j rfl rfl,⟨hk.tv.grow (by omega) (by omega) (by omega),hk.vv.Yd (by omega) v f3 rfl rfl rfl rfl,hk.ci,(Ft hk.ok (a:=a/512) (b:=(a+IF n)/512) (by omega) (by omega) (by omega)).1,hk.fx⟩,λm q1 Y=> ?_,f1,f3,j⟩;show(S.T.fr m||inr (a/512*512) (IF n/512*512) m)=true;exact QT.2 (.inr (by omega))
def dJ.inv{p n page:Int}(h:dJ S p n page S1)(hI:BS S no)(hk:KG S)(n0:1<=n):BS S1 (inr page n)/\KG S1/\0<=page/\page+n<=34359738368:=by
 rcases h with ⟨T,i,k,y,hp,hn,hf,Y,hl,K,rfl,rfl⟩|⟨T,O,j,rfl⟩
 .have h1:=hf.inv hI hk y;have v:=hf.ok hk;have h2:=h1.JF v y Y K;have e:((n.toNat:Nat):Int)=n:=by omega
  rw[e]at h2;have J:=v.ci i y;refine⟨h2,v.JF y,?_,?_⟩
  .have:=J.b0;omega
  .have:=J.b1;have:=J.b64;omega
 .have h1:=O.inv hI hk;have v:=O.ok hk;exact⟨h1.Fp v j.2.2.1,v.Fp (by omega),j.1,j.2.1⟩
end
end Go.Sh

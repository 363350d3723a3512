/- What the law's functions do. No further condition. -/
import Derived.Test.YtgcgcligdjnmaaaGreatDoorK
import Derived.Test.YtgcgcligdjnmaaaGreatDoorR
import Derived.Test.YtgcgcligdjnmaaaGreatDoorC
import Derived.Test.YtgcgcligdjnmaaaGreatDoorA
import Derived.Test.YtgcgcligdjnmaaaGreatDoorY
import Derived.Test.YtgcgcligdjnmaaaGreatDoorH
import Derived.Test.YtgcgcligdjnmaaaGreatDoorL
set_option linter.all false
set_option maxRecDepth 50000
set_option maxHeartbeats 4000000
namespace Go.Sh
abbrev CL:=List (Int×Nat)
def parts(L:CL):List Value:=L.flatMap λc=>[.int .u64 c.1,.pointer (some ⟨c.2,0,none⟩)]
def OT(L:CL):(parts L).length=L.length*2:=by
 induction L with
 | nil=>rfl
 | cons x r ih=>show(parts r).length+1+1=_;grind
def WA(L M:CL):parts (L++M)=parts L++parts M:=by simp[parts]
def RQ: ∀(L:CL) {k:Nat} {x:Int×Nat},L[k]? =some x->(parts L)[k*2]? =some (.int .u64 x.1)/\(parts L)[k*2+1]? =some (.pointer (some ⟨x.2,0,none⟩))
 | y::r,0,x,h=>by have h:y=x:=Option.some.inj h;subst h;exact⟨rfl,rfl⟩
 | y::r,k+1,x,h=>by
  have:=RQ r h;have e:parts (y::r)= .int .u64 y.1:: .pointer (some ⟨y.2,0,none⟩)::parts r:=rfl
  grind
def WB(L:CL): ∀v∈parts L,v.oneCell'=true:=by
 intro v j;simp only[parts,List.mem_flatMap]at j;obtain⟨c,_,d⟩:=j;simp at d;rcases d with rfl|rfl<;>rfl
def Ui: ∀(L:CL) (k:Nat),(parts L).take (k*2)=parts (L.take k)
 | [],k=>by simp[parts]
 | y::r,0=>by simp[parts]
 | y::r,k+1=>by
  have e:parts (y::r)= .int .u64 y.1:: .pointer (some ⟨y.2,0,none⟩)::parts r:=rfl;rw[e,show(k+1)*2=k*2+1+1 by omega,List.take_succ_cons,List.take_succ_cons,Ui r k];rfl
def Uj: ∀(L:CL) (k:Nat),(parts L).drop (k*2)=parts (L.drop k)
 | [],k=>by simp[parts]
 | y::r,0=>by simp
 | y::r,k+1=>by
  have e:parts (y::r)= .int .u64 y.1:: .pointer (some ⟨y.2,0,none⟩)::parts r:=rfl;rw[e,show(k+1)*2=k*2+1+1 by omega,List.drop_succ_cons,List.drop_succ_cons,Uj r k];rfl
def posC:CL->Int->Nat
 | [],_=>0
 | c::r,n=>if c.1<n then posC r n+1 else 0
def Ll(L:CL):Prop:=L.Pairwise λa b=>a.1<b.1
def TB: ∀(L:CL) (n:Int),posC L n<=L.length
 | [],_=>Nat.le_refl _
 | c::r,n=>by simp only[posC];split;exact Nat.succ_le_succ (TB r n);omega
def IP: ∀{L:CL} {n:Int} {j:Nat} {c:Int×Nat},L[j]? =some c->j<posC L n->c.1<n
 | c::r,n,0,x,h,hj=>by
  have h:c=x:=Option.some.inj h;subst h;simp only[posC]at hj;grind
 | c::r,n,j+1,x,h,hj=>by
  simp only[posC]at hj;split at hj
  .exact IP (L:=r) h (by omega)
  .omega
def TC: ∀{L:CL} {n:Int} {c:Int×Nat},L[posC L n]? =some c->n<=c.1
 | c::r,n,x,h=>by
  simp only[posC]at h;split at h
  .exact TC (L:=r) h
  .have h:c=x:=Option.some.inj h
   grind
def PQ{L:CL}(hs:Ll L){n:Int}{j:Nat}{c:Int×Nat}(h:L[j]? =some c)(v:posC L n<=j):n<=c.1:=by
 have y:=(List.getElem?_eq_some_iff.1 h).1;have d:=List.getElem?_eq_getElem (show posC L n<L.length by omega);have h1:=TC d;rcases Nat.lt_or_eq_of_le v with h2|h2
 .have:=List.pairwise_iff_getElem.1 hs (posC L n) j (by omega) y h2
  grind
 grind
def Qf{L:CL}(hs:Ll L){n:Int}{c:Int×Nat}(v:c∈L)(O:c.1=n):L[posC L n]? =some c:=by
 obtain⟨j,d⟩:=List.mem_iff_getElem?.1 v;rcases Nat.lt_or_ge j (posC L n)with h|h
 .have:=IP d h;omega
 .have J:=(List.getElem?_eq_some_iff.1 d).1;rcases Nat.lt_or_eq_of_le h with h2|h2
  .have y:=List.getElem?_eq_getElem (show posC L n<L.length by omega);have:=TC y;have K:=List.pairwise_iff_getElem.1 hs (posC L n) j (by omega) J h2
   grind
  grind
def Ul(E:Env)(U G:Int->Bool)(c:Int×Nat):Pr:=Cells c.2 E.JD (flags 512 (λk=>U (c.1*512+k))++flags 512 (λk=>G (c.1*512+k)))
structure Um(l:Nat->Iv)(L:CL)(U G:Int->Bool):Prop where
 HT:Ll L
 Xp: ∀c∈L,0<=c.1/\c.1<67108864
 gA:Ok (l 0)
 Le:Ok (l 1)
 Ol:Ok (l 2)
 l0: ∀p,mem (l 0) p↔ ∃c∈L,c.1=p/512
 l1: ∀p,mem (l 1) p↔mem (l 0) p/\U p=false
 l2: ∀p,mem (l 2) p↔mem (l 0) p/\G p=true
def Ko(E:Env)(r:Nat)(s:Aa)(L:CL)(U G:Int->Bool):List Pr:=[Cells r E.Cw [.slice s.base s.len s.cap],Row E.Ay 2 s (parts L),Ad (Ul E U G) L]
def Gj(E:Env)(r:Nat)(l:Nat->Iv):Pr:=Ex λx:Aa×CL×(Int->Bool)×(Int->Bool)=>Jx (Um l x.2.1 x.2.2.1 x.2.2.2) (NB (Ko E r x.1 x.2.1 x.2.2.1 x.2.2.2))
def Sat.J0{E:Env}{r:Nat}{l:Nat->Iv}{Z:List Pr}{w:World}:Sat (Gj E r l::Z) w↔ ∃s L U G,Um l L U G/\Sat (Ko E r s L U G++Z) w:=by
 unfold Gj;rw[Sat.ex];constructor
 .rintro⟨x,h⟩;obtain⟨h1,h2⟩:=Sat.where.1 h;exact⟨_,_,_,_,h1,Sat.star.1 h2⟩
 .rintro⟨s,L,U,G,h1,h2⟩;exact⟨(s,L,U,G),Sat.where.2 ⟨h1,Sat.star.2 h2⟩⟩
def Mo{L:CL}(hs:Ll L)(d: ∀c∈L,0<=c.1/\c.1<67108864):L.length<=67108864:=by
 have key: ∀(L:CL) (B:Int),Ll L->(∀c∈L,B<=c.1/\c.1<67108864)->B<=67108864->(L.length:Int)<=67108864-B:=by
  intro L
  induction L with
  | nil=>grind
  | cons x r ih=>
   intro B hs d v;have h1:=d x (by simp);have hp:=List.pairwise_cons.1 hs;have:=ih (x.1+1) hp.2 (λc j=>⟨by grind,(d c (by simp[j])).2⟩) (by omega)
   grind
 have:=key L 0 hs d (by decide);omega
section
variable{E:Env}{w:World}{Z:List Pr}{r:Nat}{s:Aa}{L:CL}{U G:Int->Bool}{l:Nat->Iv}
def LL(H:Sat (Ko E r s L U G++Z) w):s.len=L.length:=by
 have:=(H.front 1 rfl).Du;rw[OT]at this;omega
def Ey(H:Sat (Ko E r s L U G++Z) w):w.cell? (Addr.mk r 0 none)=some (.slice s.base s.len s.cap):=H.Ah rfl
def Kc(H:Sat (Ko E r s L U G++Z) w){k:Nat}{x:Int×Nat}(hk:L[k]? =some x): ∃a,s.base=some a/\k<s.len/\w.cell? (a.add (k*2))=some (.int .u64 x.1)/\w.cell? ((a.add (k*2)).add 1)=some (.pointer (some ⟨x.2,0,none⟩)):=by
 have h1:=H.front 1 rfl;have d:=h1.own;obtain⟨g1,g2⟩:=RQ L hk;have hlen:=LL H;have v:=(List.getElem?_eq_some_iff.1 hk).1;obtain⟨b,j⟩:=d.Eo (by omega);refine⟨_,j,by omega,d.cell j g1,?_⟩;rw[add_add];exact d.cell j g2
def Mp(H:Sat (Ko E r s L U G++Z) w){k:Nat}{x:Int×Nat}(hk:L[k]? =some x):
  Sat (Ul E U G x::Ad (Ul E U G) (L.eraseIdx k)::Cells r E.Cw [.slice s.base s.len s.cap]::Row E.Ay 2 s (parts L)::Z) w:=
 (H.front 2 rfl).GG hk
def uP(x:Int×Nat):Win (flags 512 (λk=>U (x.1*512+k))++flags 512 (λk=>G (x.1*512+k))) 0 λk=>U (x.1*512+k):=by
 refine⟨by simp[Cd],λk h0 h1=> ?_⟩;rw[List.getElem?_append_left (by rw[Cd];omega)];exact MV (n:=512) (u:=λk=>U (x.1*512+k)) h0 h1
def gW(x:Int×Nat):Win (flags 512 (λk=>U (x.1*512+k))++flags 512 (λk=>G (x.1*512+k))) 512 λk=>G (x.1*512+k):=by
 refine⟨by simp[Cd],λk h0 h1=> ?_⟩;rw[List.getElem?_append_right (by rw[Cd];omega),Cd,show 512+k.toNat-512=0+k.toNat by omega];exact MV (n:=512) (u:=λk=>G (x.1*512+k)) h0 h1
def WC(H:Sat (Ko E r s L U G++Z) w){k:Nat}{x:Int×Nat}(hk:L[k]? =some x){i:Int}(h0:0<=i)(h1:i<512):w.cell? ((Addr.mk x.2 0 none).add i.toNat)=some (.bool (U (x.1*512+i))):=
 (Mp H hk).cell ((uP x).2 i h0 h1)
def kU(H:Sat (Ko E r s L U G++Z) w){k:Nat}{x:Int×Nat}(hk:L[k]? =some x){i:Int}(h0:0<=i)(h1:i<512):w.cell? (((Addr.mk x.2 0 none).add 512).add i.toNat)=some (.bool (G (x.1*512+i))):=by
 rw[add_eq,Nat.zero_add];exact(Mp H hk).cell (o:=512) ((gW x).2 i h0 h1)
def Mq(H:Sat (Ko E r s L U G++Z) w){n:Int}{K:Int->Bool->World->Prop}
  (hK: ∀w' ok,(ok=true↔ ∃c,L[posC L n]? =some c/\c.1=n)->Sat (Ko E r s L U G++Z) w'->K (posC L n) ok w'):F.De E (some ⟨r,0,none⟩) n K w:=by
 unfold F.De;simp only[AG];have hlen:=LL H;have aA:L.length<9223372036854775808:=by have:=(H.front 1 rfl).own;have:=this.cap;have:=(H.front 1 rfl).own.top;omega
 refine AX (λst w'=>w'=w/\st.1=(posC L n:Nat)) ?_ ?_
 .refine AH (λst w'=>w'=w/\ ∃k:Nat,st.1=(k:Int)/\k<=L.length/\posC L n=posC (L.drop k) n+k) (λst _=>(L.length-st.1).toNat) ⟨rfl,0,rfl,Nat.zero_le _,rfl⟩ ?_;rintro⟨i,v⟩ _ w5 ⟨rfl,k,hk,aC,hp⟩;dsimp only at hk⊢;subst hk;refine⟨s,Ey H,AB (λO=>⟨s,Ey H,?_⟩) λJ=>⟨rfl,?_⟩⟩
  .have hl:k<L.length:=by omega
   have d:=List.getElem?_eq_getElem hl;have hd:=Td d;rw[hd]at hp;obtain⟨a,y,_,c1,_⟩:=Kc H d;generalize L[k]=x at d c1 hp;rw[y];simp only[AG,Int.toNat_natCast];rw[AE (n:=(k:Int)+1)];refine⟨⟨by omega,by omega⟩,_,c1,AB (λh=>⟨⟨by trivial,k+1,by omega,by omega,?_⟩,by omega⟩) λh=>⟨by trivial,?_⟩⟩
   .rw[hp];simp only[posC];grind
   .rw[hp];simp only[posC];grind
  .have:k=L.length:=by omega
   subst this;rw[hp,List.drop_length];show _=(((0:Nat)+L.length:Nat):Int);omega
 .rintro⟨i,v⟩ _ w3 ⟨rfl,T⟩;dsimp only at T⊢;subst T;have j:=H.drew;have Y:=TB L n;refine⟨s,Ey j,AB (λO=>⟨s,Ey j,?_⟩) λJ=>hK _ _ ?_ j⟩
  .have d:=List.getElem?_eq_getElem (show posC L n<L.length by omega);obtain⟨a,y,_,c1,_⟩:=Kc j d;generalize L[posC L n]=x at d c1;rw[y];simp only[AG,Int.toNat_natCast]
   grind
  grind
def SA(hI:Um l L U G)(H:Sat (Ko E r s L U G++Z) w){p:Int}(hp:0<=p)(aE:p<18446744073709551616){K:Bool->Bool->Bool->World->Prop}
  (Y: ∀w' r0 r1 r2,(r0=true↔mem (l 0) p)->(r1=true↔mem (l 1) p)->(r2=true↔mem (l 2) p)->Sat (Ko E r s L U G++Z) w'->K r0 r1 r2 w'):F.Bm E (some ⟨r,0,none⟩) p K w:=by
 unfold F.Bm T0.Bm;rw[Int.tdiv_eq_ediv_of_nonneg hp,Int.tmod_eq_emod_of_nonneg hp,AK (n:=p/512)];refine⟨by decide,Mq H λw3 ok A2 J=>AQ (λe=> ?_) λe=> ?_⟩
 .have j: ¬mem (l 0) p:=λhm=>by
   obtain⟨c,v,d⟩:=(hI.l0 p).1 hm;have:ok=true:=A2.2 ⟨c,Qf hI.HT v d,d⟩
   grind
  exact Y _ _ _ _ ⟨λh=>(by cases h),λh=>absurd h j⟩ ⟨λh=>(by cases h),λh=>absurd ((hI.l1 p).1 h).1 j⟩ ⟨λh=>(by cases h),λh=>absurd ((hI.l2 p).1 h).1 j⟩ J
 .have y:ok=true:=by simpa using e
  obtain⟨c,v,d⟩:=A2.1 y;have hm:mem (l 0) p:=(hI.l0 p).2 ⟨c,List.mem_of_getElem? v,d⟩;obtain⟨a,ha,aD,c1,c2⟩:=Kc J v;have O:=J.drew;have hU:=WC O v (i:=p %512) (by omega) (by omega);have T:=kU O v (i:=p %512) (by omega) (by omega);have e2:c.1*512+p %512=p:=by omega
  rw[e2]at hU T;simp only[AG];refine⟨s,Ey J,?_⟩;rw[ha];simp only[AG,Int.toNat_natCast,Nat.mul_one];refine⟨⟨by omega,by omega⟩,_,c2,by decide,?_⟩;simp only[AG];refine⟨⟨by omega,by omega⟩,_,hU,by decide,⟨by omega,by omega⟩,_,T,Y _ _ _ _ ⟨λ_=>hm,λ_=>rfl⟩ ?_ ?_ O⟩
  .rw[hI.l1 p]
   grind
  .rw[hI.l2 p];simp[hm]
def Un(hI:Um l L U G)(H:Sat (Ko E r s L U G++Z) w){x n:Int}(hx:0<=x)(aW:x<18446744073709551616)(hn:0<=n)(aT:n<18446744073709551616){K:Bool->World->Prop}
  (hK: ∀w' ok,(ok=true↔ ¬(n=0∨34359738368<=x∨34359738368-x<n∨cnt (l 0) x (x+n)≠n))->Sat (Ko E r s L U G++Z) w'->K ok w'):F.CQ E (some ⟨r,0,none⟩) x n K w:=by
 unfold F.CQ T0.CQ;have h0: ∀{w'} (b:Bool),b=false->(n=0∨34359738368<=x∨34359738368-x<n∨cnt (l 0) x (x+n)≠n)->Sat (Ko E r s L U G++Z) w'->K b w':=λb hb h H'=>hK _ _ ⟨λe=>(by grind),λg=>absurd h g⟩ H';refine AV (BF (λe j=>AU rfl (h0 _ rfl (.inl e) H)) λe1=>AB (λe j=>AU rfl (h0 _ rfl (.inr (.inl e)) H)) λe2=> ?_);rw[AK (n:=34359738368-x)];refine λj=>AB (λe=>h0 _ rfl (.inr (.inr (.inl e))) H) λe3=>⟨by decide,?_⟩;rw[Int.tdiv_eq_ediv_of_nonneg hx,AK (n:=x/512),AK (n:=x+n),AK (n:=x+n-1),Int.tdiv_eq_ediv_of_nonneg (a:=x+n-1) (by omega),AK (n:=(x+n-1)/512)];refine Mq H λw6 ok A2 H6=>⟨by decide,?_⟩;clear A2;have hlen:=LL H;have aR:=Mo hI.HT hI.Xp;have aK:=TB L (x/512);have O:(∀p,x<=p->p<x+n->mem (l 0) p)->cnt (l 0) x (x+n)=n:=λh=>by
  have:=(Eu hI.gA (a:=x) (b:=x+n) (by omega)).2 h;omega
 have J: ∀c,x/512<=c->c<=(x+n-1)/512->cnt (l 0) x (x+n)=n->c∈L.map (·.1):=λc h1 h2 e=>by
  obtain⟨mm,aF,aG,aX⟩: ∃m,x<=m/\m<x+n/\m/512=c:=⟨max x (c*512),by omega,by omega,by omega⟩;obtain⟨y,hy,T⟩:=(hI.l0 mm).1 ((Eu hI.gA (a:=x) (b:=x+n) (by omega)).1 (by omega) mm aF aG);exact List.mem_map.2 ⟨y,hy,by omega⟩
 simp only[AG];refine AH (λst w'=>w'=w6/\x/512<=st.2.1/\st.2.1<=(x+n-1)/512+1/\(st.1=(posC L (x/512):Nat)+(st.2.1-x/512))/\st.1<=L.length/\ ∀m,x/512<=m->m<st.2.1-> ∃c,L[(posC L (x/512)+(m-x/512).toNat)]? =some c/\c.1=m)
  (λst _=>((x+n-1)/512+1-st.2.1).toNat) ⟨rfl,Int.le_refl _,by grind,by grind,by omega,λm h1 h2=>by grind⟩ ?_
 rintro⟨at_,c,v⟩ _ w8 ⟨rfl,c0,c1,aE,aD,d⟩;dsimp only at c0 c1 aE aD d⊢;refine⟨by decide,AB (λhle=> ?_) λaP=> ?_⟩
 .have J:=J c c0 hle;refine AV ⟨s,Ey H6,AB (λaO j=>AU rfl (h0 _ rfl (.inr (.inr (.inr λe=> ?_))) H6)) λaS=>⟨s,Ey H6,?_⟩⟩
  .obtain⟨y,hy,T⟩:=List.mem_map.1 (J e);obtain⟨j,hj⟩:=List.mem_iff_getElem?.1 hy;have aQ:=(List.getElem?_eq_some_iff.1 hj).1;by_cases g:j<posC L (x/512)
   .have:=IP hj g;omega
   .obtain⟨z,hz,Y⟩:=d (x/512+(j-posC L (x/512):Nat)) (by omega) (by omega)
    grind
  .have hg:=List.getElem?_eq_getElem (show at_.toNat<L.length by omega);obtain⟨a,ha,aJ,d1,_⟩:=Kc H6 hg;generalize L[at_.toNat]=y at hg d1;rw[ha];simp only[AG];refine⟨⟨by omega,by omega⟩,_,d1,λj=>DM (λaU=>h0 _ rfl (.inr (.inr (.inr λe=> ?_))) H6) λheq=> ?_⟩
   .obtain⟨y',hy,T⟩:=List.mem_map.1 (J e);have hc:=Qf hI.HT hy T;have:at_.toNat=posC L c:=by
     rcases Nat.lt_trichotomy at_.toNat (posC L c)with g|g|g
     .exfalso;have g1:=IP hg g;by_cases g2:c=x/512
      .grind
      .obtain⟨z,hz,Y⟩:=d (c-1) (by omega) (by omega);have g3:posC L (x/512)+(c-1-x/512).toNat<at_.toNat:=by omega
       have:=List.pairwise_iff_getElem.1 hI.HT _ _ (by omega) (by omega) g3;rw[(List.getElem?_eq_some_iff.1 hz).2,(List.getElem?_eq_some_iff.1 hg).2]at this;omega
     .exact g
     .exfalso;by_cases g2:c=x/512
      .grind
      .obtain⟨z,hz,Y⟩:=d (c-1) (by omega) (by omega);have:=PQ hI.HT hz (n:=c) (by omega);omega
    grind
   .rw[AE (n:=at_+1),AK (n:=c+1)];refine⟨⟨by trivial,by omega,by omega,by omega,by omega,λm h1 h2=> ?_⟩,by omega⟩
    grind
 .refine hK _ _ ⟨λ_=> ?_,λ_=>rfl⟩ H6;have:cnt (l 0) x (x+n)=n:=by
   refine O λm h1 h2=>(hI.l0 m).2 ?_;obtain⟨z,hz,Y⟩:=d (m/512) (by omega) (by omega)
   grind
  omega
def WD(hI:Um l L U G)(H:Sat (Ko E r s L U G++Z) w){x n:Int}(hx:0<=x)(hn:0<=n)(aE:x+n<=34359738368){K:Int->Int->World->Prop}
  (hK: ∀w',Sat (Ko E r s L U G++Z) w'->K (n-cnt (l 1) x (x+n)) (cnt (l 2) x (x+n)) w'):F.B9 E (some ⟨r,0,none⟩) x n K w:=by
 unfold F.B9 T0.B9;rw[AK (n:=x+n)];have T: ∀{m:Iv},Ok m->cnt m x x=0:=λh=>(DW h (Int.le_refl _)).2 λk h1 h2=>by omega
 refine AH (λst w'=>x<=st.2.2.1/\st.2.2.1<=x+n/\st.1=st.2.2.1-x-cnt (l 1) x st.2.2.1/\st.2.1=cnt (l 2) x st.2.2.1/\Sat (Ko E r s L U G++Z) w') (λst _=>(x+n-st.2.2.1).toNat)
  ⟨Int.le_refl _,by grind,by dsimp only;rw[T hI.Le];omega,by dsimp only;rw[T hI.Ol],H⟩ ?_
 rintro⟨a,g,p,v⟩ _ w2 ⟨y,p1,J,O,Y⟩;dsimp only at y p1 J O⊢;subst J;subst O;have b1:=DL (l 1) x p;have b2:=DL (l 2) x p;have b3:=E0 hI.Le (a:=x) (b:=p) (by omega);have b4:=E0 hI.Ol (a:=x) (b:=p) (by omega);refine AB (λaB=>SA hI Y (by omega) (by omega) λw7 r0 r1 r2 _ aC aD H7=> ?_) λaA=> ?_
 .have s1:=Jd hI.Le (a:=x) (k:=p) y;have s2:=Jd hI.Ol (a:=x) (k:=p) y;rw[AK (n:=p+1),AK (n:=cnt (l 2) x p+1),AK (n:=p-x-cnt (l 1) x p+1)];refine AV (AQ (λe j=>AQ (λd=> ?_) λd=> ?_) λe j=>AQ (λd=> ?_) λd=> ?_)
  all_goals dsimp only
  .grind
  .grind
  .grind
  grind
 .have:p=x+n:=by omega
  grind
def yW{x:Int×Nat}{U' G':Int->Bool}{i:Int}(h0:0<=i)(h1:i<512)(a g:Bool):
  ((flags 512 (λk=>U (x.1*512+k))++flags 512 (λk=>G (x.1*512+k))).set (0+i.toNat) (.bool a)).set (512+i.toNat) (.bool g)=
   flags 512 (λk=>if x.1*512+k=x.1*512+i then a else U (x.1*512+k))++flags 512 (λk=>if x.1*512+k=x.1*512+i then g else G (x.1*512+k)):=by
 rw[List.set_append_left _ _ (by rw[Cd];omega),List.set_append_right _ _ (by simp only[List.length_set,Cd];omega)];rw[show 512+i.toNat-((flags 512 λk=>U (x.1*512+k)).set (0+i.toNat) (.bool a)).length=0+i.toNat by simp only[List.length_set,Cd];omega];rw[OF h0,OF h0];have e: ∀(f:Int->Bool) (v:Bool),(flags 512 λj=>if j=i then v else f j)=flags 512 λk=>if x.1*512+k=x.1*512+i then v else f k:=λf v=>JP λk _ _=>by grind
 rw[e,e]
def Uo(hI:Um l L U G)(H:Sat (Ko E r s L U G++Z) w){x n:Int}(hx:0<=x)(hn:0<=n)(aS:x+n<=34359738368)(aG: ∀p,x<=p->p<x+n->mem (l 0) p)(a g:Bool){K:World->Prop}
  (hK: ∀w',Sat (Ko E r s L (λp=>if x<=p/\p<x+n then a else U p) (λp=>if x<=p/\p<x+n then g else G p)++Z) w'->K w'):F.Cl E (some ⟨r,0,none⟩) x n a g K w:=by
 unfold F.Cl T0.Cl;rw[AK (n:=x+n)];refine AH (λst w'=>x<=st.1/\st.1<=x+n/\Sat (Ko E r s L (λp=>if x<=p/\p<st.1 then a else U p) (λp=>if x<=p/\p<st.1 then g else G p)++Z) w') (λst _=>(x+n-st.1).toNat) ⟨Int.le_refl _,by omega,?_⟩ ?_
 .have e: ∀(f:Int->Bool) (v:Bool),(λp=>if x<=p/\p<x then v else f p)=f:=λf v=>by funext p;rw[if_neg (by omega)]
  dsimp only;rw[e,e];exact H
 rintro⟨p,v⟩ _ w2 ⟨p0,p1,H2⟩;dsimp only at p0 p1 H2⊢;refine AB (λaH=>⟨by decide,?_⟩) λaP=> ?_
 .rw[Int.tdiv_eq_ediv_of_nonneg (by omega),Int.tmod_eq_emod_of_nonneg (by omega),AK (n:=p/512),AK (n:=p+1)];refine Mq H2 λw6 ok A2 H6=> ?_;obtain⟨c,aF,aE⟩:=(hI.l0 p).1 (aG p p0 aH);have hc:=Qf hI.HT aF aE;obtain⟨aa,ha,aQ,c1,c2⟩:=Kc H6 hc;simp only[AG];refine⟨s,Ey H6,?_⟩;rw[ha];simp only[AG,Int.toNat_natCast,Nat.mul_one];refine⟨⟨by omega,by omega⟩,_,c2,by decide,?_⟩;simp only[AG];refine⟨⟨by omega,by omega⟩,?_⟩;have hlen: ∀(A B:Int->Bool),(flags 512 A++flags 512 B).length=1024:=λA B=>by rw[List.length_append,Cd,Cd]
  refine AZ (Mp H6 hc) rfl (by grind) λaV d=> ?_;have aA:=(d.front 3 rfl).own;refine⟨s,(d.front 2 rfl).Ah rfl,?_⟩;rw[ha];simp only[AG];refine⟨⟨by omega,by omega⟩,some ⟨c.2,0,none⟩,?_,by decide,?_⟩
  .rw[add_add];exact aA.cell ha (RQ L hc).2
  simp only[AG];refine⟨⟨by omega,by omega⟩,?_⟩;rw[add_eq c.2 0 512,Nat.zero_add];refine AZ d (o:=512) rfl (by grind) λaI O=>⟨⟨by omega,by omega,?_⟩,by omega⟩;have T:=yW (x:=c) (U:=λq=>if x<=q/\q<p then a else U q) (G:=λq=>if x<=q/\q<p then g else G q) (U':=U) (G':=G) (i:=p %512) (by omega) (by omega) a g;have e2:c.1*512+p %512=p:=by omega
  rw[e2]at T;rw[T]at O;have aN: ∀(f:Int->Bool) (v:Bool),(λq=>if q=p then v else if x<=q/\q<p then v else f q)=λq=>if x<=q/\q<p+1 then v else f q:=λf v=>by grind
  have Y:Sat (Ul E (λq=>if x<=q/\q<p+1 then a else U q) (λq=>if x<=q/\q<p+1 then g else G q) c::
    Ad (Ul E (λq=>if x<=q/\q<p+1 then a else U q) (λq=>if x<=q/\q<p+1 then g else G q)) (L.eraseIdx (posC L (p/512)))::Cells r E.Cw [.slice s.base s.len s.cap]::Row E.Ay 2 s (parts L)::Z) aI:=by
   have em:Ad (Ul E (λq=>if x<=q/\q<p+1 then a else U q) (λq=>if x<=q/\q<p+1 then g else G q)) (L.eraseIdx (posC L (p/512)))=Ad (Ul E (λq=>if x<=q/\q<p then a else U q) (λq=>if x<=q/\q<p then g else G q)) (L.eraseIdx (posC L (p/512))):=by
    refine Ad.congr λy hy=> ?_;obtain⟨j,J⟩:=List.mem_iff_getElem?.1 hy;have aR:y.1≠p/512:=by
     intro e;rw[List.getElem?_eraseIdx]at J;have aK:=Qf hI.HT (c:=y) (n:=p/512) (by split at J<;>exact List.mem_of_getElem? J) e;split at J
     .rename_i hjl;have:=IP J hjl;omega
     .rename_i hjl;have h2:=(List.getElem?_eq_some_iff.1 J);obtain⟨h3,h4⟩:=h2;have:=List.pairwise_iff_getElem.1 hI.HT (posC L (p/512)) (j+1) (by omega) h3 (by omega)
      grind
    unfold Ul;congr 2<;>refine JP λk k0 k1=> ?_<;>dsimp only
    .grind
    grind
   rw[em];unfold Ul;have f1:(λk=>if x<=c.1*512+k/\c.1*512+k<p+1 then a else U (c.1*512+k))=λk=>if c.1*512+k=p then a else if x<=c.1*512+k/\c.1*512+k<p then a else U (c.1*512+k):=by grind
   have f2:(λk=>if x<=c.1*512+k/\c.1*512+k<p+1 then g else G (c.1*512+k))=λk=>if c.1*512+k=p then g else if x<=c.1*512+k/\c.1*512+k<p then g else G (c.1*512+k):=by grind
   rw[f1,f2];exact O
  exact(Y.HW hc).perm (List.Perm.trans (.swap _ _ _) (.cons _ (.swap _ _ _)))
 .have:p=x+n:=by omega
  grind
end
def Um.congr{l l':Nat->Iv}{L:CL}{U G:Int->Bool}(h:Um l L U G)(h0:l' 0=l 0)(h1:l' 1=l 1)(h2:l' 2=l 2):Um l' L U G:=
 ⟨h.HT,h.Xp,by rw[h0];exact h.gA,by rw[h1];exact h.Le,by rw[h2];exact h.Ol,by rw[h0];exact h.l0,by rw[h0,h1];exact h.l1,by rw[h0,h2];exact h.l2⟩
def Sat.yX{E:Env}{r:Nat}{l l':Nat->Iv}{Z:List Pr}{w:World}(H:Sat (Gj E r l::Z) w)(h0:l' 0=l 0)(h1:l' 1=l 1)(h2:l' 2=l 2):Sat (Gj E r l'::Z) w:=by
 obtain⟨s,L,U,G,hI,H⟩:=Sat.J0.1 H;exact Sat.J0.2 ⟨s,L,U,G,hI.congr h0 h1 h2,H⟩
def Zm{l:Nat->Iv}{x n:Int}: ¬(n=0∨34359738368<=x∨34359738368-x<n∨cnt (l 0) x (x+n)≠n)↔n≠0/\x<34359738368/\x+n<=34359738368/\cnt (l 0) x (x+n)=n:=by omega
section
variable{E:Env}{w:World}{Z:List Pr}{r:Nat}{l:Nat->Iv}
def Up(H:Sat (Gj E r l::Z) w){x n:Int}(J:0<=x)(O:x<18446744073709551616)(v:0<=n)(y:n<18446744073709551616){K:Int->Int->World->Prop}
  (aF:Ar l x n true 32≠0-> ∀w',Sat (Gj E r l::Z) w'->K 0 (Ar l x n true 32) w')
  (j:Ar l x n true 32=0-> ∀w',(∀l',l' 0=l 0->l' 1=Dz (l 1) x (x+n)->l' 2=Dz (l 2) x (x+n)->Sat (Gj E r l'::Z) w')->K (cnt (l 2) x (x+n)) 0 w'):
  F.By E (some ⟨r,0,none⟩) x n K w:=by
 obtain⟨s,L,U,G,hI,H⟩:=Sat.J0.1 H;have back: ∀{w'},Sat (Ko E r s L U G++Z) w'->Sat (Gj E r l::Z) w':=λh=>Sat.J0.2 ⟨s,L,U,G,hI,h⟩;unfold F.By T0.By;refine Un hI H J O v y λw2 ok A2 T=> ?_;refine AQ (λe=> ?_) λe=> ?_
 .have hb:n=0∨34359738368<=x∨34359738368-x<n∨cnt (l 0) x (x+n)≠n:=Classical.byContradiction λg=>by grind
  have aC:Ar l x n true 32=10:=by unfold Ar;omega
  grind
 .have hg:=A2.1 (by simpa using e);clear A2;obtain⟨g1,g2,g3,g4⟩:=Zm.1 hg;have d:=(Eu hI.gA (a:=x) (b:=x+n) (by omega)).1 (by omega);have c1:=E0 hI.Le (a:=x) (b:=x+n) (by omega);refine WD hI T J v (by omega) λw5 Y=>AB (λh=> ?_) λh=> ?_
  .have aD:Ar l x n true 32=32:=by unfold Ar;grind
   grind
  .have e0:Ar l x n true 32=0:=by unfold Ar;grind
   refine Uo hI Y J v (by omega) d true false λw6 H6=>j e0 w6 λl' h0 h1 h2=>Sat.J0.2 ⟨s,L,_,_,⟨hI.HT,hI.Xp,by rw[h0];exact hI.gA,by rw[h1];exact Gl hI.Le (by omega),by rw[h2];exact Gl hI.Ol (by omega),by rw[h0];exact hI.l0,λp=> ?_,λp=> ?_⟩,H6⟩
   .rw[h0,h1,Et (by omega),hI.l1]
    grind
   .rw[h0,h2,Et (by omega),hI.l2]
    grind
def Uq(H:Sat (Gj E r l::Z) w)(T: ∀p,mem (l 2) p->mem (l 1) p){x n:Int}{gone:Bool}(d:0<=x)(O:x<18446744073709551616)(y:0<=n)(J:n<18446744073709551616){K:Int->World->Prop}
  (aG:Ar l x n false 31≠0-> ∀w',Sat (Gj E r l::Z) w'->K (Ar l x n false 31) w')
  (v:Ar l x n false 31=0-> ∀w',(∀l',l' 0=l 0->l' 1=Dt (l 1) x (x+n)->l' 2=(if gone then Dt (l 2) x (x+n)else l 2)->Sat (Gj E r l'::Z) w')->K 0 w'):
  F.Bf E (some ⟨r,0,none⟩) x n gone K w:=by
 obtain⟨s,L,U,G,hI,H⟩:=Sat.J0.1 H;have back: ∀{w'},Sat (Ko E r s L U G++Z) w'->Sat (Gj E r l::Z) w':=λh=>Sat.J0.2 ⟨s,L,U,G,hI,h⟩;unfold F.Bf T0.Bf;refine Un hI H d O y J λw2 ok A2 Y=> ?_;refine AQ (λe=> ?_) λe=> ?_
 .have hb:n=0∨34359738368<=x∨34359738368-x<n∨cnt (l 0) x (x+n)≠n:=Classical.byContradiction λg=>by grind
  have aD:Ar l x n false 31=10:=by unfold Ar;omega
  grind
 .have hg:=A2.1 (by simpa using e);clear A2;obtain⟨g1,g2,g3,g4⟩:=Zm.1 hg;have j:=(Eu hI.gA (a:=x) (b:=x+n) (by omega)).1 (by omega);have c1:=DL (l 1) x (x+n);refine WD hI Y d y (by omega) λw5 H5=>AB (λh=> ?_) λh=> ?_
  .have aE:Ar l x n false 31=31:=by unfold Ar;grind
   grind
  .have c0:cnt (l 1) x (x+n)=0:=by omega
   have e0:Ar l x n false 31=0:=by unfold Ar;grind
   have aH:=(DW hI.Le (a:=x) (b:=x+n) (by omega)).1 c0;have a1:=FQ hI.Le (a:=x) (b:=x+n) (by omega) d (by omega);have a2:=FQ hI.Ol (a:=x) (b:=x+n) (by omega) d (by omega);refine Uo hI H5 d y (by omega) j false gone λw6 H6=>v e0 w6 λl' h0 h1 h2=>Sat.J0.2 ⟨s,L,_,_,⟨hI.HT,hI.Xp,by rw[h0];exact hI.gA,by rw[h1];exact a1.1,?_,by rw[h0];exact hI.l0,λp=> ?_,λp=> ?_⟩,H6⟩
   .rw[h2];cases gone
    .exact hI.Ol
    grind
   .rw[h0,h1,a1.2.1,hI.l1]
    grind
   .rw[h0,h2];by_cases e:x<=p/\p<x+n
    .grind
    .rw[if_neg e];cases gone
     .rw[if_neg (by decide)];exact hI.l2 p
     .rw[if_pos rfl,a2.2.1,hI.l2];simp[e]
def Sm(l:Iv)(n cur run:Int):Prop:=0<=run/\run<n/\Rm l (cur-run) run/\ ∀p,Rm l p n->cur-run<=p
def Sm.used{l:Iv}{n cur run:Int}(h:Sm l n cur run)(d: ¬mem l cur):Sm l n (cur+1) 0:=by
 obtain⟨h1,h2,v,j⟩:=h;refine⟨by omega,by omega,λm a b=>by omega,λp hp=>Classical.byContradiction λg=>d (hp cur (by omega) ?_)⟩;have:=j p hp;omega
def Sm.free{l:Iv}{n cur run:Int}(h:Sm l n cur run)(hm:mem l cur):Rm l (cur+1-(run+1)) (run+1)/\ ∀p,Rm l p n->cur+1-(run+1)<=p:=by
 obtain⟨h1,h2,d,j⟩:=h;refine⟨λm a b=> ?_,λp hp=>by have:=j p hp;omega⟩;by_cases e:m=cur
 .rw[e];exact hm
 .exact d m (by omega) (by omega)
def Sm.jump{l:Iv}{n cur run d:Int}(h:Sm l n cur run)(K:cur<=d)(j: ∀m,cur<=m->m<d-> ¬mem l m)(v:cur<d):Sm l n d 0:=by
 obtain⟨h1,h2,J,y⟩:=h;refine⟨by omega,by omega,λm a b=>by omega,λp hp=>Classical.byContradiction λg=> ?_⟩;have:=y p hp;by_cases e:cur<=p
 .exact j p e (by omega) (hp p (by omega) (by omega))
 .exact j cur (by omega) v (hp cur (by omega) (by omega))
def Ur(H:Sat (Gj E r l::Z) w){n:Int}(hn:0<=n)(bC:n<18446744073709551616){K:Int->Bool->World->Prop}
  (hK: ∀w',Sat (Gj E r l::Z) w'->K ((if n=0 then none else findL (l 1) n).getD 0) (if n=0 then none else findL (l 1) n).isSome w'):F.FF E (some ⟨r,0,none⟩) n K w:=by
 obtain⟨s,L,U,G,hI,H⟩:=Sat.J0.1 H;have aO:K ((if n=0 then none else findL (l 1) n).getD 0) (if n=0 then none else findL (l 1) n).isSome w:=hK w (Sat.J0.2 ⟨s,L,U,G,hI,H⟩);clear hK;unfold F.FF;simp only[AG,Nat.mul_one];have hlen:=LL H;have a9:=Mo hI.HT hI.Xp;have aQ: ∀c∈L,∀k,0<=k->k<512->(mem (l 1) (c.1*512+k)↔U (c.1*512+k)=false):=λc hc k h0 h1=>by
  rw[hI.l1];exact⟨λh=>h.2,λh=>⟨(hI.l0 _).2 ⟨c,hc,by omega⟩,h⟩⟩
 have aD: ∀(i:Nat) c,L[i]? =some c-> ∀B:Int,(∀j c',j<i->L[j]? =some c'->(c'.1+1)*512<=B)-> ∀m,B<=m->m<c.1*512-> ¬mem (l 1) m:=λi c hc B hB m h1 h2 hm=>by
  obtain⟨y,hy,aU⟩:=(hI.l0 m).1 ((hI.l1 m).1 hm).1;obtain⟨j,hj⟩:=List.mem_iff_getElem?.1 hy;by_cases g:j<i
  .grind
  .have h3:c.1<=y.1:=by
    rcases Nat.lt_or_eq_of_le (Nat.le_of_not_lt g)with g2|g2
    .have:=List.pairwise_iff_getElem.1 hI.HT i j (List.getElem?_eq_some_iff.1 hc).1 (List.getElem?_eq_some_iff.1 hj).1 g2
     grind
    grind
   omega
 refine AH (λst w'=>w'=w/\ ∃i:Nat,st.2.2.1=(i:Int)/\i<=L.length/\((i=0/\st.1=0)∨(0<i/\(∃c,L[i-1]? =some c/\c.1=st.2.1)/\0<n/\Sm (l 1) n ((st.2.1+1)*512) st.1))) (λst _=>(L.length-st.2.2.1).toNat) ⟨rfl,0,rfl,Nat.zero_le _,.inl ⟨rfl,rfl⟩⟩ ?_;rintro⟨run,last,i',v⟩ _ w2 ⟨rfl,i,hi,a7,hc⟩;dsimp only at hi hc⊢;subst hi;refine⟨s,Ey H,AB (λbB=>AB (λaA=> ?_) λbD=> ?_) λa5=> ?_⟩
 .have hl:i<L.length:=by omega
  have hg:=List.getElem?_eq_getElem hl;obtain⟨a,ha,bA,c1,c2⟩:=Kc H hg;generalize L[i]=x at hg c1 c2;have aJ:=List.mem_of_getElem? hg;have bG:=hI.Xp x aJ;have aC: ∀(B:Int),(i=0∨ ∃c,L[i-1]? =some c/\(c.1+1)*512<=B)-> ∀j c',j<i->L[j]? =some c'->(c'.1+1)*512<=B:=λB hB j c' hj aF=>by
   rcases hB with h|⟨c,O,aG⟩
   .omega
   .by_cases e:j=i-1
    .subst e;rw[O]at aF;cases aF;exact aG
    .have:=List.pairwise_iff_getElem.1 hI.HT j (i-1) (List.getElem?_eq_some_iff.1 aF).1 (List.getElem?_eq_some_iff.1 O).1 (by omega)
     grind
  rw[AE (n:=(i:Int)+1)];have aB:(0:Int)<=(i:Int)/\(i:Int)<(s.len:Int):=⟨by omega,by omega⟩;refine I3 (λst w'=>w'=w2/\Sm (l 1) n (x.1*512) st.1) ?_ ?_
  .have hzero:i=0->Sm (l 1) n (x.1*512) 0:=λe=>⟨by omega,by omega,λm a b=>by omega,λp hp=>Classical.byContradiction λg=>by
    have h1:=hp p (by omega) (by omega);have h2:=Pl hI.Le h1;exact aD i x hg 0 (aC 0 (.inl e)) p h2 (by omega) h1⟩
   refine AV (AB (λa8=>⟨s,Ey H,?_⟩) λa6 j=>AO rfl ?_)
   .rw[ha];simp only[AG,Int.toNat_natCast];refine⟨aB,_,c1,λj=> ?_⟩;rcases hc with ⟨h,_⟩|⟨_,⟨c,O,aG⟩,_,J⟩
    .omega
    have a4:=hI.Xp c (List.mem_of_getElem? O);rw[AK (n:=last+1)];have a0:last+1<=x.1:=by
     have:=List.pairwise_iff_getElem.1 hI.HT (i-1) i (by omega) hl (by omega)
     grind
    refine DM (λaR=>⟨by trivial,?_⟩) λheq=>⟨by trivial,?_⟩
    .exact J.jump (by omega) (aD i x hg _ (aC _ (.inr ⟨c,O,by omega⟩))) (by omega)
    .rw[heq];exact J
   .have e:i=0:=by omega
    grind
  .rintro⟨a2,v⟩ _ w8 ⟨rfl,J⟩;dsimp only at J⊢;refine⟨s,Ey H,?_⟩;rw[ha];simp only[AG,Int.toNat_natCast];refine⟨aB,_,c1,?_⟩;refine AH (λst w'=>w'=w8/\0<=st.2.1/\st.2.1<=512/\Sm (l 1) n (x.1*512+st.2.1) st.1) (λst _=>(512-st.2.1).toNat) ⟨rfl,by grind,by grind,by rw[show x.1*512+(0:Int)=x.1*512 by omega];exact J⟩ ?_;rintro⟨aK,k,v⟩ _ bJ ⟨rfl,k0,k1,d⟩;dsimp only at k0 k1 d⊢;refine AB (λY=> ?_) λaX=> ?_
   .have hU:=WC H hg (i:=k) k0 Y;rw[AK (n:=k+1)];have a1:=d.2.1;have aS:=d.1;refine AV ⟨s,Ey H,?_⟩;rw[ha];simp only[AG];refine⟨aB,_,c2,?_⟩;simp only[AG];refine⟨⟨k0,Y⟩,_,hU,AQ (λhu j=> ?_) λhu j=> ?_⟩
    .refine BF (λe=>by omega) λ_=>⟨⟨by trivial,by omega,by omega,?_⟩,by omega⟩;have:=d.used (λh=>by grind)
     grind
    .have T:=d.free ((aQ x aJ k k0 Y).2 hu);rw[AK (n:=aK+1)];refine BF (λe=>⟨s,Ey H,?_⟩) λaR=>⟨⟨by trivial,by omega,by omega,?_⟩,by omega⟩
     .rw[ha];simp only[AG];rw[e]at T;refine⟨aB,_,c1,AY λt ht=> ?_⟩;have bE:0<=x.1*512+k+1-n:=Pl hI.Le (T.1 _ (Int.le_refl _) (by omega));rw[AK (n:=x.1*512),AK (n:=x.1*512+k),AK (n:=x.1*512+k+1),AK (n:=x.1*512+k+1-n)]at ht;have hf:findL (l 1) n=some t:=by
       cases hf:findL (l 1) n with
       | none=>exact absurd T.1 (Mc hI.Le aA hf _)
       | some q=>
        obtain⟨g1,g2⟩:=LD hI.Le aA hf;have h1:=g2 _ T.1;have h2:=T.2 q g1;congr 1;omega
      grind
     .rw[show x.1*512+(k+1)=x.1*512+k+1 by omega];exact⟨by omega,by omega,T.1,T.2⟩
   .have e:k=512:=by omega
    subst e;refine⟨⟨by trivial,i+1,by omega,by omega,.inr ⟨by omega,⟨x,by grind,by trivial⟩,aA,?_⟩⟩,by omega⟩;rw[show(x.1+1)*512=x.1*512+512 by omega];exact d
 .have e:n=0:=by omega
  grind
 .have e:i=L.length:=by omega
  by_cases en:n=0
  .grind
  .rw[if_neg en]at aO;have hf:findL (l 1) n=none:=by
    cases hf:findL (l 1) n with
    | none=>rfl
    | some q=>
     exfalso;obtain⟨g1,_⟩:=LD hI.Le (by omega) hf;have h1:=g1 (q+n-1) (by omega) (by omega);obtain⟨y,hy,aU⟩:=(hI.l0 _).1 ((hI.l1 _).1 h1).1;obtain⟨j,hj⟩:=List.mem_iff_getElem?.1 hy;have aP:=(List.getElem?_eq_some_iff.1 hj).1;rcases hc with ⟨h,_⟩|⟨_,⟨c,O,aG⟩,_,J⟩
     .omega
     .have h5:=J.2.2.2 q g1;have h6:=J.2.1;have h7:y.1<=c.1:=by
       by_cases e2:j=i-1
       .grind
       .have:=List.pairwise_iff_getElem.1 hI.HT j (i-1) aP (List.getElem?_eq_some_iff.1 O).1 (by omega)
        grind
      omega
   grind
def Zn(H:Sat (Gj E r l::Z) w){n:Int}(Y:0<=n)(j:n<18446744073709551616)(O: ∀p,n≠0->findL (l 1) n=some p->Ar l p n true 32=0/\0<=p/\p+n<=34359738368){K:Int->Int->Int->World->Prop}
  (v:n=0->K 0 0 1 w)(y:n≠0->findL (l 1) n=none-> ∀w',Sat (Gj E r l::Z) w'->K 0 0 30 w')
  (J:n≠0-> ∀p,findL (l 1) n=some p-> ∀w',(∀l',l' 0=l 0->l' 1=Dz (l 1) p (p+n)->l' 2=Dz (l 2) p (p+n)->Sat (Gj E r l'::Z) w')->K p (cnt (l 2) p (p+n)) 0 w'):
  F.CA E (some ⟨r,0,none⟩) n K w:=by
 unfold F.CA T0.CA;refine BF v λd=>Ur H Y j λw3 T=> ?_;rw[if_neg d];cases hf:findL (l 1) n with
 | none=>exact AU rfl (y d hf w3 T)
 | some p=>
  obtain⟨h1,h2,h3⟩:=O p d hf;refine AO rfl (Up T h2 (by show p<_;omega) Y j (λh=>absurd h1 h) λ_ w' h=>J d p hf w' h)
end
def Sn(n:Nat)(b:Bool):List.replicate n (Value.bool b)=flags n λ_=>b:=by
 apply List.ext_getElem?;intro i;rw[List.getElem?_replicate];by_cases h:i<n
 .rw[if_pos h,JO h]
 .rw[if_neg h,List.getElem?_eq_none (by rw[Cd];omega)]
section
variable{E:Env}{w:World}{Z:List Pr}{r:Nat}{l:Nat->Iv}
def Sat.pU{b:Nat}(H:Sat (Cells b E.Cw [.slice none 0 0]::Z) w)(d: ∀i,l i=[]):Sat (Gj E b l::Z) w:=by
 have nm: ∀i p,¬mem (l i) p:=λi p=>by rw[d];exact Bt p
 refine Sat.J0.2 ⟨⟨none,0,0⟩,[],λ_=>false,λ_=>false,⟨List.Pairwise.nil,λc j=>(by cases j),by rw[d];trivial,by rw[d];trivial,by rw[d];trivial,λp=> ?_,λp=> ?_,λp=> ?_⟩,?_⟩
 .grind
 .grind
 .grind
 .have h1:=(H.nil E.Ay 2);have h2:=h1.LY (Ul E (λ_=>false) λ_=>false);exact h2.perm (List.Perm.trans (.swap _ _ _) (List.Perm.trans (.cons _ (.swap _ _ _)) (.swap _ _ _)))
def XM(H:Sat Z w){c:Int}{U G:Int->Bool}(hU: ∀k,0<=k->k<512->U (c*512+k)=false)(hG: ∀k,0<=k->k<512->G (c*512+k)=true){K:Option Addr->World->Prop}
  (O: ∀b w',Sat (Ul E U G (c,b)::Z) w'->K (some ⟨b,0,none⟩) w'):F.FG E K w:=by
 unfold F.FG T0.FG;have J:(Array.replicate 1024 (Value.bool false))=⟨List.replicate 1024 (.bool false)⟩:=by grind
 rw[J];generalize hrep:List.replicate 1024 (Value.bool false)=rep;have hl:rep.length=1024:=by grind
 refine AR H λb w2 y _=> ?_;rw[add_eq,Nat.zero_add];refine kT y (o:=512) (by omega) (by decide) (by decide) (by decide) true λw4 vs Y T v=>O b w4 ?_;have e:vs=flags 512 (λk=>U ((c,b).1*512+k))++flags 512 (λk=>G ((c,b).1*512+k)):=by
  apply List.ext_getElem?;intro j;rw[T j];have d:(0+512:Int).toNat=512:=rfl;have h0:(0:Int).toNat=0:=rfl;rw[d,h0];by_cases g1:j<512
  .rw[if_neg (by omega),List.getElem?_append_left (by rw[Cd];omega),JO g1,<-hrep,List.getElem?_replicate,if_pos (by omega)]
   grind
  .by_cases g2:j<1024
   .rw[if_pos (by omega),List.getElem?_append_right (by rw[Cd];omega),Cd,JO (by omega)]
    grind
   .rw[if_neg (by omega),List.getElem?_eq_none (by omega),List.getElem?_eq_none (by rw[List.length_append,Cd,Cd];omega)]
 rw[e]at v;exact v
def dX(H:Sat (Gj E r l::Z) w){c n:Int}(hc:0<=c)(bX:c<18446744073709551616)(hn:0<=n)(b1:n<18446744073709551616){K:Int->World->Prop}
  (aA:(n=0∨262144<n∨67108864<c∨67108864-c<n)->K 1 w)
  (aC: ¬(n=0∨262144<n∨67108864<c∨67108864-c<n)->cnt (l 0) (c*512) ((c+n)*512)≠0-> ∀w',Sat (Gj E r l::Z) w'->K 34 w')
  (aJ: ¬(n=0∨262144<n∨67108864<c∨67108864-c<n)->cnt (l 0) (c*512) ((c+n)*512)=0-> ∀w',(∀l',(∀i,i<3->l' i=Dt (l i) (c*512) ((c+n)*512))->Sat (Gj E r l'::Z) w')->K 0 w'):
  F.CU E (some ⟨r,0,none⟩) c n K w:=by
 obtain⟨s,L,U,G,hI,H⟩:=Sat.J0.1 H;have back: ∀{w'},Sat (Ko E r s L U G++Z) w'->Sat (Gj E r l::Z) w':=λh=>Sat.J0.2 ⟨s,L,U,G,hI,h⟩;unfold F.CU T0.CU;refine AV (BF (λe j=>AU rfl (aA (.inl e))) λe1=>AB (λe j=>AU rfl (aA (.inr (.inl e)))) λe2=>AB (λe j=>AU rfl (aA (.inr (.inr (.inl e))))) λe3=> ?_);rw[AK (n:=67108864-c)];refine λj=>AB (λe=>aA (.inr (.inr (.inr e)))) λe4=> ?_;have aE: ¬(n=0∨262144<n∨67108864<c∨67108864-c<n):=by omega
 have aC:=aC aE;have aJ:=aJ aE;clear aA;have bZ:=Mo hI.HT hI.Xp;have hlen:=LL H;refine Mq H λw6 ok A2 H6=> ?_;clear A2;have bN:=TB L c;have aU:cnt (l 0) (c*512) ((c+n)*512)=0↔ ∀y∈L,¬(c<=y.1/\y.1<c+n):=by
  rw[DW hI.gA (by omega)];constructor
  .intro h y O ⟨h1,h2⟩;exact h (y.1*512) (by omega) (by omega) ((hI.l0 _).2 ⟨y,O,by omega⟩)
  .intro h m h1 h2 hm;obtain⟨y,O,bG⟩:=(hI.l0 m).1 hm
   grind
 simp only[AG];refine I3 (λst w'=>w'=w6/\(st.1=false-> ∀y,L[posC L c]? =some y->c+n<=y.1)/\(st.1=true->cnt (l 0) (c*512) ((c+n)*512)≠0)) ?_ ?_
 .refine⟨s,Ey H6,AB (λbE=>⟨s,Ey H6,?_⟩) λbC=>⟨rfl,λ_ y O=> ?_,λe=>by cases e⟩⟩
  .have hg:=List.getElem?_eq_getElem (show posC L c<L.length by omega);obtain⟨a,ha,b0,c1,_⟩:=Kc H6 hg;generalize L[posC L c]=x at hg c1;rw[ha];simp only[AG,Int.toNat_natCast];rw[AK (n:=c+n)];refine⟨⟨by omega,by omega⟩,_,c1,by trivial,λe y O=> ?_,λe=> ?_⟩
   .grind
   .have h1:=of_decide_eq_true e;have h2:=TC hg
    grind
  grind
 rintro⟨bt,v⟩ _ w9 ⟨rfl,aH,aI⟩;dsimp only at aH aI⊢;refine AQ (λe=>aC (aI e) w9 (back H6)) λe=> ?_;have aL:=aH e;clear aH aI;have Y: ∀y∈L,¬(c<=y.1/\y.1<c+n):=by
  intro y O ⟨h1,h2⟩;obtain⟨j,T⟩:=List.mem_iff_getElem?.1 O;have bD:=(List.getElem?_eq_some_iff.1 T).1;by_cases g:j<posC L c
  .have:=IP T g;omega
  .have hg:=List.getElem?_eq_getElem (show posC L c<L.length by omega);have h3:=aL _ hg;rcases Nat.lt_or_eq_of_le (Nat.le_of_not_lt g)with g2|g2
   .have:=List.pairwise_iff_getElem.1 hI.HT (posC L c) j (by omega) bD g2
    grind
   grind
 have bA:=aU.2 Y;clear aC aU;generalize hU':(λp:Int=>if c*512<=p/\p<(c+n)*512 then false else U p)=U';generalize hG':(λp:Int=>if c*512<=p/\p<(c+n)*512 then true else G p)=G';have aS: ∀d k,c<=d->d<c+n->0<=k->k<512->U' (d*512+k)=false/\G' (d*512+k)=true:=λd k h1 h2 h3 h4=>by grind
 have a9: ∀y∈L,Ul E U G y=Ul E U' G' y:=λy O=>by
  have b3:=Y y O;unfold Ul;congr 2
  .refine JP λk h0 h1=> ?_;rw[<-hU'];dsimp only;rw[if_neg (by omega)]
  .refine JP λk h0 h1=> ?_;rw[<-hG'];dsimp only;rw[if_neg (by omega)]
 have a5:Sat (Ad (Ul E U' G') L::Cells r E.Cw [.slice s.base s.len s.cap]::Row E.Ay 2 s (parts L)::Z) w9:=by
  rw[<-Ad.congr a9];exact H6.front 2 rfl
 refine HI (n:=0) (z:=2) a5 rfl (by decide) λbR bI aB=> ?_;have aM:=(aB.front 3 rfl).Kj;have aW:(parts L).length=s.len*2:=by rw[OT,hlen]
 refine⟨s,(aB.front 2 rfl).Ah rfl,⟨by omega,by have:=(aB.front 3 rfl).own.cap;omega⟩,?_⟩;rw[KR,Int.toNat_natCast];have bF:rowAt bI s.base (posC L c*2) (parts (L.take (posC L c))):=by
  have:=KG aM (m:=posC L c*2) (by omega) aW;rwa[Ui]at this
 refine Ep (x:=⟨s.base,posC L c,s.cap⟩) (news:=parts (L.take (posC L c))) aB rfl bF (by rw[OT,List.length_take];grind) (WB _) (by grind) (by grind) λVB b4 aO aF=> ?_;rw[List.nil_append]at aO;have aF:VB.len=posC L c:=by grind
 refine AH (λst w'=> ∃(k:Nat) (M:CL),st.2.1=(k:Int)/\(k:Int)<=n/\M.length=k/\(∀(j:Nat) y,M[j]? =some y->y.1=c+j)/\st.1.len=posC L c+k/\
   Sat (Row E.Ay 2 st.1 (parts (L.take (posC L c)++M))::Ad (Ul E U' G') M::Ad (Ul E U' G') L::Cells r E.Cw [.slice s.base s.len s.cap]::Row E.Ay 2 s (parts L)::Z) w') (λst _=>(n-st.2.1).toNat)
  ⟨0,[],rfl,by show(0:Int)<=n;omega,rfl,λj y h=>(by cases h),aF,by rw[List.append_nil];exact(aO.LY (Ul E U' G')).perm (.swap _ _ _)⟩ ?_
 rintro⟨bH,k',v⟩ _ bJ ⟨k,M,hk,bY,hM,bW,aX,J⟩;dsimp only at hk aX J⊢;subst hk;refine AB (λbE=> ?_) λbC=> ?_
 .refine XM J (c:=c+k) (U:=U') (G:=G') (λi h0 h1=>(aS (c+k) i (by omega) (by omega) h0 h1).1) (λi h0 h1=>(aS (c+k) i (by omega) (by omega) h0 h1).2) λb b5 aZ=> ?_;rw[AK (n:=c+(k:Int)),AK (n:=(k:Int)+1)];refine AR aZ λbS b6 a3 _=> ?_;refine EX (news:=[.int .u64 (c+k),.pointer (some ⟨b,0,none⟩)]) (a3.DR 1 rfl) rfl rfl (by simp[Value.oneCell']) (by omega) (by omega) λJR bK aP bO=> ?_;have ep:parts (L.take (posC L c)++M)++[Value.int .u64 (c+k),.pointer (some ⟨b,0,none⟩)]=parts (L.take (posC L c)++(M++[(c+(k:Int),b)])):=by
   rw[<-List.append_assoc,WA (L.take (posC L c)++M)];rfl
  rw[ep]at aP;refine⟨⟨k+1,M++[(c+(k:Int),b)],by omega,by omega,by simp[hM],λj y T=> ?_,by omega,?_⟩,by omega⟩
  .grind
  .have h1:Sat (Ul E U' G' (c+(k:Int),b)::Ad (Ul E U' G') M::Row E.Ay 2 JR (parts (L.take (posC L c)++(M++[(c+(k:Int),b)])))::Ad (Ul E U' G') L::Cells r E.Cw [.slice s.base s.len s.cap]::Row E.Ay 2 s (parts L)::Z) bK:=
    aP.perm (List.Perm.trans (.swap _ _ _) (.cons _ (.swap _ _ _)))
   exact h1.Tj.perm (.swap _ _ _)
 .have bM:(k:Int)=n:=by omega
  have aD:=(J.front 4 rfl).Kj;refine⟨s,(J.front 3 rfl).Ah rfl,⟨by omega,by omega⟩,?_⟩;have aV:=(J.front 4 rfl).own.cap;have bB:rowAt bJ (F2 s.base s.cap (posC L c) 2) ((s.len-posC L c)*2) (parts (L.drop (posC L c))):=by
   have:=JC (z:=2) aD rfl (k:=posC L c) (by omega) aV aW;rwa[Uj]at this
  refine Ep (x:=⟨F2 s.base s.cap (posC L c) 2,s.len-posC L c,s.cap-posC L c⟩) (news:=parts (L.drop (posC L c))) J rfl bB (by rw[OT,List.length_drop];grind) (WB _) (by grind) (by grind) λPW b7 aQ bP=> ?_;rw[<-WA]at aQ;have a4:=(aQ.front 3 rfl);refine CO a4 (o:=0) rfl (by simp) λaY aG=>aJ bA aY λl' aK=> ?_;simp only[List.set]at aG;generalize hN:L.take (posC L c)++M++L.drop (posC L c)=N at aG;have a8:(M++L).Perm N:=by
   rw[<-hN,List.append_assoc];have h1:(M++L).Perm (M++(L.take (posC L c)++L.drop (posC L c))):=by rw[List.take_append_drop]
   grind
  have a7: ∀y,y∈N↔y∈M∨y∈L:=λy=>by grind
  have a6: ∀y∈M,c<=y.1/\y.1<c+n:=λy O=>by
   obtain⟨j,T⟩:=List.mem_iff_getElem?.1 O
   grind
  have a0:=FQ hI.gA (a:=c*512) (b:=(c+n)*512) (by omega) (by omega) (by omega);have a1:=FQ hI.Le (a:=c*512) (b:=(c+n)*512) (by omega) (by omega) (by omega);have a2:=FQ hI.Ol (a:=c*512) (b:=(c+n)*512) (by omega) (by omega) (by omega);rw[<-aK 0 (by decide)]at a0;rw[<-aK 1 (by decide)]at a1;rw[<-aK 2 (by decide)]at a2;refine Sat.J0.2 ⟨PW,N,U',G',⟨?_,λy O=> ?_,a0.1,a1.1,a2.1,λp=> ?_,λp=> ?_,λp=> ?_⟩,?_⟩
  .rw[<-hN];unfold Ll;rw[List.append_assoc,List.pairwise_append,List.pairwise_append];refine⟨hI.HT.sublist (List.take_sublist _ _),⟨?_,hI.HT.sublist (List.drop_sublist _ _),?_⟩,?_⟩
   .rw[List.pairwise_iff_getElem]
    grind
   .intro a ha d hd;have:=a6 a ha;obtain⟨j,T⟩:=List.mem_iff_getElem?.1 hd;rw[List.getElem?_drop]at T;have h2:=PQ hI.HT T (n:=c) (by omega)
    grind
   .intro a ha d hd;obtain⟨j,T⟩:=List.mem_iff_getElem?.1 ha;rw[List.getElem?_take]at T;split at T
    .rename_i hj2;have h1:=IP T hj2;rcases List.mem_append.1 hd with hd|hd
     .grind
     .obtain⟨i,hi⟩:=List.mem_iff_getElem?.1 hd;rw[List.getElem?_drop]at hi;have h2:=PQ hI.HT hi (n:=c) (by omega);omega
    .cases T
  .rcases(a7 y).1 O with h|h
   .grind
   .exact hI.Xp y h
  .rw[a0.2.1,hI.l0];constructor
   .rintro(⟨y,O,bG⟩|⟨h1,h2⟩)
    .grind
    .have hg:=List.getElem?_eq_getElem (l:=M) (i:=(p/512-c).toNat) (by omega)
     grind
   grind
  .rw[a1.2.1,a0.2.1,hI.l1,<-hU']
   grind
  .rw[a2.2.1,a0.2.1,hI.l2,<-hG']
   grind
  .have h1:Sat (Ad (Ul E U' G') M::Ad (Ul E U' G') L::Cells r E.Cw [.slice PW.base PW.len PW.cap]::Row E.Ay 2 PW (parts N)::Row E.Ay 2 s (parts L)::Z) aY:=
    aG.perm (List.Perm.trans (List.Perm.trans (.cons _ (.swap _ _ _)) (.swap _ _ _)) (.cons _ (List.Perm.trans (.cons _ (.swap _ _ _)) (.swap _ _ _))))
   have h2:=(Sat.fF.2 h1).Je a8;exact(h2.front 3 rfl).tail.perm (List.Perm.trans (.swap _ _ _) (.cons _ (.swap _ _ _)))
end
section
variable{E:Env}{w:World}{Z:List Pr}{r:Nat}{l:Nat->Iv}
end
section
variable{E:Env}{w:World}{Z:List Pr}{r:Nat}{l:Nat->Iv}
def uQ{L:CL}(hs:Ll L){m:Iv}(hm:Ok m)(O: ∀p,mem m p-> ∃c∈L,c.1=p/512){i:Nat}{c:Int×Nat}(K:L[i]? =some c)(Y:0<=c.1){B:Int}(J:0<=B)(T:B<=c.1*512)
  (d: ∀(j:Nat) c',j<i->L[j]? =some c'->(c'.1+1)*512<=B):cnt m 0 ((c.1+1)*512)=cnt m 0 B+cnt m (c.1*512) (c.1*512+512):=by
 rw[LW (Ok.aZ hm) (a:=0) (m:=B) (b:=(c.1+1)*512) J (by omega),LW (Ok.aZ hm) (a:=B) (m:=c.1*512) (b:=(c.1+1)*512) T (by omega)];have:cnt m B (c.1*512)=0:=(DW hm T).2 λp h1 h2 hp=>by
  obtain⟨y,hy,aB⟩:=O p hp;obtain⟨j,v⟩:=List.mem_iff_getElem?.1 hy;rcases Nat.lt_trichotomy j i with g|g|g
  .have:=d j y g v;omega
  .subst g;rw[K]at v;have:=Option.some.inj v;subst this;omega
  .have:=List.pairwise_iff_getElem.1 hs i j (List.getElem?_eq_some_iff.1 K).1 (List.getElem?_eq_some_iff.1 v).1 g;rw[(List.getElem?_eq_some_iff.1 K).2,(List.getElem?_eq_some_iff.1 v).2]at this;omega
 rw[this,show(c.1+1)*512=c.1*512+512 by omega];omega
def uR{L:CL}(hs:Ll L){m:Iv}(hm:Ok m)(d: ∀p,mem m p-> ∃c∈L,c.1=p/512){B:Int}(j: ∀c∈L,(c.1+1)*512<=B):cnt m 0 B=Gn m:=
 LX (Ok.aZ hm) λp hp=>by
  obtain⟨y,v,J⟩:=d p hp;have:=j y v;exact⟨Pl hm hp,by omega⟩
def Zo{L:CL}{U G:Int->Bool}{s:Aa}(hI:Um l L U G)(H:Sat (Ko E r s L U G++Z) w){m:Iv}(hm:Ok m)(aJ: ∀p,mem m p->mem (l 0) p)(F0:Option Addr->(Int->World->Prop)->World->Prop)
  (hF: ∀(i:Nat) c,L[i]? =some c-> ∀K,K (cnt m (c.1*512) (c.1*512+512)) w->F0 (some ⟨c.2,0,none⟩) K w){K:Int->World->Prop}(hK:K (Gn m) w):
  At (Int×Int×Unit) (0,0,()) w λs1 _ Y T=>
   NC (some (Addr.mk r 0 none)) λp4=>
   ∃x5:Aa,Y.cell? p4=some (.slice x5.base x5.len x5.cap)/\
   CND (decide ((s1.2.1:Int)<((x5.len:Nat):Int))) (
    NC (some (Addr.mk r 0 none)) λp6=>
    ∃x7:Aa,Y.cell? p6=some (.slice x7.base x7.len x7.cap)/\
    NC x7.base λp8=>
    ((0:Int)<=s1.2.1/\(s1.2.1:Int)<(x7.len:Nat))/\
    ∃x9:(Option Addr),Y.cell? ((p8.add (Int.toNat s1.2.1*2)).add 1)=some (.pointer x9)/\
    F0 x9 (λaK aL=>
    T (i64 (s1.1+aK),i64 (s1.2.1+1),()) aL
    ) Y
   ) (
    K (u64 (s1.1)) Y
   ):=by
 have aZ:=Mo hI.HT hI.Xp;have hlen:=LL H;have aD: ∀p,mem m p-> ∃c∈L,c.1=p/512:=λp hp=>(hI.l0 p).1 (aJ p hp);simp only[AG];have aC: ∀{B:Int},0<=B->0<=cnt m 0 B/\cnt m 0 B<=B:=λh=>⟨DL _ _ _,by have:=E0 hm h;omega⟩;refine AH (λst w'=>w'=w/\ ∃(i:Nat) (B:Int),st.2.1=(i:Int)/\i<=L.length/\0<=B/\B<=34359738368/\st.1=cnt m 0 B/\(∀(j:Nat) J,j<i->L[j]? =some J->(J.1+1)*512<=B)/\(∀(j:Nat) J,i<=j->L[j]? =some J->B<=J.1*512)) (λst _=>(L.length-st.2.1).toNat)
  ⟨rfl,0,0,rfl,Nat.zero_le _,by decide,by decide,?_,λj J h=>by omega,λj J _ h=>by have:=hI.Xp J (List.mem_of_getElem? h);omega⟩ ?_
 .exact((DW hm (Int.le_refl _)).2 λk h1 h2=>by omega).symm
 rintro⟨n,i',v⟩ _ Y ⟨rfl,i,B,hi,aY,aA,aQ,hn,O,aB⟩;dsimp only at hi hn⊢;subst hi;subst hn;have aV:=aC aA;refine⟨s,Ey H,AB (λa1=>⟨s,Ey H,?_⟩) λaX=> ?_⟩
 .have y:=List.getElem?_eq_getElem (show i<L.length by omega);obtain⟨a,ha,a0,c1,c2⟩:=Kc H y;generalize L[i]=c at y c1 c2;have aH:=hI.Xp c (List.mem_of_getElem? y);rw[ha];simp only[AG,Int.toNat_natCast];refine⟨⟨by omega,by omega⟩,_,c2,hF i c y _ ?_⟩;have aI:=uQ hI.HT hm aD y aH.1 aA (aB i c (Nat.le_refl _) y) O;have aU:=aC (B:=(c.1+1)*512) (by omega);rw[AE (n:=(i:Int)+1),<-aI,AE];refine⟨⟨by trivial,i+1,(c.1+1)*512,by omega,by omega,by omega,by omega,by trivial,λj J hj d=> ?_,λj J hj d=> ?_⟩,by omega⟩
  .by_cases e:j=i
   .subst e;rw[y]at d;have:=Option.some.inj d;subst this;omega
   .have:=List.pairwise_iff_getElem.1 hI.HT j i (List.getElem?_eq_some_iff.1 d).1 (List.getElem?_eq_some_iff.1 y).1 (by omega);rw[(List.getElem?_eq_some_iff.1 d).2,(List.getElem?_eq_some_iff.1 y).2]at this;omega
  .have:=List.pairwise_iff_getElem.1 hI.HT i j (List.getElem?_eq_some_iff.1 y).1 (List.getElem?_eq_some_iff.1 d).1 (by omega);rw[(List.getElem?_eq_some_iff.1 d).2,(List.getElem?_eq_some_iff.1 y).2]at this;omega
 .rw[AK,uR hI.HT hm aD λc hc=>by
   obtain⟨j,hj⟩:=List.mem_iff_getElem?.1 hc;have:=(List.getElem?_eq_some_iff.1 hj).1;exact O j c (by omega) hj]
  exact hK
def Us(H:Sat (Gj E r l::Z) w){K:Int->World->Prop}(d:K (Gn (l 2)) w):F.BZ E (some ⟨r,0,none⟩) K w:=by
 obtain⟨s,L,U,G,hI,H⟩:=Sat.J0.1 H;unfold F.BZ T0.BZ;refine Zo hI H hI.Ol (λp hp=>((hI.l2 p).1 hp).1) (F.Bp E) (λi c v K d=> ?_) d;unfold F.Bp T0.Bp;simp only[AG];rw[add_eq,Nat.zero_add];refine Zl (Mp H v) (gW c) ?_;have j:=List.mem_of_getElem? v;rw[oB hI.Ol (fr:=c.1*512) λk h0 h1=>by
  rw[hI.l2];have:mem (l 0) (c.1*512+k):=(hI.l0 _).2 ⟨c,j,by omega⟩;simp[this]]
 exact d
def Zp(H:Sat (Gj E r l::Z) w){K:Int->Bool->World->Prop}(d: ∀w',Sat (Gj E r l::Z) w'->K ((findL (l 1) 1).getD 0) (findL (l 1) 1).isSome w'):F.B8 E (some ⟨r,0,none⟩) K w:=by
 unfold F.B8 T0.B8;exact Ur H (by decide) (by decide) λw' h=>d w' h
end
def MM(E:Env)(r:Nat)(V:TV):Pr:=Ex λl:Nat->Iv=>Jx (LV l V/\ ∀i,i<4->Ok (l i)) (Gj E r l)
section
variable{E:Env}{w:World}{Z:List Pr}{r t:Nat}{V:TV}{l:Nat->Iv}
def Sat.kV:Sat (MM E r V::Z) w↔ ∃l,(LV l V/\ ∀i,i<4->Ok (l i))/\Sat (Gj E r l::Z) w:=by
 unfold MM;rw[Sat.ex];constructor
 .rintro⟨l,h⟩;exact⟨l,Sat.where.1 h⟩
 .rintro⟨l,h⟩;exact⟨l,Sat.where.2 h⟩
def LV.congr{l l':Nat->Iv}(h:LV l V)(h0:l' 0=l 0)(h1:l' 1=l 1)(h2:l' 2=l 2):LV l' V:=⟨by rw[h0];exact h.i,by rw[h1];exact h.f,by rw[h2];exact h.r⟩
def PR(h:LV l V)(A2: ∀i,i<3->Ok (l i))(H: ∀l',l' 0=l 0->l' 1=l 1->l' 2=l 2->Sat (Gj E r l'::Z) w):Sat (MM E r V::Z) w:=by
 refine Sat.kV.2 ⟨λi=>if i<3 then l i else [],⟨h.congr rfl rfl rfl,λi d=> ?_⟩,H _ rfl rfl rfl⟩;by_cases g:i<3
 .grind
 .show Ok (if i<3 then l i else []);rw[if_neg g];trivial
def XN(H:Sat (MM E r V::Z) w){p:Int}(hp:0<=p)(j:p<18446744073709551616){K:Bool->Bool->Bool->World->Prop}(T: ∀w',Sat (MM E r V::Z) w'->K (V.KW p) (V.fr p) (V.rl p) w'):
  F.Bm E (some ⟨r,0,none⟩) p K w:=by
 obtain⟨l,d,H⟩:=Sat.kV.1 H;obtain⟨s,L,U,G,hI,H⟩:=Sat.J0.1 H;refine SA hI H hp j λw' r0 r1 r2 h0 h1 h2 v=> ?_;have y:r0=V.KW p:=Bool.eq_iff_iff.2 (h0.trans (d.1.i p));have J:r1=V.fr p:=Bool.eq_iff_iff.2 (h1.trans (d.1.f p));have O:r2=V.rl p:=Bool.eq_iff_iff.2 (h2.trans (d.1.r p));rw[y,J,O];exact T w' (Sat.kV.2 ⟨l,d,Sat.J0.2 ⟨s,L,U,G,hI,v⟩⟩)
def So(H:Sat (MM E r V::Z) w){K:Int->World->Prop}(j:K (NT V.rl) w):F.BZ E (some ⟨r,0,none⟩) K w:=by
 obtain⟨l,d,H⟩:=Sat.kV.1 H;refine Us H ?_;rw[<-YT (d.2 2 (by decide)) d.1.r];exact j
def XO(H:Sat (MM E r V::Z) w)(v: ∀p,V.fr p=true->0<=p/\p<34359738368){K:Int->Bool->World->Prop}(y:(∀p,V.fr p=false)-> ∀w',Sat (MM E r V::Z) w'->K 0 false w')
  (J: ∀p,Gt V 1 p-> ∀w',Sat (MM E r V::Z) w'->K p true w'):F.B8 E (some ⟨r,0,none⟩) K w:=by
 obtain⟨l,d,H⟩:=Sat.kV.1 H;refine Zp H λw' Y=> ?_;have T:=Sat.kV.2 ⟨l,d,Y⟩;cases hf:findL (l 1) 1 with
 | none=>
  refine y (λp=> ?_) w' T;cases g:V.fr p with
  | false=>rfl
  | true=>exact absurd ((IW d.1).2 λm a c=>by grind) (Mc (d.2 1 (by decide)) (by decide) hf p)
 | some p=>
  obtain⟨h1,h2⟩:=LD (d.2 1 (by decide)) (by decide) hf;have j:=(IW d.1).1 h1;have:=v p (j p (Int.le_refl _) (by omega));exact J p ⟨this.1,by omega,j,λp' O=>h2 p' ((IW d.1).2 O)⟩ w' T
def XP(H:Sat (MM E r V::Z) w){p:Int}(hp:0<=p)(aB:p<34359738368)(hi:V.KW p=true)(hf:V.fr p=true){K:Int->Int->World->Prop}(Y: ∀x y w',Sat (MM E r (V.take p 1)::Z) w'->K x y w'):
  F.By E (some ⟨r,0,none⟩) p 1 K w:=by
 obtain⟨l,⟨d,A2⟩,H⟩:=Sat.kV.1 H;have hr:Hh V p 1:=⟨by decide,by omega,λm a b=>by grind⟩;have h0:Ar l p 1 true 32=0:=(T7 d A2 hp (by decide) true (e:=32) (by decide)).2.2.1 hr rfl λm a b=>by grind
 refine Up H hp (by omega) (by decide) (by decide) (λh=>absurd h0 h) λ_ w' j=>Y _ _ w' (PR (l:=Sh.Oj l p 1) (d.Oj (by decide)) (λi hi=> ?_) λl' v J O=>j l' v J O);have T:i=0∨i=1∨i=2:=by omega
 rcases T with rfl|rfl|rfl
 .exact A2 0 (by decide)
 .exact Gl (A2 1 (by decide)) (by omega)
 .exact Gl (A2 2 (by decide)) (by omega)
def XQ(H:Sat (MM E r V::Z) w)(O: ∀p,V.rl p=true->V.fr p=true){p:Int}{g:Bool}(hp:0<=p)(aD:p<34359738368)(hi:V.KW p=true)(hf:V.fr p=false){K:Int->World->Prop}
  (hK: ∀w',Sat (MM E r (if g then V.back p 1 else V.OY p 1)::Z) w'->K 0 w'):
  F.Bf E (some ⟨r,0,none⟩) p 1 g K w:=by
 obtain⟨l,⟨d,A2⟩,H⟩:=Sat.kV.1 H;have hr:Hh V p 1:=⟨by decide,by omega,λm a b=>by grind⟩;have h0:Ar l p 1 false 31=0:=(T7 d A2 hp (by decide) false (e:=31) (by decide)).2.2.2.2 hr rfl λm a b=>by grind
 have Y:=d.M4 A2 hp (n:=1) (by decide) (by omega);refine Uq H (λq hq=>(d.f q).2 (O q ((d.r q).1 hq))) hp (by omega) (by decide) (by decide) (λh=>absurd h0 h) λ_ w' T=>hK w' ?_;have o1:=(FQ (A2 1 (by decide)) (a:=p) (b:=p+1) (by omega) hp (by omega)).1;have o2:=(FQ (A2 2 (by decide)) (a:=p) (b:=p+1) (by omega) hp (by omega)).1;cases g
 .refine PR (l:=Sh.M4 l 3 p 1) Y.1 (λi hi=> ?_) λl' j v y=>T l' j v y;have J:i=0∨i=1∨i=2:=by omega
  rcases J with rfl|rfl|rfl
  .exact A2 0 (by decide)
  .exact o1
  .exact A2 2 (by decide)
 .refine PR (l:=Sh.M4 l 2 p 1) Y.2 (λi hi=> ?_) λl' j v y=>T l' j v y;have J:i=0∨i=1∨i=2:=by omega
  rcases J with rfl|rfl|rfl
  .exact A2 0 (by decide)
  .exact o1
  .exact o2
end
def IQ(B:Int)(u g:Int->Bool):List Value:=.int .u64 B::(flags 64 u++flags 64 g)
structure pV(S:CS)(B:Int)(u g:Int->Bool):Prop where
 b0:0<=B
 b1:B+64<=34359738368
 bs: ¬S.empty->B=S.base
 hs: ∀i:Nat,i<64->u i=S.has i
 rl: ∀i:Nat,i<64->S.rel i=(S.has i&&g i)
 hz: ∀i:Nat,64<=i->S.has i=false
section
variable{E:Env}{w:World}{Z:List Pr}{r t q c b ty:Nat}{V:TV}{S:CS}{B:Int}{u g:Int->Bool}
def qget1{i:Int}(h0:0<=i)(h1:i<64):(IQ B u g)[1+i.toNat]? =some (.bool (u i)):=by
 show(Value.int .u64 B::(flags 64 u++flags 64 g))[1+i.toNat]? =_;rw[Nat.add_comm,List.getElem?_cons_succ,List.getElem?_append_left (by rw[Cd];omega)];have:=MV (n:=64) (u:=u) h0 (by omega)
 grind
def qget2{i:Int}(h0:0<=i)(h1:i<64):(IQ B u g)[65+i.toNat]? =some (.bool (g i)):=by
 show(Value.int .u64 B::(flags 64 u++flags 64 g))[65+i.toNat]? =_;rw[show 65+i.toNat=(64+i.toNat)+1 by omega,List.getElem?_cons_succ,List.getElem?_append_right (by rw[Cd];omega),Cd,show 64+i.toNat-64=i.toNat by omega];have:=MV (n:=64) (u:=g) h0 (by omega)
 grind
def qset1{i:Int}(h0:0<=i)(h1:i<64)(x:Bool):(IQ B u g).set (1+i.toNat) (.bool x)=IQ B (λj=>if j=i then x else u j) g:=by
 unfold IQ;rw[Nat.add_comm,List.set_cons_succ,List.set_append_left _ _ (by rw[Cd];omega)];have:=OF (n:=64) (u:=u) h0 x
 grind
def qset2{i:Int}(h0:0<=i)(h1:i<64)(x:Bool):(IQ B u g).set (65+i.toNat) (.bool x)=IQ B u (λj=>if j=i then x else g j):=by
 unfold IQ;rw[show 65+i.toNat=(64+i.toNat)+1 by omega,List.set_cons_succ,List.set_append_right _ _ (by rw[Cd];omega),Cd,show 64+i.toNat-64=i.toNat by omega];have:=OF (n:=64) (u:=g) h0 x
 grind
def uS:(IQ B u g).length=129:=by simp[IQ,Cd]
def Zq(v:Nat->Bool)(a m:Nat)(d:a<=m): ∀N,m<N->cN (λk=>v k&&(decide (a<=k)&&decide (k<m+1))) N=cN (λk=>v k&&(decide (a<=k)&&decide (k<m))) N+(if v m then 1 else 0)
 | 0,h=>by omega
 | N+1,h=>by
  simp only[cN];rcases Nat.lt_or_eq_of_le (Nat.le_of_lt_succ h)with q|q
  .rw[Zq v a m d N q]
   grind
  .subst q;have e:cN (λk=>v k&&(decide (a<=k)&&decide (k<m+1))) m=cN (λk=>v k&&(decide (a<=k)&&decide (k<m))) m:=oE λi j=>by grind
   grind
def uT(v:Nat->Bool)(N:Nat)(h: ∀i,i<N->v i=false):cN v N=0:=by
 induction N with
 | zero=>rfl
 | succ n ih=>simp only[cN];grind
end
section
variable{E:Env}{w:World}{Z:List Pr}{r t q c b ty:Nat}{V:TV}{S:CS}{B:Int}{u g:Int->Bool}
end
def qW(A D:List Value)(B:Int)(u g:Int->Bool):List Value:=A++(IQ B u g++D)
def gX(q ty:Nat)(A D:List Value)(S:CS):Pr:=Ex λx:Int×(Int->Bool)×(Int->Bool)=>Jx (pV S x.1 x.2.1 x.2.2) (Cells q ty (qW A D x.1 x.2.1 x.2.2))
section
variable{E:Env}{w:World}{Z:List Pr}{r t q c b ty:Nat}{V:TV}{S:CS}{B:Int}{u g:Int->Bool}{A D:List Value}
def Sat.yY:Sat (gX q ty A D S::Z) w↔ ∃B u g,pV S B u g/\Sat (Cells q ty (qW A D B u g)::Z) w:=by
 unfold gX;rw[Sat.ex];constructor
 .rintro⟨⟨B,u,g⟩,h⟩;exact⟨B,u,g,Sat.where.1 h⟩
 .rintro⟨B,u,g,h⟩;exact⟨⟨B,u,g⟩,Sat.where.2 h⟩
def dY{i:Nat}(d:i<129):(qW A D B u g)[A.length+i]? =(IQ B u g)[i]? :=by
 unfold qW;rw[List.getElem?_append_right (by omega),show A.length+i-A.length=i by omega,List.getElem?_append_left (by rw[uS];omega)]
def dZ{i:Nat}(d:i<129)(x:Value){B':Int}{u' g':Int->Bool}(h:(IQ B u g).set i x=IQ B' u' g'):(qW A D B u g).set (A.length+i) x=qW A D B' u' g':=by
 unfold qW;rw[List.set_append_right _ _ (by omega),show A.length+i-A.length=i by omega,List.set_append_left _ _ (by rw[uS];omega),h]
def pW:(qW A D B u g).length=A.length+129+D.length:=by unfold qW;rw[List.length_append,List.length_append,uS];omega
def eA(H:Sat (Cells q ty (qW A D B u g)::Z) w):w.cell? (Addr.mk q A.length none)=some (.int .u64 B):=H.Ah (o:=A.length) (by
 have:=dY (A:=A) (D:=D) (B:=B) (u:=u) (g:=g) (i:=0) (by decide);rw[Nat.add_zero]at this;rw[this];rfl)
def pX(H:Sat (Cells q ty (qW A D B u g)::Z) w){i:Int}(h0:0<=i)(h1:i<64):w.cell? (((Addr.mk q A.length none).add 1).add (i.toNat*1))=some (.bool (u i)):=by
 rw[add_add,Nat.mul_one];exact H.cell (o:=A.length) (m:=1+i.toNat) (by rw[dY (by omega)];exact qget1 h0 h1)
def pY(H:Sat (Cells q ty (qW A D B u g)::Z) w){i:Int}(h0:0<=i)(h1:i<64):w.cell? (((Addr.mk q A.length none).add 65).add (i.toNat*1))=some (.bool (g i)):=by
 rw[add_add,Nat.mul_one];exact H.cell (o:=A.length) (m:=65+i.toNat) (by rw[dY (by omega)];exact qget2 h0 h1)
def qstBW(H:Sat (Cells q ty (qW A D B u g)::Z) w){x:Int}{K:World->Prop}(d: ∀w',Sat (Cells q ty (qW A D x u g)::Z) w'->K w'):stCells (Addr.mk q A.length none) 0 [.int .u64 x] w K:=by
 refine CO H (o:=A.length) rfl (by rw[pW];omega) λw' j=>d w' ?_;have:=dZ (A:=A) (D:=D) (B:=B) (u:=u) (g:=g) (i:=0) (by decide) (.int .u64 x) (B':=x) (u':=u) (g':=g) rfl
 grind
def vU(H:Sat (Cells q ty (qW A D B u g)::Z) w){i:Int}(h0:0<=i)(h1:i<64){x:Bool}{K:World->Prop}(v: ∀w',Sat (Cells q ty (qW A D B (λj=>if j=i then x else u j) g)::Z) w'->K w'):
  stCells (((Addr.mk q A.length none).add 1).add (i.toNat*1)) 0 [.bool x] w K:=by
 rw[add_add,Nat.mul_one];refine AZ H (o:=A.length) (m:=1+i.toNat) rfl (by rw[pW];omega) λw' d=>v w' ?_;rw[dZ (by omega) _ (qset1 h0 h1 x)]at d;exact d
def qst2W(H:Sat (Cells q ty (qW A D B u g)::Z) w){i:Int}(h0:0<=i)(h1:i<64){x:Bool}{K:World->Prop}(v: ∀w',Sat (Cells q ty (qW A D B u (λj=>if j=i then x else g j))::Z) w'->K w'):
  stCells (((Addr.mk q A.length none).add 65).add (i.toNat*1)) 0 [.bool x] w K:=by
 rw[add_add,Nat.mul_one];refine AZ H (o:=A.length) (m:=65+i.toNat) rfl (by rw[pW];omega) λw' d=>v w' ?_;rw[dZ (by omega) _ (qset2 h0 h1 x)]at d;exact d
def Qg(H:Sat (gX q ty A D S::Z) w){K:Bool->World->Prop}(j:S.empty->K true w)(d: ¬S.empty->K false w):F.EI E (some ⟨q,A.length,none⟩) K w:=by
 obtain⟨B,u,g,hI,H⟩:=Sat.yY.1 H;unfold F.EI;simp only[AG];refine AH (λst w'=> ∃i:Nat,st.1=i/\i<=64/\(∀k:Nat,k<i->S.has k=false)/\w'=w) (λst _=>(64-st.1).toNat) ⟨0,rfl,by decide,λk hk=>by omega,rfl⟩ ?_;rintro⟨i',v⟩ _ w2 ⟨i,y,J,Y,rfl⟩;dsimp only at y⊢;subst y;refine AB (λT=>⟨⟨by omega,by omega⟩,_,pX H (by omega) (by omega),AQ (λe=>d λh=> ?_) λe=> ?_⟩) λO=>j λk=> ?_
 .rw[hI.hs i (by omega)]at e;rw[h i]at e;cases e
 .rw[AE (n:=(i:Int)+1)];refine⟨⟨i+1,by omega,by omega,λk hk=> ?_,by trivial⟩,by omega⟩;rcases Nat.lt_or_eq_of_le (Nat.le_of_lt_succ hk)with g|g
  .grind
  .subst g;rw[<-hI.hs k (by omega)];exact e
 .rcases Nat.lt_or_ge k 64 with g|g
  .grind
  .exact hI.hz k g
def XR(H:Sat (gX q ty A D S::Z) w){n:Int}(a9: -9223372036854775808<=n)(bA:n<9223372036854775808){K:Int->Int->Int->World->Prop}
  (aB:n<1∨64<n->K 0 0 1 w)(aK:1<=n->n<=64->(∀i,¬Jp S.has i n.toNat)->K 0 0 30 w)
  (aL:1<=n->n<=64-> ∀i,Jp S.has i n.toNat->(∀j,Jp S.has j n.toNat->i<=j)->i+n.toNat<=64-> ∀w',Sat (gX q ty A D (S.alloc i n.toNat)::Z) w'->
   K (S.base+i) (cN (λk=>S.rel k&&(decide (i<=k)&&decide (k<i+n.toNat))) 64) 0 w'):F.FT E (some ⟨q,A.length,none⟩) n K w:=by
 obtain⟨B,u,g,hI,H⟩:=Sat.yY.1 H;unfold F.FT;refine AV (AB (λh j=>AU rfl (aB (.inl h))) λg1 j=>AB (λh=>aB (.inr h)) λg2=> ?_);simp only[AG];generalize hN:n.toNat=N at *
 have bB:n=(N:Int):=by omega
 refine AH (λst w'=> ∃i run:Nat,st.2.1=i/\st.1=run/\i<=64/\run<=i/\run<N/\(∀k,i-run<=k->k<i->S.has k=true)/\(∀j,Jp S.has j N->i<j+N)/\(run=i∨S.has (i-run-1)=false)/\w'=w) (λst _=>(64-st.2.1).toNat)
  ⟨0,0,rfl,rfl,by decide,by decide,by omega,λk _ h=>by omega,λj _=>by omega,.inl rfl,rfl⟩ ?_
 rintro⟨r',i',v⟩ _ w5 ⟨i,run,hi,hr,aS,bD,bC,aW,T,aO,rfl⟩;dsimp only at hi hr⊢;subst hi;subst hr;refine AB (λa8=> ?_) λa4=> ?_
 .rw[AE (n:=(run:Int)+1),AE (n:=(i:Int)+1)];have a6:=hI.hs i (by omega);refine AV ⟨⟨by omega,by omega⟩,_,pX H (by omega) (by omega),AQ (λe j=> ?_) λe j=> ?_⟩
  .have e:S.has i=false:=by grind
   refine AU (by simp;omega) ⟨⟨i+1,0,by omega,rfl,by omega,by omega,by omega,λk h1 h2=>by omega,λj d=> ?_,.inr (by grind),by trivial⟩,by omega⟩;have:=T j d;rcases Nat.lt_or_ge (i+1) (j+N)with q|q
   .exact q
   .have:=d (i-j) (by omega)
    grind
  .have e:S.has i=true:=by grind
   have y: ∀k,i-run<=k->k<i+1->S.has k=true:=λk h1 h2=>by grind
   refine AB (λaT=>⟨⟨i+1,run+1,by omega,by omega,by omega,by omega,by omega,λk h1 h2=>y k (by omega) h2,λj d=> ?_,?_,by trivial⟩,by omega⟩) λaQ=>AY λaP J=> ?_
   .have:=T j d;rcases Nat.lt_or_ge (i+1) (j+N)with q|q
    .exact q
    .rcases aO with h|h
     .omega
     .have:=d (i-run-1-j) (by omega)
      grind
   .grind
   .have aV:run+1=N:=by omega
    have J:aP=((i+1-N:Nat):Int):=by
     rw[AE (n:=(i:Int)-n),AE]at J;omega
    generalize ha:i+1-N=a at J;have aE:Jp S.has a N:=λk hk=>y _ (by omega) (by omega);subst J;have aD: ¬S.empty:=λh=>by rw[h i]at e;cases e
    refine AH (λst w'=> ∃k:Nat,st.2.1=k/\a<=k/\k<=i+1/\st.1=cN (λj=>S.rel j&&(decide (a<=j)&&decide (j<k))) 64/\Sat (Cells q ty (qW A D B (λj=>if(a:Int)<=j/\j<k then false else u j) g)::Z) w') (λst _=>((i:Int)+1-st.2.1).toNat)
     ⟨a,rfl,Nat.le_refl _,by omega,?_,?_⟩ ?_
    .show(0:Int)=_;rw[uT _ _ λj d=> ?_];rfl
     grind
    .have:(λj:Int=>if(a:Int)<=j/\j<(a:Int)then false else u j)=u:=by funext j;rw[if_neg (by omega)]
     grind
    rintro⟨cn,k',v⟩ _ aF ⟨k,hk,aI,a7,aJ,O⟩;dsimp only at hk aJ⊢;subst hk;refine AB (λhle=> ?_) λa5=> ?_
    .have aM:=y k (by omega) (by omega);have aN:=hI.rl k (by omega);rw[aM,Bool.true_and]at aN;have a3:=Zq S.rel a k aI 64 (by omega);have a2:=Oh (λj=>S.rel j&&(decide (a<=j)&&decide (j<k))) 64;rw[AE (n:=cn+1),AE (n:=(k:Int)+1)];have fin: ∀Y:Int,Y=cN (λj=>S.rel j&&(decide (a<=j)&&decide (j<k+1))) 64->
       ((0:Int)<=(k:Int)/\(k:Int)<(64:Nat))/\stCells (((Addr.mk q A.length none).add 1).add (Int.toNat (k:Int)*1)) 0 [.bool false] aF λaG=>
        (∃m:Nat,(k:Int)+1=m/\a<=m/\m<=i+1/\Y=cN (λj=>S.rel j&&(decide (a<=j)&&decide (j<m))) 64/\Sat (Cells q ty (qW A D B (λj=>if(a:Int)<=j/\j<m then false else u j) g)::Z) aG)/\((i:Int)+1-((k:Int)+1)).toNat<((i:Int)+1-(k:Int)).toNat:=λY aA=>by
      refine⟨⟨by omega,by omega⟩,vU O (by omega) (by omega) λaG aX=>⟨⟨k+1,by omega,by omega,by omega,aA,?_⟩,by omega⟩⟩;have:(λj:Int=>if(a:Int)<=j/\j<((k+1:Nat):Int)then false else u j)=λj=>if j=(k:Int)then false else if(a:Int)<=j/\j<(k:Int)then false else u j:=by grind
      grind
     refine AV ⟨⟨by omega,by omega⟩,_,pY O (by omega) (by omega),AQ (λe1 j=>fin _ ?_) λe1 j=>fin _ ?_⟩
     .grind
     grind
    .have aC:k=i+1:=by omega
     have Ca:=eA O;refine⟨B,Ca,AY λt25 ht=> ?_⟩;have a0:=hI.b0;have a1:=hI.b1;rw[AE (n:=(i:Int)-n),AE (n:=(i:Int)-n+1),AK (n:=(i:Int)-n+1),AK]at ht;have aH:a+N=i+1:=by omega
     have:=aL (by omega) (by omega) a aE (λj d=>by have:=T j d;omega) (by omega) aF (Sat.yY.2 ⟨B,_,g,⟨hI.b0,hI.b1,λ_=>hI.bs aD,λj d=> ?_,λj d=> ?_,λj d=> ?_⟩,O⟩)
     .rw[<-hI.bs aD,aH,<-aC]at this
      grind
     .show(if(a:Int)<=(j:Int)/\(j:Int)<(k:Int)then false else u j)=(S.has j&& !(decide (a<=j)&&decide (j<a+N)));rw[hI.hs j d]
      grind
     .show(S.rel j&& !(decide (a<=j)&&decide (j<a+N)))=((S.has j&& !(decide (a<=j)&&decide (j<a+N)))&&g j);rw[hI.rl j d]
      grind
     .show(S.has j&& !(decide (a<=j)&&decide (j<a+N)))=false;rw[hI.hz j d];rfl
 .refine aK (by omega) (by omega) λj d=> ?_;have h1:=T j d;have h2:=d (N-1) (by omega);rw[hI.hz _ (by omega)]at h2;cases h2
def Zr(H:Sat (gX q ty A D S::MM E r V::Z) w)(aB: ∀p,V.fr p=true->V.KW p=true)(a2: ∀p,V.rl p=true->V.fr p=true)(aC: ∀p,V.KW p=true->0<=p/\p<34359738368){K:Int->World->Prop}
  (aL: ¬S.empty-> ∀w',Sat (gX q ty A D S::MM E r V::Z) w'->K 33 w')(aM:S.empty->(∀p,V.fr p=false)-> ∀w',Sat (gX q ty A D S::MM E r V::Z) w'->K 30 w')
  (aN:S.empty-> ∀p,Gt V 1 p-> ∀w',Sat (gX q ty A D ⟨p/64*64,λi=>decide (i<64)&&V.fr (p/64*64+i),λi=>decide (i<64)&&V.rl (p/64*64+i)⟩::MM E r (V.take (p/64*64) 64)::Z) w'->K 0 w'):
  F.CR E (some ⟨q,A.length,none⟩) (some ⟨r,0,none⟩) K w:=by
 unfold F.CR T0.CR;have sw: ∀{P1 P2:Pr} {w'},Sat (P1::P2::Z) w'->Sat (P2::P1::Z) w':=λh=>h.perm (.swap _ _ _);refine Qg H (λhe=>AO rfl ?_) λhe=>AU rfl (aL he w H);refine XO (sw H) (λp hp=>aC p (aB p hp)) (λaO w' H'=>AU rfl (aM he aO w' (sw H'))) λp hp w5 H5=>AO rfl ⟨by decide,?_⟩;have aP:=hp.1;have a1:=hp.2.1;obtain⟨B0,u,g,hI,H6⟩:=Sat.yY.1 (sw H5);rw[Int.tmod_eq_emod_of_nonneg aP,AK (n:=p-p %64),show p-p %64=p/64*64 by omega];simp only[AG];have J:=aN he p hp;generalize hB:p/64*64=B at J⊢;have aA:0<=B/\B+64<=34359738368/\B %64=0:=by omega
 refine qstBW H6 λw7 H7=> ?_;have H7:Sat (Cells q ty (qW A D B u g)::MM E r V::Z) w7:=H7;have y:V.take B ((0:Nat):Int)=V:=by
  have e: ∀q,inr B ((0:Nat):Int) q=false:=λq=>IJ.2 (by omega);unfold TV.take;simp only[e];simp
 have O: ∀i:Nat,(V.take B i).take (B+i) 1=V.take B ((i+1:Nat):Int):=λi=>by
  have e: ∀x,(!inr B ((i+1:Nat):Int) x)=(!inr B i x&& !inr (B+i) 1 x):=λx=>by
   rw[<-Bool.not_or];congr 1;apply Bool.eq_iff_iff.2;rw[Bool.or_eq_true,Ai,Ai,Ai];omega
  unfold TV.take
  grind
 refine AH (λst w'=> ∃i:Nat,st.1=(i:Int)/\i<=64/\Sat (Cells q ty (qW A D B (λj=>if j<(i:Int)then V.fr (B+j)else u j) (λj=>if j<(i:Int)then V.rl (B+j)else g j))::MM E r (V.take B i)::Z) w') (λst _=>(64-st.1).toNat)
  ⟨0,rfl,by decide,?_⟩ ?_
 .rw[y]
  skip
  have e:qW A D B (λj=>if j<((0:Nat):Int)then V.fr (B+j)else u j) (λj=>if j<((0:Nat):Int)then V.rl (B+j)else g j)=qW A D B u g:=by
   have f1:flags 64 (λj=>if j<((0:Nat):Int)then V.fr (B+j)else u j)=flags 64 u:=JP λk h0 h1=>if_neg (by omega);have f2:flags 64 (λj=>if j<((0:Nat):Int)then V.rl (B+j)else g j)=flags 64 g:=JP λk h0 h1=>if_neg (by omega);unfold qW IQ;rw[f1,f2]
  grind
 rintro⟨i',v⟩ _ w9 ⟨i,hi,aV,H9⟩;dsimp only at hi⊢;subst hi;refine AB (λaD=> ?_) λaZ=> ?_
 .refine⟨B,eA H9,?_⟩;rw[AK (n:=(i:Int)),AK (n:=B+(i:Int)),AE (n:=(i:Int)+1)];refine XN (sw H9) (by omega) (by omega) λa3 aE=>⟨⟨by omega,by omega⟩,vU (sw aE) (by omega) aD λa4 aF=>⟨⟨by omega,by omega⟩,qst2W aF (by omega) aD λa5 d=> ?_⟩⟩;have aT:inr B (i:Int) (B+i)=false:=IJ.2 (by omega);have Y:(V.take B i).fr (B+i)=V.fr (B+i):=by show(V.fr (B+i)&& !inr B i (B+i))=_;grind
  have aJ:(V.take B i).rl (B+i)=V.rl (B+i):=by show(V.rl (B+i)&& !inr B i (B+i))=_;grind
  rw[Y,aJ]at d;have aH:(λj:Int=>if j=(i:Int)then V.fr (B+i)else if j<(i:Int)then V.fr (B+j)else u j)=λj=>if j<((i+1:Nat):Int)then V.fr (B+j)else u j:=by grind
  have aI:(λj:Int=>if j=(i:Int)then V.rl (B+i)else if j<(i:Int)then V.rl (B+j)else g j)=λj=>if j<((i+1:Nat):Int)then V.rl (B+j)else g j:=by grind
  rw[aH,aI]at d;rw[Y];refine AQ (λe=> ?_) λe=> ?_
  .refine⟨B,eA d,?_⟩;rw[AK (n:=B+(i:Int))];refine XP (sw d) (by omega) (by omega) (aB _ e) (by grind) ?_;intro _ _ a6 T;refine⟨⟨i+1,by omega,by omega,?_⟩,by omega⟩;rw[O]at T;exact sw T
  .refine⟨⟨i+1,by omega,by omega,?_⟩,by omega⟩;have a0:V.rl (B+i)=false:=by grind
   have:V.take B ((i+1:Nat):Int)=V.take B i:=by
    have e1: ∀x,(V.fr x&& !inr B ((i+1:Nat):Int) x)=(V.fr x&& !inr B i x):=λx=>by
     by_cases hx:x=B+i
     .grind
     .have:inr B ((i+1:Nat):Int) x=inr B i x:=Bool.eq_iff_iff.2 (by rw[Ai,Ai];omega);rw[this]
    have e2: ∀x,(V.rl x&& !inr B ((i+1:Nat):Int) x)=(V.rl x&& !inr B i x):=λx=>by grind
    unfold TV.take
    grind
   grind
 .have aK:i=64:=by omega
  subst aK;refine J w9 (Sat.yY.2 ⟨B,_,_,⟨aA.1,aA.2.1,λ_=>rfl,λk hk=> ?_,λk hk=> ?_,λk hk=> ?_⟩,H9⟩)
  .grind
  .grind
  grind
end
def Sat.uU{F:List Pr}{w:World}{t:Nat}{s:Aa}{vs us:List Value}(H:Sat (Row t 1 s (vs++us)::F) w):Sat (Row t 1 ⟨s.base,vs.length,s.cap⟩ vs::F) w:=by
 obtain⟨D,h,hs⟩:=H.step;have d:=h.2;have J:vs.length+us.length=s.len:=by have:=d.len;grind
 refine hs w D _ (Ext.refl _ _) ⟨h.1,⟨by simp,by have:=d.cap;grind,d.top,?_⟩⟩ λ_ hk=>.inl hk;rcases d.row with h1|⟨b,cs,h1,h2,v,y,j⟩
 .grind
 .refine .inr ⟨b,cs,h1,h2,v,y,?_⟩;simp only[Nat.mul_one]at j⊢;rw[show vs.length=min vs.length s.len by omega,<-List.take_take,j,List.take_left'];rfl
def NH(X:FX):List Bool:=(List.range X.n).map λi=>decide (i∉X.bk)
def Ku(X:FX):List Int:=X.bk.reverse.map λa:Nat=>(a:Int)+1
def Ix(X:FX):(NH X).length=X.n:=by simp[NH]
def LM{X:FX}{i:Nat}(h:i<X.n):(NH X)[i]? =some (decide (i∉X.bk)):=by simp[NH,h]
def RR(X:FX):(Ku X).length=X.bk.length:=by simp[Ku]
def vV(E:Env)(b:Nat)(X:FX)(s1 s2:Aa):List Pr:=[Cells b E.Jh [.int .i64 64,.int .i64 (X.n:Int),Fo s1,Fo s2],Row E.A9 1 s1 (Bn (NH X)),Row E.Bx 1 s2 (ints .i64 (Ku X))]
def KA(E:Env)(b:Nat)(X:FX):Pr:=Ex λx:Aa×Aa=>Jx (Yl X) (NB (vV E b X x.1 x.2))
section
variable{E:Env}{b:Nat}{X:FX}{Z:List Pr}{w:World}
def Sat.kX:Sat (KA E b X::Z) w↔ ∃s1 s2,Yl X/\Sat (vV E b X s1 s2++Z) w:=by
 unfold KA;rw[Sat.ex];constructor
 .rintro⟨⟨s1,s2⟩,h⟩;rw[Sat.where,Sat.star]at h
  grind
 .rintro⟨s1,s2,h1,h2⟩;refine⟨⟨s1,s2⟩,?_⟩;rw[Sat.where,Sat.star]
  grind
def eB(H:Sat Z w){K:Option Addr->Int->World->Prop}(v: ∀b w',Sat (KA E b ⟨0,[]⟩::Z) w'->K (some ⟨b,0,none⟩) 0 w'):F.I4 E 64 K w:=by
 unfold F.I4;refine AV (AO (by decide) λj=>AO (by decide) ?_);refine AR (vs:=[.int .i64 64,.int .i64 0,.slice none 0 0,.slice none 0 0]) H λb w' d _=>v b w' (Sat.kX.2 ⟨⟨none,0,0⟩,⟨none,0,0⟩,⟨.nil,λi h=>(by cases h),by decide⟩,?_⟩);exact((d.nil E.A9 1).nil E.Bx 1).perm ((List.reverse_perm [_,_,_]).symm.append_right Z)|>.perm (.cons _ (.refl _))
def kY{X:FX}{a:Nat}{r:List Nat}(hI:Yl X)(d:X.bk=a::r):(NH X).set a true=NH ⟨X.n,r⟩:=by
 have j:=hI.nd;rw[d,List.nodup_cons]at j;apply List.ext_getElem?;intro i;have v:a<X.n:=hI.lt a (by rw[d];simp);rw[List.getElem?_set];by_cases e:a=i
 .subst e;rw[if_pos rfl,if_pos (by rw[Ix];exact v)];have:=LM (X:=⟨X.n,r⟩) (i:=a) v
  grind
 .rw[if_neg e];by_cases g:i<X.n
  .rw[LM g,LM (X:=⟨X.n,r⟩) g,d]
   grind
  .rw[List.getElem?_eq_none (by rw[Ix];omega),List.getElem?_eq_none (by rw[Ix];show X.n<=i;omega)]
def kZ{X:FX}{a:Nat}(d:a<X.n):(NH X).set a false=NH ⟨X.n,a::X.bk⟩:=by
 apply List.ext_getElem?;intro i;rw[List.getElem?_set];by_cases e:a=i
 .subst e;rw[if_pos rfl,if_pos (by rw[Ix];exact d)];have:=LM (X:=⟨X.n,a::X.bk⟩) (i:=a) d
  grind
 .rw[if_neg e];by_cases g:i<X.n
  .rw[LM g,LM (X:=⟨X.n,a::X.bk⟩) g]
   grind
  .rw[List.getElem?_eq_none (by rw[Ix];omega),List.getElem?_eq_none (by rw[Ix];show X.n<=i;omega)]
def pZ{X:FX}(d:X.bk=[]):NH X++[true]=NH ⟨X.n+1,[]⟩:=by
 unfold NH;rw[d,List.range_succ];simp
def Zs(H:Sat (KA E b X::Z) w)(aN:X.n<1099511627776){K:Int->World->Prop}
  (aH:X.bk=[]-> ∀w',Sat (KA E b ⟨X.n+1,[]⟩::Z) w'->K ((X.n:Int)+1) w')
  (aI: ∀a r,X.bk=a::r-> ∀w',Sat (KA E b ⟨X.n,r⟩::Z) w'->K ((a:Int)+1) w'):F.GU E (some ⟨b,0,none⟩) K w:=by
 obtain⟨s1,s2,hI,H⟩:=Sat.kX.1 H;have aJ:=(H.front 1 rfl).Du;have d:=(H.front 2 rfl).Du;rw[Bn,List.length_map,Ix,Nat.mul_one]at aJ;rw[ints,List.length_map,RR,Nat.mul_one]at d;unfold F.GU;simp only[AG];refine⟨s2,H.cell rfl,?_⟩;cases hb:X.bk with
 | nil=>
  rw[hb]at d;simp at d;refine AO (decide_eq_false (by omega)) ⟨(X.n:Int),H.cell rfl,?_⟩;rw[AE (n:=(X.n:Int)+1)];refine AZ H (o:=0) (m:=1) rfl (by simp) λaV Y=>⟨s1,Y.cell rfl,?_⟩;refine AR (vs:=[.bool true]) Y λaP aW aC _=> ?_;refine EX (news:=[.bool true]) (aC.DR 1 rfl) rfl rfl (by simp[Value.oneCell']) (by omega) (by omega) λQ4 aX aD _=> ?_;refine AZ (aD.front 1 rfl) (o:=0) (m:=2) rfl (by simp) λaL v=>⟨_,v.cell rfl,aH hb aL (Sat.kX.2 ⟨Q4,s2,⟨.nil,λi h=>(by cases h),by grind⟩,?_⟩)⟩;have e1:Bn (NH X)++[.bool true]=Bn (NH ⟨X.n+1,[]⟩):=by rw[<-pZ hb];simp[Bn]
  have e2:Ku X=Ku ⟨X.n+1,[]⟩:=by unfold Ku;rw[hb]
  rw[e1,e2]at v;exact v
 | cons a r=>
  have aG:Ku X=Ku ⟨X.n,r⟩++[(a:Int)+1]:=by unfold Ku;grind
  have hlen:(Ku ⟨X.n,r⟩).length=r.length:=RR _;rw[hb,List.length_cons]at d;have ha:a<X.n:=hI.lt a (by rw[hb];simp);obtain⟨x2,aB⟩:=(H.front 2 rfl).own.Eo (by omega);obtain⟨x1,aA⟩:=(H.front 1 rfl).own.Eo (by omega);have aM:=(H.front 2 rfl).own.cap;have aO:=(H.front 2 rfl).own.top;refine AU (decide_eq_true (by omega)) ⟨s2,H.cell rfl,?_⟩;rw[AE (n:=((s2.len:Nat):Int)-1),show Int.toNat (((s2.len:Nat):Int)-1)=r.length by omega,aB];simp only[AG];have c6:w.cell? ((Addr.mk x2 0 none).add (r.length*1))=some (.int .i64 ((a:Int)+1)):=by
   refine(H.front 2 rfl).own.cell aB ?_;rw[Nat.mul_one];refine IF ?_
   grind
  refine⟨⟨by omega,by omega⟩,_,c6,s2,H.cell rfl,⟨by omega,by omega⟩,?_⟩;rw[KR,AE (n:=(a:Int)+1-1),show Int.toNat ((a:Int)+1-1)=a by omega];refine AZ H (o:=0) (m:=3) rfl (by simp) λaU y=>⟨s1,y.cell rfl,?_⟩;rw[aA];simp only[AG,Nat.mul_one];refine⟨⟨by omega,by omega⟩,?_⟩;refine HE (y.front 1 rfl) (j:=a) rfl (by rw[Bn,List.length_map,Ix];exact ha) aA λaK J=>aI a r hb aK (Sat.kX.2 ⟨s1,⟨s2.base,r.length,s2.cap⟩,⟨?_,λi hi=>hI.lt i (by rw[hb];exact .tail _ hi),hI.KY⟩,?_⟩)
  .have:=hI.nd
   grind
  .have e1:(Bn (NH X)).set a (.bool true)=Bn (NH ⟨X.n,r⟩):=by rw[<-kY hI hb];unfold Bn;rw[List.map_set]
   rw[e1]at J;have O:=J.front 2 rfl;have e2:ints .i64 (Ku X)=ints .i64 (Ku ⟨X.n,r⟩)++[.int .i64 ((a:Int)+1)]:=by rw[aG];simp[ints]
   rw[e2]at O;have T:=O.uU;have e3:(ints .i64 (Ku ⟨X.n,r⟩)).length=r.length:=by rw[ints,List.length_map,hlen]
   rw[e3]at T;exact T.front 2 rfl|>.perm (.cons _ (.swap _ _ _))
def Zt(H:Sat (KA E b X::Z) w){a:Nat}(O:a<X.n)(J:a∉X.bk)(aE:X.bk.length<1099511627776){K:Int->World->Prop}(hK: ∀w',Sat (KA E b ⟨X.n,a::X.bk⟩::Z) w'->K 0 w'):F.C1 E (some ⟨b,0,none⟩) ((a:Int)+1) K w:=by
 obtain⟨s1,s2,hI,H⟩:=Sat.kX.1 H;have aA:=(H.front 1 rfl).Du;have aB:=(H.front 2 rfl).Du;have hf:=hI.KY;rw[Bn,List.length_map,Ix,Nat.mul_one]at aA;rw[ints,List.length_map,RR,Nat.mul_one]at aB;obtain⟨x1,d⟩:=(H.front 1 rfl).own.Eo (by omega);have v:w.cell? ((Addr.mk x1 0 none).add (a*1))=some (.bool true):=by
  refine(H.front 1 rfl).own.cell d ?_;rw[Nat.mul_one];refine L5 ?_;rw[LM O,decide_eq_true J]
 unfold F.C1 T0.C1 F.II;simp only[AG];refine AU (decide_eq_true (by omega)) ⟨(X.n:Int),H.cell rfl,AU (decide_eq_true (by omega)) ⟨s1,H.cell rfl,?_⟩⟩;rw[AE (n:=(a:Int)+1-1),show Int.toNat ((a:Int)+1-1)=a by omega,d];simp only[AG];refine⟨⟨by omega,by omega⟩,true,v,AO rfl ⟨s1,H.cell rfl,?_⟩⟩;rw[d];simp only[AG,Nat.mul_one];refine⟨⟨by omega,by omega⟩,HE (H.front 1 rfl) (j:=a) rfl (by rw[Bn,List.length_map,Ix];exact O) d λw6 H6=>⟨s2,(H6.front 1 rfl).cell rfl,?_⟩⟩;refine AR (vs:=[.int .i64 ((a:Int)+1)]) H6 λb9 aJ T _=> ?_;refine EX (news:=[.int .i64 ((a:Int)+1)]) (T.DR 2 rfl) rfl rfl (by simp[Value.oneCell']) (by omega) (by omega) λs11 aK Y _=> ?_;refine AZ (Y.front 2 rfl) (o:=0) (m:=3) rfl (by simp) λaC y=>hK aC (Sat.kX.2 ⟨s1,s11,⟨List.nodup_cons.2 ⟨J,hI.nd⟩,λi hi=>by
  rcases List.mem_cons.1 hi with e|e
  .rw[e];exact O
  .exact hI.lt i e,hI.KY⟩,?_⟩)
 have e1:(Bn (NH X)).set a (.bool false)=Bn (NH ⟨X.n,a::X.bk⟩):=by rw[<-kZ O];unfold Bn;rw[List.map_set]
 have e2:ints .i64 (Ku X)++[.int .i64 ((a:Int)+1)]=ints .i64 (Ku ⟨X.n,a::X.bk⟩):=by simp[ints,Ku]
 rw[e1,e2]at y;exact y.perm (.cons _ (.swap _ _ _))
end
def powL:Nat->Int->Bool
 | 0,n=>n==1
 | k+1,n=>if n>1 then(if Int.tmod n 2=0 then powL k (u64 (Int.tdiv n 2))else n==1)else n==1
def QH.qA(s:QH):Bool:=decide (1<s.l.length)&&(s.last.2.1==i64 (Int.tdiv (bytesF s.size 16 8192) 8192)&&(i64 (Int.tdiv (bytesF s.size 16 8192) s.last.1)==i64 (Int.tdiv (bytesF s.size 16 8192) s.size)))
def QH.ok5(s:QH):Bool:=(s.qA==s.same)&&(powL 64 (u64 s.size)==Wx (u64 s.size))
def allOk5:Nat->QH->Bool
 | 0,_=>true
 | n+1,s=>match s.ok5 with
  | true=>allOk5 n s.next
  | false=>false
def uV:allOk5 rounds (Om 0)=true:=by decide+kernel
def SB: ∀(n k:Nat),allOk5 n (Om k)=true-> ∀j,j<n->(Om (k+j)).ok5=true
 | 0,k,h,j,hj=>by omega
 | n+1,k,h,j,hj=>by
  unfold allOk5 at h;split at h
  .rename_i hg;cases j with
   | zero=>exact hg
   | succ j=>have:=SB n (k+1) h j (by omega);grind
  .cases h
def ok5{k:Nat}(h:k<rounds):(Om k).qA=(Om k).same/\powL 64 (u64 (Om k).size)=Wx (u64 (Om k).size):=by
 have:=SB rounds 0 uV k h;rw[Nat.zero_add]at this;unfold QH.ok5 at this
 grind
section
variable{E:Env}{w:World}{Z:List Pr}
def RS{n:Int}(y:0<=n)(J:n<18446744073709551616){K:Bool->World->Prop}(d:K (powL 64 n) w):F.Jk E n K w:=by
 unfold F.Jk;refine AH (λst w'=>w'=w/\ ∃i:Nat,i<=64/\0<=st.1/\st.1<(2:Int)^(64-i)/\powL (64-i) st.1=powL 64 n) (λst _=>st.1.toNat) ⟨rfl,0,by decide,y,J,rfl⟩ ?_;rintro⟨m,u⟩ _ O ⟨rfl,i,T,m0,m1,hm⟩;dsimp only at m0 m1 hm⊢;have j:(m>1->Int.tmod m 2≠0)->K (m==1) O:=λh=>by
  rw[<-hm]at d;cases hk:64-i with
  | zero=>rw[hk]at d;exact d
  | succ k=>
   rw[hk]at d;unfold powL at d;by_cases g:m>1
   .rw[if_pos g,if_neg (h g)]at d;exact d
   .rw[if_neg g]at d;exact d
 refine AB (λg=>⟨by decide,BF (λe=>⟨by decide,?_⟩) λe=>j λ_=>e⟩) λg=>j λh=>absurd h g;cases hk:64-i with
 | zero=>grind
 | succ k=>
  rw[hk]at m1 hm;unfold powL at hm;rw[if_pos g,if_pos e]at hm;have hp:(2:Int)^(k+1)=2^k*2:=Int.pow_succ 2 k;have v:(2:Int)^(k+1)<=2^64:=by
   have:(2:Nat)^(k+1)<=2^64:=Nat.pow_le_pow_right (by decide) (by omega)
   grind
  have hd:Int.tdiv m 2=m/2:=Int.tdiv_eq_ediv_of_nonneg m0;have he:(2:Int)^64=18446744073709551616:=by decide
  have hu:u64 (Int.tdiv m 2)=m/2:=by rw[hd,AK]
  rw[hu]at hm⊢;exact⟨⟨rfl,i+1,by omega,by omega,by grind,by show powL (64-(i+1)) (m/2)=_;rw[show 64-(i+1)=k by omega];exact hm⟩,by omega⟩
def Zu{n:Int}(v:n<2∨n≠0){K:Int->World->Prop}(d:K (if n<2 then 0 else IntKind.wrap .u32 (IntKind.wrap .u32 (Int.tdiv 4294967295 n)+1)) w):F.IU E n K w:=by
 unfold F.IU;refine AB (λh=> ?_) λh=>⟨by omega,AY λx j=> ?_⟩
 .rw[if_pos h]at d;exact d
 .rw[if_neg h]at d;rw[j];exact d
def Zv(H:Sat Z w){K:Aa->Int->World->Prop}(hK: ∀s w',Sat (Row E.A6 4 s (Al JY MB)::Z) w'->K s 0 w'):F.Ei E 8192 32768 K w:=by
 unfold F.Ei T0.Ei;have p1:powL 64 (u64 8192)=true:=by decide+kernel
 have p2:powL 64 (u64 32768)=true:=by decide+kernel
 refine AV (AO (by decide) (AO (by decide) (RS (by decide+kernel) (by decide+kernel) ?_)));rw[p1];refine AO rfl (AO (by decide) (AO (by decide+kernel) (RS (by decide+kernel) (by decide+kernel) ?_)));rw[p2];refine λj=>AO rfl ?_;obtain⟨aB,aK⟩:=runs;refine HI (n:=1) (z:=4) H rfl (by decide) λb8 w9 H9=> ?_;refine AH (λst w'=> ∃k:Nat,k<=rounds/\st.2.1=(Om k).ML/\st.2.2.1=(Om k).size/\Sat (Row E.A6 4 st.1 (Al JY (Om k).l)::Z) w') (λst _=>(40000-st.2.2.1).toNat)
  ⟨0,Nat.zero_le _,rfl,rfl,H9⟩ ?_
 rintro⟨EB,ML,size,v⟩ _ bF ⟨k,hk,aM,aJ,Y⟩;dsimp only at aM aJ Y⊢;have hl:=Y.Gv (by decide) Au;refine AB (λhle=> ?_) λaF=> ?_
 .have aG:k<rounds:=by
   rcases Nat.lt_or_eq_of_le hk with g|g
   .exact g
   .subst g;rw[aK]at aJ;have:=gG;omega
  have hg:=QJ (aB k aG);obtain⟨o1,o2⟩:=ok5 aG;rw[aM,aJ];generalize hS:Om k=S at hg aJ aM Y hl o1 o2⊢;have aH:Om (k+1)=S.next:=by rw[<-hS];rfl
  have bU:=hg.s0;have bV:=hg.s1;have aX:=hg.l0;have bI:=hg.l1;have bM:=hg.st0;have bN:=hg.st1;refine AX (λst w'=>st.1=JT S.size S.ML/\w'=bF) ?_ ?_
  .refine RS (by rw[AK];omega) (by rw[AK];omega) ?_;rw[o2];unfold JT;cases hp:Wx (u64 S.size)
   .refine AO rfl ⟨?_,rfl⟩
    grind
   .rw[if_neg (by decide)];refine AU rfl (AB (λh=>⟨?_,rfl⟩) λh=>AB (λh2=>⟨by decide,AY λx hx=>⟨?_,rfl⟩⟩) λh2=>AB (λh3=>⟨?_,rfl⟩) λh3=>⟨?_,rfl⟩)
    .omega
    .omega
    .omega
    omega
  rintro⟨step,v⟩ _ bG ⟨aC,rfl⟩;dsimp only at aC⊢;subst aC;refine AH (λst w'=>w'=bG/\ ∃i:Nat,i<=16/\st.1=8192+i*8192/\bytesF S.size (16-i) st.1=bytesF S.size 16 8192) (λst _=>(200000-st.1).toNat) ⟨rfl,0,by decide,by omega,rfl⟩ ?_;rintro⟨n,v⟩ _ b6 ⟨rfl,i,hi,hn,J⟩;dsimp only at hn J⊢;refine⟨by omega,by decide,AB (λaF=> ?_) λhle=> ?_⟩
  .rcases Nat.lt_or_ge i 16 with h8|h8
   .obtain⟨k,hk⟩: ∃k,16-i=k+1:=⟨15-i,by omega⟩;rw[hk]at J;rw[AE (n:=n+8192)];refine⟨⟨rfl,i+1,by omega,by omega,?_⟩,by omega⟩;rw[<-J,show 16-(i+1)=k by omega];unfold bytesF;rw[if_pos aF,AE (n:=n+8192)];cases k<;>rfl
   .have:i=16:=by omega
    subst this;have:bytesF S.size 0 n=n:=rfl;rw[show 16-16=0 from rfl,this]at J;have A2:=hg.ML
    grind
  have aZ:n=bytesF S.size 16 8192:=by
   rw[<-J];cases h:16-i with
   | zero=>rfl
   | succ k=>unfold bytesF;rw[if_neg (by omega)]
  rw[aZ];clear aZ J hn hi hle;have O:=Yq aX;obtain⟨b,J⟩:=Y.FW (by decide) Au (i:=S.l.length-1) (by omega);rw[AE (n:=((EB.len:Nat):Int)-1),J];simp only[AG];refine AY λlast a2=> ?_;have et:Int.toNat last=S.l.length-1:=by omega
  rw[et];have Hd:=Y.drew;have c0:=Hd.Bh Au J O (j:=0) rfl;have c1:=Hd.Bh Au J O (j:=1) rfl;have aN:S.l.getLastD (0,0,0,0)=S.last:=rfl;rw[aN]at c0 c1 O;rw[Nat.add_zero]at c0;rw[AE (n:=S.size+JT S.size S.ML)];have bL:S.next.size=S.size+JT S.size S.ML:=AE;have d:(0:Int)<=last/\last<(EB.len:Nat):=⟨by omega,by omega⟩;refine AX (λst w'=>st.1=S.same/\Sat (Row E.A6 4 EB (Al JY S.l)::Z) w') ?_ ?_
  .rw[<-o1];unfold QH.qA;refine AB (λh1=>⟨d,S.last.2.1,by rw[add_add];exact c1,by decide,BF (λe1=> ?_) λe1=> ?_⟩) λh1=> ?_
   .have d1:decide (1<S.l.length)=true:=decide_eq_true (by omega);have a8:=c0;refine⟨d,S.last.1,a8,hg.nz (by omega),by omega,?_,Hd⟩
    grind
   .refine⟨?_,Hd⟩
    grind
   .refine⟨?_,Hd⟩
    grind
  rintro⟨x,v⟩ _ b7 ⟨hx,aQ⟩;dsimp only at hx;subst hx;refine AQ (λe=>⟨d,?_⟩) λe=>⟨by decide,?_⟩
  .have hs:=HE aQ (j:=(S.l.length-1)*4) (v:=.int .i64 S.size) (K:=λa0=>(∃k:Nat,k<=rounds/\JT S.size S.ML=(Om k).ML/\S.size+JT S.size S.ML=(Om k).size/\Sat (Row E.A6 4 EB (Al JY (Om k).l)::Z) a0)/\(40000-(S.size+JT S.size S.ML)).toNat<(40000-S.size).toNat) rfl (by rw[DQ Au];omega) J λa0 a5=>⟨⟨k+1,by omega,by rw[aH];rfl,by grind,?_⟩,by omega⟩
   .exact hs
   .have:=Iu Au O (j:=0) (y:=(S.size,S.last.2)) (v:=.int .i64 S.size) (by decide) rfl;rw[Nat.add_zero]at this;rw[this,Yp aX]at a5;rw[aH];unfold QH.next
    grind
  .refine AR aQ λbR b9 a6 _=> ?_;refine EX (news:=JY (S.size,i64 (Int.tdiv (bytesF S.size 16 8192) 8192),0,0)) a6 rfl rfl (Ym _) (by omega) (by omega) λvI cA a7 _=>⟨⟨k+1,by omega,by rw[aH];rfl,by grind,?_⟩,by omega⟩;have e1:Al JY S.l++JY (S.size,i64 (Int.tdiv (bytesF S.size 16 8192) 8192),0,0)=Al JY (S.l++[(S.size,i64 (Int.tdiv (bytesF S.size 16 8192) 8192),0,0)]):=by rw[FN];simp[Al]
   rw[e1]at a7;rw[aH];unfold QH.next
   grind
 .have aG:k=rounds:=by
   rcases Nat.lt_or_eq_of_le hk with g|g
   .have:=(QJ (aB k g)).s1;omega
   .exact g
  subst aG;rw[aK]at Y hl;have hlen:=gH;cases hL:Yo.l with
  | nil=>grind
  | cons c0 T=>
   rw[hL]at Y hl hlen;have hT:T.length=67:=by grind
   have aW: ∀i c,T[i]? =some c->Yn c=true:=λi c hc=>by
    have:=gI;rw[hL]at this;exact List.all_eq_true.1 this c (List.mem_of_getElem? hc)
   have bO:MB=c0::T.map ER:=by unfold MB;rw[hL]
   refine AH (λst w'=> ∃i:Nat,st.1=(i:Int)+1/\i<=67/\Sat (Row E.A6 4 EB (Al JY (c0::((T.take i).map ER++T.drop i)))::Z) w') (λst _=>(68-st.1).toNat) ⟨0,rfl,by decide,Y⟩ ?_;rintro⟨i',v⟩ _ bH ⟨i,hi,bJ,aA⟩;dsimp only at hi⊢;subst hi;refine AB (λbZ=> ?_) λbW=> ?_
   .have bY:i<67:=by omega
    obtain⟨c,hc⟩: ∃c,T[i]? =some c:=⟨_,List.getElem?_eq_getElem (by omega)⟩;have A2:=aW i c hc;unfold Yn at A2;simp only[Bool.and_eq_true,Bool.or_eq_true,decide_eq_true_eq,bne_iff_ne]at A2;obtain⟨o1,o2,o3,o4⟩:=A2;have et:Int.toNat ((i:Int)+1)=i+1:=by omega
    rw[et,AE (n:=(i:Int)+1+1)];generalize hF:(c0::((T.take i).map ER++T.drop i))=FX at aA;have bT:FX.length=68:=by grind
    have aD:FX[i+1]? =some c:=by grind
    have bB:FX.set (i+1) (ER c)=c0::((T.take (i+1)).map ER++T.drop (i+1)):=by
     rw[<-hF,List.set_cons_succ];congr 1;have bC:c=T[i]:=by rw[List.getElem?_eq_getElem (by omega)]at hc;exact(Option.some.inj hc).symm
     rw[List.set_append_right _ _ (by rw[List.length_map,List.length_take];omega),List.length_map,List.length_take,Nat.min_eq_left (by omega),Nat.sub_self,List.take_succ_eq_append_getElem (by omega),List.map_append,List.drop_eq_getElem_cons (by omega),List.set_cons_zero,List.append_assoc,bC];rfl
    obtain⟨b,J⟩:=aA.FW (by decide) Au (i:=i+1) (by omega);rw[J];simp only[AG];have d0:=aA.Bh Au J aD (j:=0) rfl;have d1:=aA.Bh Au J aD (j:=1) rfl;rw[Nat.add_zero]at d0;have d:(0:Int)<=(i:Int)+1/\(i:Int)+1<(EB.len:Nat):=⟨by omega,by omega⟩;refine⟨d,c.2.1,by rw[add_add];exact d1,d,c.1,d0,o1,o2,by decide,AY λwide aO=> ?_⟩;refine AX (λ_ w'=>Sat (Row E.A6 4 EB (Al JY (FX.set (i+1) ((ER c).1,c.2)))::Z) w') ?_ ?_
    .refine⟨d,c.1,d0,AB (λaF=>⟨d,?_⟩) λb0=> ?_⟩
     .have e1:(ER c).1=wide:=by unfold ER;dsimp only;rw[<-aO,if_pos aF]
      refine HE aA (j:=(i+1)*4) rfl (by rw[DQ Au];omega) J λcC bP=> ?_;have:=Iu Au aD (j:=0) (y:=(wide,c.2)) (v:=.int .i64 wide) (by decide) rfl
      grind
     .have e1:(ER c).1=c.1:=by unfold ER;grind
      show Sat (Row E.A6 4 EB (Al JY (FX.set (i+1) ((ER c).1,c.2)))::Z) bH;rw[e1];have:FX.set (i+1) (c.1,c.2)=FX:=by
       have:=List.getElem?_eq_some_iff.1 aD;rw[show(c.1,c.2)=FX[i+1]from this.2.symm,List.set_getElem_self]
      grind
    rintro _ _ cB aR;have g1:(FX.set (i+1) ((ER c).1,c.2))[i+1]? =some ((ER c).1,c.2):=by grind
    have f0:=aR.Bh Au J g1 (j:=0) rfl;rw[Nat.add_zero]at f0;have aI:i64 (Int.tdiv (i64 (c.2.1*8192)) (ER c).1)=(ER c).2.2.1:=rfl;refine⟨d,(ER c).1,f0,o3,d,?_⟩;rw[aI,add_add];refine HE aR (j:=(i+1)*4+2) rfl (by rw[DQ Au,List.length_set];omega) J λcD aL=> ?_;have:=Iu Au g1 (j:=2) (y:=((ER c).1,c.2.1,(ER c).2.2.1,c.2.2.2)) (v:=.int .i64 (ER c).2.2.1) (by decide) rfl;rw[this,List.set_set]at aL;have g2:(FX.set (i+1) ((ER c).1,c.2.1,(ER c).2.2.1,c.2.2.2))[i+1]? =some ((ER c).1,c.2.1,(ER c).2.2.1,c.2.2.2):=by grind
    have aU:=aL.Bh Au J g2 (j:=0) rfl;rw[Nat.add_zero]at aU;refine⟨d,(ER c).1,aU,Zu o4 ⟨d,?_⟩⟩;have aY:(if IntKind.wrap .u32 (ER c).1<2 then(0:Int)else IntKind.wrap .u32 (IntKind.wrap .u32 (Int.tdiv 4294967295 (IntKind.wrap .u32 (ER c).1))+1))=(ER c).2.2.2:=rfl;rw[aY,add_add];refine HE aL (j:=(i+1)*4+3) rfl (by rw[DQ Au,List.length_set];omega) J λcE aS=>⟨⟨i+1,by omega,by omega,?_⟩,by omega⟩;have h3:=Iu Au g2 (j:=3) (y:=ER c) (v:=.int .u32 (ER c).2.2.2) (by decide) rfl;rw[h3,List.set_set,bB]at aS;exact aS
   .have bX:i=67:=by omega
    grind
end
def tr(l:List Bool)(i:Nat):Bool:=l.getD i false
def gY{l:List Bool}{i:Nat}(h:i<l.length):l[i]? =some (tr l i):=by
 unfold tr
 grind
def SC{l:List Bool}{i:Nat}(h:l.length<=i):tr l i=false:=by
 unfold tr
 grind
def qB{l:List Bool}{i j:Nat}(h:i<l.length)(x:Bool):tr (l.set i x) j=if j=i then x else tr l j:=by
 unfold tr
 grind
def qC{l:List Bool}{j n:Nat}:tr (l++List.replicate n false) j=tr l j:=by
 by_cases h:j<l.length
 .unfold tr;grind
 .rw[SC (l:=l) (by omega)];unfold tr
  grind
structure gZ(S:SI)(U M:Nat->Bool)(ul ml:List Bool)(lk:Int):Prop where
 u: ∀i,U i=tr ul i
 m: ∀i,M i=tr ml i
 lu:(ul.length:Int)<=S.AM
 lm:(ml.length:Int)<=S.AM
 Ja:S.AM<=137438953472
 lk0:0<=lk/\lk<=S.AM
 lk1: ∀i:Nat,(i:Int)<lk->U i=true
def Gb(S:SI)(s1 s2:Aa)(d:Int):List Value:=[.int .u64 (S.base/8192),.int .u64 S.AA,.int .i64 S.state,.int .i64 S.cls,.bool S.FY,.int .i64 S.elem,.int .i64 S.AM,Fo s1,Fo s2,.int .i64 d]
def Ut(E:Env)(q:Nat)(S:SI)(ul ml:List Bool)(s1 s2:Aa)(d:Int):List Pr:=[Cells q E.DZ (Gb S s1 s2 d),Row E.A9 1 s1 (Bn ul),Row E.A9 1 s2 (Bn ml)]
def Ax(E:Env)(q:Nat)(S:SI)(U M:Nat->Bool):Pr:=Ex λx:List Bool×List Bool×Aa×Aa×Int=>Jx (gZ S U M x.1 x.2.1 x.2.2.2.2) (NB (Ut E q S x.1 x.2.1 x.2.2.1 x.2.2.2.1 x.2.2.2.2))
section
variable{E:Env}{q:Nat}{S:SI}{U M:Nat->Bool}{Z:List Pr}{w:World}
def Sat.Gx:Sat (Ax E q S U M::Z) w↔ ∃ul ml s1 s2 d,gZ S U M ul ml d/\Sat (Ut E q S ul ml s1 s2 d++Z) w:=by
 unfold Ax;rw[Sat.ex];constructor
 .rintro⟨⟨ul,ml,s1,s2,d⟩,h⟩;rw[Sat.where,Sat.star]at h
  grind
 .rintro⟨ul,ml,s1,s2,d,h1,h2⟩;refine⟨⟨ul,ml,s1,s2,d⟩,?_⟩;rw[Sat.where,Sat.star]
  grind
def KK{s:Aa}{l:List Bool}(H:Sat (Row E.A9 1 s (Bn l)::Z) w):l.length=s.len:=by
 have:=H.Du;rw[Bn,List.length_map,Nat.mul_one]at this;omega
def N5{s:Aa}{l:List Bool}(H:Sat (Row E.A9 1 s (Bn l)::Z) w){i:Nat}{K:Bool->World->Prop}(d:K (tr l i) w):F.F8 E s i K w:=by
 unfold F.F8;have v:=KK H;refine AU (decide_eq_true (by omega)) (AB (λh=> ?_) λh=> ?_)
 .obtain⟨b,j⟩:=H.own.Eo (by omega);rw[j];simp only[AG];refine⟨⟨by omega,h⟩,_,?_,d⟩;rw[Int.toNat_natCast,Nat.mul_one];exact H.own.cell j (L5 (gY (by omega)))
 .rw[SC (by omega)]at d;omega
def Qh{s:Aa}{l:List Bool}(H:Sat (Row E.A9 1 s (Bn l)::Z) w){i:Nat}(hi:i<1099511627776){x:Bool}{K:Aa->World->Prop}
  (J: ∀s' l' w',(∀j,tr l' j=if j=i then x else tr l j)->l'.length=max l.length (i+1)->Sat (Row E.A9 1 s' (Bn l')::Z) w'->K s' w'):F.HZ E s i x K w:=by
 unfold F.HZ;refine AH (λst w'=> ∃n:Nat,l.length+n<=max l.length (i+1)/\Sat (Row E.A9 1 st.1 (Bn (l++List.replicate n false))::Z) w') (λst _=>((i:Int)+1-st.1.len).toNat) ⟨0,by omega,by grind⟩ ?_;rintro⟨s1,u⟩ _ w2 ⟨n,hn,d⟩;dsimp only at d⊢;have O:=KK d;rw[List.length_append,List.length_replicate]at O;refine AB (λh=> ?_) λh=> ?_
 .refine AR (vs:=[.bool false]) d λb4 w5 y _=> ?_;refine EX (news:=[.bool false]) y rfl rfl (by simp[Value.oneCell']) (by omega) (by omega) λs6 w7 H7 T=>⟨⟨n+1,by omega,?_⟩,by omega⟩;have e:Bn (l++List.replicate n false)++[.bool false]=Bn (l++List.replicate (n+1) false):=by rw[List.replicate_succ'];simp[Bn]
  grind
 .obtain⟨b,v⟩:=d.own.Eo (by omega);rw[v];simp only[AG];refine⟨⟨by omega,by omega⟩,?_⟩;rw[Int.toNat_natCast,Nat.mul_one];refine HE d (j:=i) rfl (by rw[Bn,List.length_map,List.length_append,List.length_replicate];omega) v λY H9=>J s1 ((l++List.replicate n false).set i x) Y (λj=> ?_) ?_ ?_
  .rw[qB (by grind),qC]
  .grind
  .have e:(Bn (l++List.replicate n false)).set i (.bool x)=Bn ((l++List.replicate n false).set i x):=by unfold Bn;simp
   grind
def cN_tr(ul:List Bool){U:Nat->Bool}(h: ∀i,U i=tr ul i){n:Nat}(j:ul.length<=n):cN U ul.length=cN U n:=by
 obtain⟨k,rfl⟩:=Nat.exists_eq_add_of_le j;exact(S9 (λi d=>by rw[h,SC d]) k).symm
def Ie(H:Sat (Ax E q S U M::Z) w){K:Int->World->Prop}(Y:K (cN U S.AM.toNat:Nat) w):F.Bv E (some ⟨q,0,none⟩) K w:=by
 obtain⟨ul,ml,s1,s2,lk,hI,H⟩:=Sat.Gx.1 H;unfold F.Bv;have hl:=KK (H.front 1 rfl);have T:=hI.lu;have y:=hI.Ja;refine AH (λst w'=>w'=w/\ ∃i:Nat,st.2.1=(i:Int)/\i<=ul.length/\st.1=(cN U i:Nat)) (λst _=>((ul.length:Int)-st.2.1).toNat) ⟨rfl,0,rfl,Nat.zero_le _,rfl⟩ ?_;rintro⟨c,i',u⟩ _ w2 ⟨rfl,i,v,O,j⟩;dsimp only at v j⊢;subst v;subst j;have J:=Oh U i;refine AF ⟨s1,H.cell rfl,AB (λh=>AF ⟨s1,H.cell rfl,?_⟩) λh=> ?_⟩
 .obtain⟨b,d⟩:=(H.front 1 rfl).own.Eo (by omega);rw[d];refine AF ⟨⟨by omega,h⟩,tr ul i,?_,?_⟩
  .rw[Int.toNat_natCast,Nat.mul_one];exact(H.front 1 rfl).own.cell d (L5 (gY (by omega)))
  .rw[<-hI.u i,AE (n:=(i:Int)+1),AE (n:=((cN U i:Nat):Int)+1)];have e:cN U (i+1)=cN U i+(U i).toNat:=rfl;refine AQ (λg=>⟨⟨rfl,i+1,by omega,by omega,?_⟩,by omega⟩) λg=>⟨⟨rfl,i+1,by omega,by omega,?_⟩,by omega⟩
   .grind
   grind
 .obtain rfl:i=ul.length:=by omega
  rw[cN_tr ul hI.u (n:=S.AM.toNat) (by omega)];omega
def Zw(H:Sat (Ax E q S U M::Z) w)(h0:0<=S.base/\S.base<18446744073709551616/\S.base %8192=0)(p0:0<=S.AA/\S.AA<=137438953472){K:Int->Int->Int->Int->Bool->Int->Int->Int->Bool->Bool->World->Prop}
  (Y: ∀w',Sat (Ax E q S U M::Z) w'->K S.base S.AA S.state S.cls S.FY S.elem S.AM (cN U S.AM.toNat:Nat) false false w'):F.Ch E (some ⟨q,0,none⟩) K w:=by
 unfold F.Ch T0.Ch;refine AR (vs:=[.int .u64 0,.int .i64 0,.int .i64 0,.int .i64 0,.bool false,.int .i64 0,.int .i64 0,.int .i64 0,.bool false,.bool false]) H λb1 w2 J _=> ?_;have O:=J.drew.front 1 rfl;obtain⟨ul,ml,s1,s2,lk,hI,j⟩:=Sat.Gx.1 O;refine AF ⟨_,j.Ah rfl,AF ⟨_,j.cell rfl,AF ⟨_,j.cell rfl,AF ⟨_,j.cell rfl,AF ⟨_,j.cell rfl,AF ⟨_,j.cell rfl,AF ⟨_,j.cell rfl,Ie O ⟨j.cell rfl,j.cell rfl,j.cell rfl,j.cell rfl,j.cell rfl,j.cell rfl,j.Ah rfl,?_⟩⟩⟩⟩⟩⟩⟩⟩;rw[AK (n:=S.base/8192*8192),show S.base/8192*8192=S.base by omega,AE (n:=S.AA)];refine GM (news:=[.int .u64 S.base,.int .i64 S.AA,.int .i64 S.state,.int .i64 S.cls,.bool S.FY,.int .i64 S.elem,.int .i64 S.AM,.int .i64 (cN U S.AM.toNat:Nat),.bool false,.bool false]) J.drew rfl (by intro v T;simp at T;rcases T with rfl|rfl|rfl|rfl|rfl|rfl|rfl|rfl|rfl|rfl<;>rfl) λy d=> ?_;exact⟨_,d.cell rfl,_,d.cell rfl,_,d.cell rfl,_,d.cell rfl,_,d.cell rfl,_,d.cell rfl,_,d.cell rfl,_,d.cell rfl,_,d.cell rfl,_,d.cell rfl,Y y d.tail⟩
def SD(H:Sat (Ax E q S U M::Z) w)(aB:S.state≠0)(s0:0<=S.AM){K:Int->Int->World->Prop}
  (T:(∀i:Nat,(i:Int)<S.AM->U i=true)->K 0 30 w)
  (Y: ∀n:Nat,(n:Int)<S.AM->U n=false->(∀i,i<n->U i=true)-> ∀w',Sat (Ax E q S (λi=>U i||i==n) M::Z) w'->K n 0 w'):F.CB E (some ⟨q,0,none⟩) K w:=by
 obtain⟨ul,ml,s1,s2,lk,hI,H⟩:=Sat.Gx.1 H;unfold F.CB T0.CB;have hl:=KK (H.front 1 rfl);have aH:=hI.lu;have aE:=hI.Ja;obtain⟨l0,l1⟩:=hI.lk0;refine AF ⟨_,H.cell rfl,BF (λe=>absurd e aB) λ_=>AF ⟨_,H.cell rfl,?_⟩⟩;refine AH (λst w'=>w'=w/\ ∃i:Nat,st.1=(i:Int)/\(i:Int)<=S.AM/\ ∀j,j<i->U j=true) (λst _=>(S.AM-st.1).toNat) ⟨rfl,lk.toNat,by omega,by omega,λj O=>hI.lk1 j (by omega)⟩ ?_;rintro⟨i',u⟩ _ w2 ⟨rfl,i,hi,aF,d⟩;dsimp only at hi⊢;subst hi;refine AF ⟨s1,H.cell rfl,N5 (H.front 1 rfl) ?_⟩;rw[<-hI.u i];have aG:U i=true->(i:Int)<S.AM:=λg=>by
  rw[hI.u]at g;by_cases h:i<ul.length
  .omega
  .rw[SC (by omega)]at g;cases g
 rw[AE (n:=(i:Int)+1)];refine AQ (λg=>⟨⟨rfl,i+1,rfl,by grind,λj O=> ?_⟩,by grind⟩) λg=>AF ⟨_,H.cell rfl,AB (λh=>T λj O=>d j (by omega)) λh=>AF ⟨s1,H.cell rfl,?_⟩⟩
 .grind
 .refine Qh (H.front 1 rfl) (by omega) λs' l' aJ aA hlen v=> ?_;refine AF (AZ (v.front 1 rfl) (o:=0) (m:=7) rfl (by simp[Gb]) λaK y=>AF (AZ y (o:=0) (m:=9) rfl (by simp[Gb]) λaC J=> ?_));refine Y i (by omega) g d aC (Sat.Gx.2 ⟨l',ml,s',s2,(i:Int)+1,⟨λj=> ?_,hI.m,by omega,hI.lm,hI.Ja,⟨by omega,by omega⟩,λj O=> ?_⟩,J⟩)
  .rw[aA,hI.u]
   grind
  grind
def eC(H:Sat (Ax E q S U M::Z) w)(O:S.state≠0){K:Int->World->Prop}(y:0<cN U S.AM.toNat->K 33 w)
  (J:cN U S.AM.toNat=0-> ∀w',w'.cell? (Addr.mk q 0 none)=some (.int .u64 (S.base/8192))->w'.cell? ((Addr.mk q 0 none).add 1)=some (.int .u64 S.AA)->Sat Z w'->K 0 w'):F.C0 E (some ⟨q,0,none⟩) K w:=by
 obtain⟨ul,ml,s1,s2,lk,hI,H1⟩:=Sat.Gx.1 H;unfold F.C0 T0.C0;refine AV (AF ⟨_,H1.cell rfl,BF (λe=>absurd e O) λ_=>Ie H λj=>AB (λg=>y (by omega)) λg=> ?_⟩);exact AF (AZ H1 (o:=0) (m:=2) rfl (by simp[Gb]) λw9 Y=>AF (AZ Y (o:=0) (m:=7) rfl (by simp[Gb]) λaA v=>AF (AZ v (o:=0) (m:=8) rfl (by simp[Gb]) λT d=>J (by omega) T (d.Ah rfl) (d.cell rfl) d.tail.tail.tail)))
def XS(H:Sat (Ax E q S U M::Z) w)(s0:0<=S.AM){K:Aa->Int->World->Prop}(aM:S.state≠1->K ⟨none,0,0⟩ 33 w)(aN:S.state=1->(∃i,M i=true/\U i=false)->K ⟨none,0,0⟩ 40 w)
  (hk:S.state=1->(∀i,M i=true->U i=true)-> ∀s w',Sat (Row E.Bx 1 s (ints .i64 (EU (λi=>U i&& !M i) S.AM.toNat))::Ax E q S (λi=>U i&&M i) (λ_=>false)::Z) w'->K s 0 w'):
  F.CW E (some ⟨q,0,none⟩) K w:=by
 obtain⟨ul,ml,s1,s2,lk,hI,H⟩:=Sat.Gx.1 H;unfold F.CW T0.CW;have a4:=KK (H.front 1 rfl);have a5:=KK (H.front 2 rfl);have a7:=hI.lu;have a6:=hI.lm;have aA:=hI.Ja;refine AF ⟨_,H.cell rfl,DM aM λaC=> ?_⟩;refine AH (λst w'=>w'=w/\ ∃i:Nat,st.1=(i:Int)/\i<=ml.length/\ ∀j,j<i->M j=true->U j=true) (λst _=>((ml.length:Int)-st.1).toNat) ⟨rfl,0,rfl,Nat.zero_le _,λj hj=>by omega⟩ ?_;rintro⟨i',u⟩ _ w4 ⟨rfl,i,hi,a2,aS⟩;dsimp only at hi⊢;subst hi;refine AF ⟨s2,H.cell rfl,AB (λv=> ?_) λaL=> ?_⟩
 .rw[AE (n:=(i:Int)+1)];obtain⟨b,y⟩:=(H.front 2 rfl).own.Eo (by omega);refine AV (AF ⟨s2,H.cell rfl,?_⟩)
  try dsimp only
  rw[y];refine AF ⟨⟨by omega,v⟩,tr ml i,?_,?_⟩
  .rw[Int.toNat_natCast,Nat.mul_one];exact(H.front 2 rfl).own.cell y (L5 (gY (by omega)))
  .rw[<-hI.m i];have nx:(M i=true->U i=true)->(w4=w4/\ ∃i2:Nat,(i:Int)+1=(i2:Int)/\i2<=ml.length/\ ∀j,j<i2->M j=true->U j=true)/\((ml.length:Int)-((i:Int)+1)).toNat<((ml.length:Int)-(i:Int)).toNat:=λg=>⟨⟨rfl,i+1,rfl,by omega,λj hj=>by grind⟩,by omega⟩;refine AQ (λg=>AF ⟨s1,H.cell rfl,N5 (H.front 1 rfl) λj=> ?_⟩) λg j=>AO rfl (nx λh=>by grind);rw[<-hI.u i];exact I1 (AQ (λh=>nx λ_=>h) λh=>aN aC ⟨i,g,h⟩)
 .have aP: ∀i,M i=true->U i=true:=λj hj=>by
   by_cases h:j<i
   .grind
   .rw[hI.m,SC (by omega)]at hj;grind
  have H0:=(H.nil E.Bx 1)
  let F:Nat->Bool:=λi=>U i&& !M i
  refine AH (λst w'=> ∃(k:Nat) (l:List Bool),st.2.1=(k:Int)/\k<=ul.length/\l.length=ul.length/\(∀j,tr l j=if j<k then U j&&M j else U j)/\Sat (Row E.Bx 1 st.1 (ints .i64 (EU F k))::Cells q E.DZ (Gb S s1 s2 lk)::Row E.A9 1 s1 (Bn l)::Row E.A9 1 s2 (Bn ml)::Z) w') (λst _=>((ul.length:Int)-st.2.1).toNat)
   ⟨0,ul,rfl,Nat.zero_le _,rfl,λj=>by rw[if_neg (by omega),hI.u],H0⟩ ?_
  rintro⟨r,k',u⟩ _ aQ ⟨k,l,Y,a3,aO,aD,d⟩;dsimp only at Y d⊢;subst Y;have HC:=d.front 1 rfl;refine AF ⟨s1,HC.cell rfl,AB (λv=> ?_) λaL=> ?_⟩
  .rw[AE (n:=(k:Int)+1)];obtain⟨b,y⟩:=(d.front 2 rfl).own.Eo (by omega);have aK:tr l k=U k:=by grind
   refine AX (λst w'=>st.1=F k/\w'=aQ) (AF ⟨s1,HC.cell rfl,?_⟩) ?_
   .try dsimp only
    rw[y];refine AF ⟨⟨by omega,v⟩,tr l k,?_,?_⟩
    .rw[Int.toNat_natCast,Nat.mul_one];exact(d.front 2 rfl).own.cell y (L5 (gY (by omega)))
    .rw[aK];refine AQ (λg=>AF ⟨s2,HC.cell rfl,N5 (d.front 3 rfl) ⟨?_,rfl⟩⟩) λg=>⟨?_,rfl⟩
     .show(!tr ml k)=(U k&& !M k);rw[<-hI.m,g];rfl
     grind
   rintro⟨t,u⟩ _ aR ⟨ht,rfl⟩;dsimp only at ht⊢;subst ht;have a1:(EU F k).length<=k:=by rw[LG];exact Oh _ _
   have hr:=(d).Du;rw[ints,List.length_map,Nat.mul_one]at hr;refine AQ (λg=> ?_) λg=>⟨⟨k+1,l,rfl,by omega,aO,λj=> ?_,?_⟩,by omega⟩
   .have g1:U k=true/\M k=false:=by grind
    refine AR (vs:=[.int .i64 (k:Int)]) d λaY bB aG _=> ?_;refine EX (news:=[.int .i64 (k:Int)]) aG rfl rfl (by simp[Value.oneCell']) (by omega) (by omega) λsF bC O _=>AF ⟨s1,(O.front 1 rfl).cell rfl,?_⟩
    try dsimp only
    rw[y];refine AF ⟨⟨by omega,v⟩,?_⟩;rw[Int.toNat_natCast,Nat.mul_one];refine HE (O.front 2 rfl) (j:=k) rfl (by rw[Bn,List.length_map];omega) y λbD T=>⟨⟨k+1,l.set k false,rfl,by omega,by grind,λj=> ?_,?_⟩,by omega⟩
    .rw[qB (by omega),aD]
     grind
    .have e1:ints .i64 (EU F k)++[.int .i64 (k:Int)]=ints .i64 (EU F (k+1)):=by
      rw[UY (F:=F) (Nat.le_refl k) (λi a b=>by omega) g];simp[ints]
     have e2:(Bn l).set k (.bool false)=Bn (l.set k false):=by unfold Bn;simp
     rw[e1,e2]at T;exact(T.front 1 rfl).perm (.cons _ (.swap _ _ _))
   .by_cases e:j=k
    .subst e
     grind
    grind
   .show Sat (Row E.Bx 1 r (ints .i64 (EU F (k+1)))::_) aR;rw[KZ (F:=F) (m:=k) (n:=1) λi a b=>by grind];omega
  .obtain rfl:k=ul.length:=by omega
   refine AF (AZ HC (o:=0) (m:=8) rfl (by simp[Gb]) λbE aH=>AF (AZ aH (o:=0) (m:=9) rfl (by simp[Gb]) λJ aI=> ?_));have aJ:EU F S.AM.toNat=EU F ul.length:=by
    obtain⟨n,hn⟩:=Nat.exists_eq_add_of_le (show ul.length<=S.AM.toNat by omega);rw[hn];exact KZ λi a b=>by show(U i&& !M i)=false;rw[hI.u,SC (by omega)];rfl
   refine hk aC aP r J ?_;have aB:Sat (Row E.A9 1 ⟨none,0,0⟩ (Bn [])::Cells q E.DZ (Gb S s1 ⟨none,0,0⟩ 0)::Row E.Bx 1 r (ints .i64 (EU F ul.length))::Row E.A9 1 s1 (Bn l)::Z) J:=by
    have h1:=((aI.front 3 rfl).tail).nil E.A9 1;exact h1
   have h2:Sat (Ax E q S (λi=>U i&&M i) (λ_=>false)::Row E.Bx 1 r (ints .i64 (EU F ul.length))::Z) J:=Sat.Gx.2 ⟨l,[],s1,⟨none,0,0⟩,0,⟨λj=> ?_,λj=>(SC (Nat.zero_le _)).symm,by omega,by omega,aA,⟨Int.le_refl _,s0⟩,λj hj=>by omega⟩,?_⟩
   .rw[aJ];exact h2.perm (.swap _ _ _)
   .show(U j&&M j)=tr l j;rw[aD];by_cases h:j<ul.length
    .grind
    .rw[if_neg h,hI.u,SC (by omega)];rfl
   .-- Row s2', Cells, Row r, Row s1
    exact((aB.front 1 rfl).perm (.cons _ ((List.Perm.swap _ _ _).trans (.cons _ (.refl _))))).perm (.cons _ (by
     exact(List.perm_append_comm (l₁:=[Row E.Bx 1 r (ints .i64 (EU F ul.length)),Row E.A9 1 ⟨none,0,0⟩ (Bn [])]) (l₂:=[Row E.A9 1 s1 (Bn l)])).append_right Z|>.trans (.cons _ (.swap _ _ _))))
def Qi(n:Nat):JB #[.bool false] n=⟨Bn (List.replicate n false)⟩:=by
 rw[We];congr 1;apply List.ext_getElem?;intro i;by_cases hi:i<n
 .rw[JO hi];simp[Bn,hi]
 .rw[List.getElem?_eq_none (by rw[Cd];omega),List.getElem?_eq_none (by simp[Bn];omega)]
instance zJ(AA elem:Int):Decidable (o5 AA elem):=by unfold o5;exact inferInstance
def uW:Nat->Bool:=λ_=>false
def k9:(MB.all λc=>decide (0<=c.2.2.1)&&decide (c.2.2.1<=1024))=true:=by decide+kernel
def qD{c:Int}(h0:0<=c)(h1:c<68):0<=(Bb c).2.2.1/\(Bb c).2.2.1<=1024:=by
 have:=List.all_eq_true.1 k9 _ (List.mem_of_getElem? (Mh h0 h1))
 grind
def XT{page AA:Int}(h0:0<=page)(j:0<=AA){K:Bool->World->Prop}(d:K (decide (0<AA/\AA<=134217728/\page<=34359738368/\AA<=34359738368-page)) w):F.Hx E page AA K w:=by
 unfold F.Hx;refine AB (λg1=>AB (λg2=>AB (λg3=> ?_) λg3=> ?_) λg2=> ?_) λg1=> ?_
 .rw[AK (n:=34359738368-page)]
  grind
 .grind
 .grind
 grind
def SE{q:Nat}{S:SI}(hs:0<=S.AM/\S.AM<=137438953472)(H:Sat (Cells q E.DZ (Gb S ⟨none,0,0⟩ ⟨none,0,0⟩ 0)::Z) w){K:World->Prop}(hK: ∀w',Sat (Ax E q S uW uW::Z) w'->K w'):
  ∃d:Int,w.cell? ((Addr.mk q 0 none).add 6)=some (.int .i64 d)/\
    ((0:Int)<=d/\(d:Int)<=d/\(d:Int)<9223372036854775808/\((1:Nat):Int)*d<=140737488355328)/\
    AL (.cells (JB #[.bool false] (Int.toNat d*1)) E.A9) w λy Y=>
    stCells ((Addr.mk q 0 none).add 7) 0 [.slice (some (Addr.mk y 0 none)) (Int.toNat d) (Int.toNat d)] Y λO=>
    ∃v:Int,O.cell? ((Addr.mk q 0 none).add 6)=some (.int .i64 v)/\
    ((0:Int)<=v/\(v:Int)<=v/\(v:Int)<9223372036854775808/\((1:Nat):Int)*v<=140737488355328)/\
    AL (.cells (JB #[.bool false] (Int.toNat v*1)) E.A9) O λJ aA=>
    stCells ((Addr.mk q 0 none).add 8) 0 [.slice (some (Addr.mk J 0 none)) (Int.toNat v) (Int.toNat v)] aA K:=by
 have hb:(0:Int)<=S.AM/\S.AM<=S.AM/\S.AM<9223372036854775808/\((1:Nat):Int)*S.AM<=140737488355328:=⟨hs.1,Int.le_refl _,by omega,by omega⟩;have hn:(Bn (List.replicate (Int.toNat S.AM) false)).length=Int.toNat S.AM*1:=by simp[Bn]
 refine⟨S.AM,H.cell rfl,hb,?_⟩;rw[Nat.mul_one,Qi];refine HI (n:=Int.toNat S.AM) (z:=1) H hn (by omega) λy Y aB=> ?_;refine AZ (aB.front 1 rfl) (o:=0) (m:=7) rfl (by simp[Gb]) λO T=>⟨S.AM,T.cell rfl,hb,?_⟩;rw[Nat.mul_one,Qi];refine HI (n:=Int.toNat S.AM) (z:=1) T hn (by omega) λJ aA aC=> ?_;refine AZ (aC.front 1 rfl) (o:=0) (m:=8) rfl (by simp[Gb]) λaE aD=> ?_;have tz: ∀i,uW i=tr (List.replicate (Int.toNat S.AM) false) i:=λi=>by
  have:=qC (l:=[]) (j:=i) (n:=Int.toNat S.AM);rw[List.nil_append]at this;rw[this];rfl
 refine hK aE (Sat.Gx.2 ⟨List.replicate (Int.toNat S.AM) false,List.replicate (Int.toNat S.AM) false,⟨some ⟨y,0,none⟩,Int.toNat S.AM,Int.toNat S.AM⟩,⟨some ⟨J,0,none⟩,Int.toNat S.AM,Int.toNat S.AM⟩,0,⟨tz,tz,?_,?_,hs.2,⟨Int.le_refl _,hs.1⟩,λi hi=>by omega⟩,?_⟩)
 .grind
 .grind
 .exact aD.perm (.cons _ (.swap _ _ _))
def Uu(H:Sat Z w){page AA c:Int}{np:Bool}(h0:0<=page)(p0:0<=AA)(p1:AA<18446744073709551616){K:Option Addr->Int->World->Prop}
  (T:GB page AA c-> ∀w',Sat Z w'->K none 1 w')(aA: ¬GB page AA c-> ∀b w',Sat (Ax E b (IZ page AA c np) uW uW::Z) w'->K (some ⟨b,0,none⟩) 0 w'):F.Ej E page AA c np K w:=by
 unfold F.Ej T0.Ej;refine AX (λst w'=>st.1= !decide ((0<AA/\AA<=134217728/\page<=34359738368/\AA<=34359738368-page)/\0<=c/\c<68)/\w'=w) (XT h0 p0 ?_) ?_
 .refine I1 (AB (λg=>AB (λg2=>⟨?_,rfl⟩) λg2=>⟨?_,rfl⟩) λg=>⟨?_,rfl⟩)
  .grind
  .grind
  grind
 rintro⟨t,u⟩ _ w3 ⟨ht,rfl⟩;dsimp only at ht⊢;subst ht;refine I1 (AB (λg=> ?_) λg=> ?_)
 rotate_left
 .refine T ?_ w3 H;unfold GB;by_cases e:c<=0∨68<=c
  .omega
  .have hb:=Li (c:=c) (by omega) (by omega);omega
 obtain⟨⟨g1,g2,g3,g4⟩,c0,c1⟩:=g;rw[AE (n:=AA),AE (n:=AA*8192)];refine AR (vs:=[.int .u64 page,.int .u64 AA,.int .i64 1,.int .i64 c,.bool np,.int .i64 (AA*8192),.int .i64 1,.slice none 0 0,.slice none 0 0,.int .i64 0]) H λb6 w7 H7 _=> ?_;have aF:page*8192/8192=page:=Int.mul_ediv_cancel _ (by decide);by_cases hc:c=0
 .refine AV (AO (decide_eq_false (by omega)) λj=> ?_);refine SE (S:=IZ page AA c np) ?_ ?_ λw' H'=>aA (by unfold GB;omega) b6 w' H'
  .show 0<=(if c=0 then(1:Int)else _)/\(if c=0 then(1:Int)else _)<=_;omega
  .show Sat (Cells b6 E.DZ [.int .u64 (page*8192/8192),.int .u64 AA,.int .i64 1,.int .i64 c,.bool np,.int .i64 (if c=0 then AA*8192 else(Bb c).1),.int .i64 (if c=0 then 1 else(Bb c).2.2.1),.slice none 0 0,.slice none 0 0,.int .i64 0]::Z) w7
   grind
 .refine AV (AU (decide_eq_true (by omega)) (Zv H7 λy aG d=> ?_));have hl:=d.Gv (by decide) Au;rw[QI]at hl;obtain⟨x,hx⟩:=d.FW (by decide) Au (i:=c.toNat) (by rw[QI];omega);have J:=Mh c0 c1;have aL:=Li c0 c1;have aN:=qD c0 c1;have v:(0:Int)<=c/\c<(y.len:Nat):=⟨c0,by omega⟩;have ct: ∀{w'} {Y:List Pr},Sat (Row E.A6 4 y (Al JY MB)::Y) w'->w'.cell? ((Addr.mk x 0 none).add (Int.toNat c*4))=some (.int .i64 (Bb c).1)/\w'.cell? (((Addr.mk x 0 none).add (Int.toNat c*4)).add 1)=some (.int .i64 (Bb c).2.1)/\
    w'.cell? (((Addr.mk x 0 none).add (Int.toNat c*4)).add 2)=some (.int .i64 (Bb c).2.2.1):=λh=>by
   refine⟨?_,?_,?_⟩
   .have:=h.Bh Au hx J (j:=0) rfl;omega
   .rw[add_add];exact h.Bh Au hx J (j:=1) rfl
   .rw[add_add];exact h.Bh Au hx J (j:=2) rfl
  rw[hx];refine AF ⟨v,_,(ct d).2.1,?_⟩;rw[AK (n:=(Bb c).2.1)];refine DM (λe=>T (by unfold GB;omega) aG d.tail.tail) λe=>AF ⟨v,_,(ct d).1,?_⟩;refine AZ (d.front 1 rfl) (o:=0) (m:=5) rfl (by simp) λaP O=>AF ⟨v,_,(ct (O.front 1 rfl)).2.2,?_⟩;refine AZ O (o:=0) (m:=6) rfl (by simp) λaH aJ j=> ?_;refine SE (S:=IZ page AA c np) (Z:=Row E.A6 4 y (Al JY MB)::Z) ?_ ?_ λw' H'=>aA (by unfold GB;omega) b6 w' (H'.perm (.swap _ _ _)).tail
  .show 0<=(if c=0 then(1:Int)else(Bb c).2.2.1)/\(if c=0 then(1:Int)else(Bb c).2.2.1)<=_;omega
  .show Sat (Cells b6 E.DZ [.int .u64 (page*8192/8192),.int .u64 AA,.int .i64 1,.int .i64 c,.bool np,.int .i64 (if c=0 then AA*8192 else(Bb c).1),.int .i64 (if c=0 then 1 else(Bb c).2.2.1),.slice none 0 0,.slice none 0 0,.int .i64 0]::Row E.A6 4 y (Al JY MB)::Z) aH
   grind
end
def TE(k:IntKind)(l:List Int): ∀v∈ints k l,v.oneCell'=true:=by intro v d;simp[ints]at d;obtain⟨x,_,rfl⟩:=d;rfl
def qE(l:List Bool): ∀v∈Bn l,v.oneCell'=true:=by intro v d;simp[Bn]at d;rcases d with ⟨_,rfl⟩|⟨_,rfl⟩<;>rfl
section
variable{E:Env}(hE:EnvS E){w:World}
include hE
end
section
variable{E:Env}(hE:EnvS E){w:World}
include hE
end
section
variable{E:Env}(hE:EnvS E){w:World}{Rs:List Pr}{b:Nat}{V:VS}
include hE
end
section
variable{E:Env}(hE:EnvS E){w:World}
include hE
end
section
variable{E:Env}(hE:EnvS E){w:World}
include hE
end
def Xq(V:VS)(p:Int):Int:=if M5 V.laid p then if M5 V.ready p then 2 else if M5 V.rel p then 3 else 1 else 0
def OU{V:VS}(h:VH V)(p:Int):(Xq V p=0/\ ¬mem V.laid p/\ ¬mem V.ready p/\ ¬mem V.rel p)∨(Xq V p=1/\mem V.laid p/\ ¬mem V.ready p/\ ¬mem V.rel p)∨(Xq V p=2/\mem V.laid p/\mem V.ready p/\ ¬mem V.rel p)∨(Xq V p=3/\mem V.laid p/\ ¬mem V.ready p/\mem V.rel p):=by
 unfold Xq;by_cases h1:mem V.laid p
 .rw[if_pos (Bl.2 h1)];by_cases h2:mem V.ready p
  .rw[if_pos (Bl.2 h2)];exact .inr (.inr (.inl ⟨rfl,h1,h2,h.re p h2⟩))
  .rw[if_neg (λe=>h2 (Bl.1 e))];by_cases h3:mem V.rel p
   .rw[if_pos (Bl.2 h3)];grind
   .rw[if_neg (λe=>h3 (Bl.1 e))];grind
 .rw[if_neg (λe=>h1 (Bl.1 e))];exact .inl ⟨rfl,h1,λe=>h1 (h.rl p e),λe=>h1 (h.el p e)⟩
section
variable{E:Env}(hE:EnvS E){w:World}
include hE
end
abbrev rG:=List (Int×Int×Int)
abbrev uX:=List (Int×Int)
def lS(e:Int×Int×Int):List Value:=[.int .u64 e.1,.int .i64 e.2.1,.int .u64 e.2.2]
def wd2(e:Int×Int):List Value:=[.int .u64 e.1,.int .u64 e.2]
def kP(e:Int×Int×Int):Int:=e.1
def kW(e:Int×Int):Int:=e.1
def I9(e:Int×Int×Int):(lS e).length=3:=rfl
def TF(e:Int×Int×Int): ∀v∈lS e,v.oneCell'=true:=by intro v d;simp[lS]at d;rcases d with rfl|rfl|rfl<;>rfl
structure MG where
 s0:Aa
 s1:Aa
 s2:Aa
 s3:Aa
 s4:Aa
def RT(g:MG):List Value:=[Fo g.s0,Fo g.s1,Fo g.s2,Fo g.s3,Fo g.s4]
def HP(E:Env)(c:Nat)(V:VS)(g:MG)(P:rG)(W:uX):List Pr:=
 [Cells c E.As (RT g),KI g.s0 (ints .u64 V.pl),KI g.s1 (Bn V.rf),KI g.s2 (ints .u64 V.fl),Row E.Ap 3 g.s3 (Al lS P),Row E.Hv 2 g.s4 (Al wd2 W)]
structure JZ(V:VS)(P:rG)(W:uX):Prop where
 ok:VH V
 HT:Ik kP P
 srw:Ik kW W
 hp: ∀p,mem V.laid p↔ ∃e∈P,kP e=p
 hs: ∀e∈P,e.2.1=Xq V e.1
 hw: ∀e∈W,e.1 %8=0/\mem V.ready (e.1/8192)/\V.wd (e.1/8192) (e.1 %8192/8)=e.2
 hf: ∀e∈P,mem V.ready e.1-> ∀i,0<=i->i<1024->(∀x∈W,x.1≠e.1*8192+i*8)->V.wd e.1 i=e.2.2
 fZ: ∀x∈V.pl,0<=x/\x<18446744073709551616
def Gc(E:Env)(c:Nat)(V:VS):Pr:=Ex λx:MG×rG×uX=>Jx (JZ V x.2.1 x.2.2) (NB (HP E c V x.1 x.2.1 x.2.2))
section
variable{E:Env}{c:Nat}{V:VS}{Z:List Pr}{w:World}{g:MG}{P:rG}{W:uX}
def Sat.Uv:Sat (Gc E c V::Z) w↔ ∃g P W,JZ V P W/\Sat (HP E c V g P W++Z) w:=by
 unfold Gc;rw[Sat.ex];constructor
 .rintro⟨⟨g,P,W⟩,h⟩;rw[Sat.where,Sat.star]at h
  grind
 .rintro⟨g,P,W,h1,h2⟩;refine⟨⟨g,P,W⟩,?_⟩;rw[Sat.where,Sat.star]
  grind
def JZ.zK(h:JZ V P W){e:Int×Int×Int}(he:e∈P):mem V.laid e.1:=(h.hp _).2 ⟨e,he,rfl⟩
def JZ.Xp(h:JZ V P W){e:Int×Int×Int}(he:e∈P):512<=e.1/\e.1<34359738368:=h.ok.Ja _ (h.zK he)
def JZ.yZ(h:JZ V P W):P.length<=34359738368:=by
 have:=h.HT.KY (a:=0) (b:=34359738368) (by decide) λe he=>by have:=h.Xp he;unfold kP;omega
 omega
def Uw(H:Sat (HP E c V g P W++Z) w):P.length=g.s3.len/\g.s3.len<=g.s3.cap/\g.s3.cap<9223372036854775808:=(H.front 4 rfl).Gv (by decide) I9
def WE(H:Sat (HP E c V g P W++Z) w){i:Nat}{e:Int×Int×Int}(v:P[i]? =some e): ∃b,g.s3.base=some ⟨b,0,none⟩/\
  w.cell? ((Addr.mk b 0 none).add (i*3))=some (.int .u64 e.1)/\w.cell? (((Addr.mk b 0 none).add (i*3)).add 0)=some (.int .u64 e.1)/\w.cell? (((Addr.mk b 0 none).add (i*3)).add 1)=some (.int .i64 e.2.1)/\w.cell? (((Addr.mk b 0 none).add (i*3)).add 2)=some (.int .u64 e.2.2):=by
 have h:=H.front 4 rfl;obtain⟨b,d⟩:=h.FW (by decide) I9 (List.getElem?_eq_some_iff.1 v).1;refine⟨b,d,?_,?_,?_,?_⟩
 .exact h.Bh I9 d v (j:=0) rfl
 .rw[add_add];exact h.Bh I9 d v (j:=0) rfl
 .rw[add_add];exact h.Bh I9 d v (j:=1) rfl
 .rw[add_add];exact h.Bh I9 d v (j:=2) rfl
def Ox(H:Sat (HP E c V g P W++Z) w){K:Bool->World->Prop}(h0:V.rf=[]->K false w)
  (h1: ∀x r,V.rf=x::r-> ∀s w',Sat (HP E c {V with rf:=r} {g with s1:=s} P W++Z) w'->K x w'):F.EZ E (some ⟨c,0,none⟩) K w:=by
 unfold F.EZ;have T:=(H.front 2 rfl).MW;have d:=H.cell (o:=0) (m:=1) rfl;simp only[AG];refine⟨g.s1,d,BF (λe=>h0 ?_) λe=> ?_⟩
 .have:(Bn V.rf).length=0:=by omega
  simpa[Bn]using this
 .cases hr:V.rf with
  | nil=>have:=T.1;rw[hr]at this;simp[Bn]at this;omega
  | cons x r=>
   obtain⟨a,O,hd⟩:=(H.front 2 rfl).Nf (j:=0) (v:=.bool x) (by rw[hr];rfl);refine⟨g.s1,d,?_⟩;rw[O];simp only[AG];refine⟨⟨by decide,by omega⟩,x,hd,g.s1,d,⟨by decide,by omega⟩,?_⟩;have y:=Sat.back 2 ((H.front 2 rfl).Ng (n:=1) (by omega)) (by simp[HP]);rw[hr]at y;exact AZ y (o:=0) (m:=1) rfl (by simp[RT]) λw' J=>h1 x r hr ⟨F2 g.s1.base g.s1.cap (Int.toNat 1) 1,g.s1.len-Int.toNat 1,g.s1.cap-Int.toNat 1⟩ w' J
def SF{page AA:Int}(h0:0<=page)(j:0<=AA){K:Bool->World->Prop}(d: ∀b,(b=true↔JI page AA)->K b w):F.Fy E page AA K w:=by
 unfold F.Fy JI at *
 refine AB (λh1=>AB (λh2=> ?_) λh2=> ?_) λh1=> ?_
 .rw[AK (n:=34359738368-page)];exact d _ (by grind)
 .exact d _ (by simp;omega)
 .exact d _ (by simp;omega)
def Mr(hI:JZ V P W)(H:Sat (HP E c V g P W++Z) w){n:Int}{K:Int->Bool->World->Prop}
  (v: ∀b,(b=true↔ ∃e,P[pos kP P n]? =some e/\e.1=n)-> ∀w',Sat (HP E c V g P W++Z) w'->K (pos kP P n:Nat) b w'):F.DH E (some ⟨c,0,none⟩) n K w:=by
 unfold F.DH;have d:=H.drew;have T:=Uw H;have hf:=hI.yZ;simp only[AG];refine⟨g.s3,d.cell rfl,?_⟩;refine bsearch (key:=kP) (by decide) I9 (λ_=>rfl) hI.HT (d.front 4 rfl) (d.cell rfl) (by omega) n λst j=> ?_;have d:=d.drew;have hp:=Mf (key:=kP) P n;rw[j];refine⟨g.s3,d.cell rfl,AB (λO=> ?_) λJ=>v _ ⟨λh=>by(cases h),λ⟨e,he,_⟩=>by grind⟩ _ d⟩;obtain⟨e,he⟩: ∃e,P[pos kP P n]? =some e:=⟨_,List.getElem?_eq_getElem (by omega)⟩;obtain⟨b,y,h0,_⟩:=WE d he;refine⟨g.s3,d.cell rfl,?_⟩;rw[y];refine⟨⟨by omega,by omega⟩,e.1,h0,v _ ?_ _ d⟩
 grind
def lA(hI:JZ V P W){n:Int}:(∃e,P[pos kP P n]? =some e/\e.1=n)↔mem V.laid n:=by
 rw[hI.hp];exact⟨λ⟨e,he,h⟩=>⟨e,List.mem_of_getElem? he,h⟩,λ⟨e,he,h⟩=>⟨e,Mg hI.HT he h,h⟩⟩
def SG(hI:JZ V P W)(H:Sat (HP E c V g P W++Z) w){page AA:Int}(h0:0<=page)(p0:0<=AA)(h1:page+AA<18446744073709551616){K:Int->Bool->World->Prop}
  (O:(∀m,page<=m->m<page+AA-> ¬mem V.laid m)-> ∀w',Sat (HP E c V g P W++Z) w'->K 0 true w')
  (Y: ∀m,mem V.laid m->page<=m->m<page+AA->m<34359738368-> ∀w',Sat (HP E c V g P W++Z) w'->K (m+1) false w'):
  F.BG E (some ⟨c,0,none⟩) page AA K w:=by
 unfold F.BG T0.BG;refine Mr hI H λb _ w3 v=> ?_;have hl:=Uw v;have hp:=Mf (key:=kP) P page;simp only[AG];rw[AK (n:=page+AA) (by omega) h1];refine AV ⟨g.s3,v.cell rfl,AB (λaD=> ?_) λaC j=>AO rfl (O (λm h1 h2 T=> ?_) _ v)⟩
 .obtain⟨e,he⟩: ∃e,P[pos kP P page]? =some e:=⟨_,List.getElem?_eq_getElem (by omega)⟩;obtain⟨b,hb,aB,_⟩:=WE v he;have J:=pos_at he;have hr:=hI.Xp (List.mem_of_getElem? he);unfold kP at J;refine⟨g.s3,v.cell rfl,?_⟩;rw[hb];refine⟨⟨by omega,by omega⟩,e.1,by grind,λj=>AB (λg1=> ?_) λg1=>O (λm h1 h2 T=> ?_) _ v⟩
  .refine⟨g.s3,v.cell rfl,?_⟩;rw[hb];refine⟨⟨by omega,by omega⟩,e.1,by grind,?_⟩;rw[AK (n:=e.1+1)];exact Y e.1 (hI.zK (List.mem_of_getElem? he)) J g1 hr.2 _ v
  .obtain⟨d,hd,hk⟩:=(hI.hp m).1 T;obtain⟨j,y⟩:=List.mem_iff_getElem?.1 hd;rcases Nat.lt_or_ge j (pos kP P page)with q|q
   .have:=HL (key:=kP) y q;omega
   .rcases Nat.lt_or_eq_of_le q with q|q
    .have:=hI.HT.lt he y q;unfold kP at this hk;omega
    .subst q;rw[he]at y;cases y;unfold kP at hk;omega
 .obtain⟨d,hd,hk⟩:=(hI.hp m).1 T;obtain⟨j,y⟩:=List.mem_iff_getElem?.1 hd;have:=(List.getElem?_eq_some_iff.1 y).1;have:=HL (key:=kP) y (n:=page) (by omega);omega
def least(p:Nat->Prop): ∀n,p n-> ∃n,p n/\ ∀m,m<n-> ¬p m:=by
 intro n
 induction n using Nat.strongRecOn with
 | ind n ih=>grind
def lB{l:Iv}(O: ∀p,mem l p->p<34359738368)(d AA:Int)(hf:d<=34359738368): ∃a,Lq l d AA a:=by
 have hex: ∃n:Nat,(512*(n:Int)) %512=0/\512<=512*(n:Int)/\d<=512*(n:Int)/\ ∀m,512*(n:Int)<=m->m<512*(n:Int)+AA-> ¬mem l m:=
  ⟨67108864,by decide,by decide,by omega,λm h1 _ y=>by grind⟩
 obtain⟨J,v⟩:=hex;obtain⟨n,hs,j⟩:=least (λn:Nat=>(512*(n:Int)) %512=0/\512<=512*(n:Int)/\d<=512*(n:Int)/\ ∀m,512*(n:Int)<=m->m<512*(n:Int)+AA-> ¬mem l m) J v;refine⟨512*(n:Int),hs.1,hs.2.1,hs.2.2.1,hs.2.2.2,λa K h1 h2 y=> ?_⟩;have:=j (a/512).toNat (by omega)
 grind
def SH(hI:JZ V P W)(H:Sat (HP E c V g P W++Z) w){d AA:Int}(h0:0<=d)(h1:d<18446744073709551616)(p0:0<AA)(p1:AA<=134217728){K:Int->Bool->World->Prop}
  (aF:Kl V.laid d AA-> ∀w',Sat (HP E c V g P W++Z) w'->K 0 false w')
  (aP: ∀at_,Wu V.laid d AA at_-> ∀w',Sat (HP E c V g P W++Z) w'->K at_ true w'):
  F.Bz E (some ⟨c,0,none⟩) d AA K w:=by
 unfold F.Bz T0.Bz;have main: ∀page:Int,0<page->page<18446744073709551616->d<=page->(∀a,a %512=0->512<=a->d<=a->a<page-> ∃m,a<=m/\m<a+AA/\mem V.laid m)->
   At (Int×Unit) (page,()) w λs4 _ w5 aG=>
   CND (decide ((s4.1:Int)≥34359738368)) (
    K 0 false w5
   ) (
    Af (Int×Unit) (λJ7=>
     512≠(0:Int)/\
     CND (((Int.tmod s4.1 512):Int) !=0) (
      512≠(0:Int)/\
      Hk (u64 ((u64 (s4.1+512))-(Int.tmod s4.1 512)):Int) λaB=>
      J7 (aB,()) w5
     ) (
      J7 (s4.1,()) w5
     )
    ) λs8 _ w9=>
     Af (Bool×Unit) (λY=>
      CND (decide ((s8.1:Int)≥34359738368)) (
       Y (true,()) w9
      ) (
       Y (decide ((AA:Int)>(u64 (34359738368-s8.1))),()) w9
      )
     ) λHR _ aC=>
      CND (HR.1) (
       K 0 false aC
      ) (
       F.BG E (some ⟨c,0,none⟩) s8.1 AA (λJ aH aD=>
       CND (aH) (
        K s8.1 true aD
       ) (
        aG (J,()) aD
       )
       ) aC
      )
   ):=by
  intro page O aE T y;refine AH (λst w'=>0<st.1/\st.1<18446744073709551616/\d<=st.1/\(∀a,a %512=0->512<=a->d<=a->a<st.1-> ∃m,a<=m/\m<a+AA/\mem V.laid m)/\Sat (HP E c V g P W++Z) w') (λst _=>(34359738368+1-st.1).toNat) ⟨O,aE,T,y,H⟩ ?_;clear O aE T y H page;rintro⟨page,v⟩ _ w5 ⟨O,aE,T,y,H⟩;dsimp only at O aE T y⊢;have aK: ∀p,mem V.laid p->p<34359738368:=λp hp=>(hI.ok.Ja p hp).2;have none: ∀page:Int,d<=page->(∀a,a %512=0->512<=a->d<=a->a<page-> ∃m,a<=m/\m<a+AA/\mem V.laid m)->34359738368<page+AA->Kl V.laid d AA:=λpage T y aW=>by
   rcases Int.lt_or_le 34359738368 d with g|g
   .exact .inl g
   .obtain⟨a,ha⟩:=lB aK d AA g;refine .inr ⟨a,ha,λh=> ?_⟩;rcases Int.lt_or_le a page with q|q
    .obtain⟨m,m1,m2,m3⟩:=y a ha.mul ha.low ha.fr q;exact ha.free m m1 m2 m3
    .omega
  refine AB (λaV=>aF (none page T y (by omega)) _ H) λaR=> ?_;have cont: ∀q:Int,page<=q->q<page+512->q %512=0-> ∀j:Nat->Value,
    Af (Bool×Unit) (λY=>
      CND (decide ((q:Int)≥34359738368)) (
       Y (true,()) w5
      ) (
       Y (decide ((AA:Int)>(u64 (34359738368-q))),()) w5
      )
     ) λHR _ aC=>
      CND (HR.1) (
       K 0 false aC
      ) (
       F.BG E (some ⟨c,0,Option.none⟩) q AA (λJ aH aD=>
       CND (aH) (
        K q true aD
       ) (
        ((0<J/\J<18446744073709551616/\d<=J/\(∀a,a %512=0->512<=a->d<=a->a<J-> ∃m,a<=m/\m<a+AA/\mem V.laid m)/\Sat (HP E c V g P W++Z) aD)/\(34359738368+1-J).toNat<(34359738368+1-page).toNat)
       )
       ) aC
      ):=by
   intro q q0 q1 q8 j;have aA: ∀a,a %512=0->512<=a->d<=a->a<q-> ∃m,a<=m/\m<a+AA/\mem V.laid m:=λa a1 a2 a3 a4=>y a a1 a2 a3 (by omega);refine AV (AB (λg1 j=>AU rfl (aF (none q (by omega) aA (by omega)) _ H)) λg1=> ?_);rw[AK (n:=34359738368-q)];refine λj=>AB (λg2=>aF (none q (by omega) aA (by omega)) _ H) λg2=> ?_;refine SG hI H (by omega) (by omega) (by omega) (λaO w' H'=>AU rfl (aP q ⟨by omega,⟨q8,by omega,by omega,aO,aA⟩,by omega⟩ _ H')) λm m0 m1 m2 m3 w' H'=>AO rfl ⟨⟨by omega,by omega,by omega,λa a1 a2 a3 a4=> ?_,H'⟩,by omega⟩
   grind
  rw[Int.tmod_eq_emod_of_nonneg (by omega)];refine AV ⟨by decide,DM (λhm=>⟨by decide,AY λq hq=> ?_⟩) λhm=>cont page (Int.le_refl _) (by omega) hm⟩;rw[AK (n:=page+512),AK]at hq;exact cont q (by omega) (by omega) (by omega)
 refine AV (BF (λe j=>main 512 (by decide) (by decide) (by omega) λa _ a2 _ a4=>by omega) λe j=>main d (by omega) h1 (Int.le_refl _) λa _ _ a3 a4=>by omega)
def Zx(H:Sat (Gc E c V::Z) w){n:Int}{K:Int->World->Prop}(v: ∀w',Sat (Gc E c V::Z) w'->K (Xq V n) w'):F.Cy E (some ⟨c,0,none⟩) n K w:=by
 obtain⟨g,P,W,hI,H⟩:=Sat.Uv.1 H;unfold F.Cy T0.Cy;refine Mr hI H λb j J d=> ?_;have fin:=v J (Sat.Uv.2 ⟨g,P,W,hI,d⟩);have O:=Uw d;cases b
 .refine AU rfl ?_;have: ¬mem V.laid n:=λh=>by have:=j.2 ((lA hI).2 h);cases this
  have e:Xq V n=0:=by unfold Xq;rw[if_neg λh=>this (Bl.1 h)]
  grind
 .refine AO rfl ?_;obtain⟨e,he,hk⟩:=j.1 rfl;obtain⟨b,j,_,_,h1,_⟩:=WE d he;have y:=(List.getElem?_eq_some_iff.1 he).1;simp only[AG];refine⟨g.s3,d.cell rfl,?_⟩;rw[j];refine⟨⟨by omega,by omega⟩,e.2.1,by grind,?_⟩;rw[hI.hs e (List.mem_of_getElem? he),hk];exact fin
end
section
variable{V V':VS}{P:rG}{W W':uX}{p:Int}
def qF(h:VH V)(h2:mem V.ready p):Xq V p=2:=by
 rcases OU h p with ⟨_,_,g,_⟩|⟨_,_,g,_⟩|⟨g,_⟩|⟨_,_,g,_⟩
 .grind
 .grind
 .exact g
 grind
def stV_1(h:VH V)(h1:mem V.laid p)(h2: ¬mem V.ready p)(d: ¬mem V.rel p):Xq V p=1:=by
 rcases OU h p with ⟨_,g,_⟩|⟨g,_⟩|⟨_,_,g,_⟩|⟨_,_,_,g⟩
 .grind
 .exact g
 .grind
 grind
def RU(h1:mem V'.laid p↔mem V.laid p)(h2:mem V'.ready p↔mem V.ready p)(d:mem V'.rel p↔mem V.rel p):Xq V' p=Xq V p:=by
 have j:M5 V'.laid p=M5 V.laid p:=Bool.eq_iff_iff.2 (by rw[Bl,Bl];exact h1);have v:M5 V'.ready p=M5 V.ready p:=Bool.eq_iff_iff.2 (by rw[Bl,Bl];exact h2);have y:M5 V'.rel p=M5 V.rel p:=Bool.eq_iff_iff.2 (by rw[Bl,Bl];exact d);unfold Xq;grind
def JZ.st(hI:JZ V P W){e:Int×Int×Int}(he:e∈P):(e.2.1=1/\ ¬mem V.ready e.1/\ ¬mem V.rel e.1)∨(e.2.1=2/\mem V.ready e.1/\ ¬mem V.rel e.1)∨(e.2.1=3/\ ¬mem V.ready e.1/\mem V.rel e.1):=by
 have h:=hI.hs e he;have hm:=hI.zK he;rcases OU hI.ok e.1 with ⟨_,g,_⟩|⟨g1,_,g2,g3⟩|⟨g1,_,g2,g3⟩|⟨g1,_,g2,g3⟩
 .grind
 .grind
 .grind
 grind
def JZ.is2(hI:JZ V P W){e:Int×Int×Int}(he:e∈P):e.2.1=2↔mem V.ready e.1:=by
 rcases hI.st he with ⟨g,h,_⟩|⟨g,h,_⟩|⟨g,h,_⟩
 .grind
 .grind
 grind
def JZ.is3(hI:JZ V P W){e:Int×Int×Int}(he:e∈P):e.2.1=3↔mem V.rel e.1:=by
 rcases hI.st he with ⟨g,_,h⟩|⟨g,_,h⟩|⟨g,_,h⟩
 .grind
 .grind
 grind
def uY{F:Int×Int×Int->Int×Int×Int}(d: ∀e,kP (F e)=kP e)(hs:Ik kP P):Ik kP (P.map F):=by
 unfold Ik;rw[List.pairwise_map];exact List.Pairwise.imp (λh=>by grind) hs
def map_set{F v:Int×Int×Int->Int×Int×Int}(hs:Ik kP P){j:Nat}{e:Int×Int×Int}(y:P[j]? =some e)(h: ∀d∈P,d.1≠e.1->v d=F d):(P.map F).set j (v e)=P.map v:=by
 apply List.ext_getElem?;intro i;rw[List.getElem?_set,List.getElem?_map,List.getElem?_map,List.length_map];by_cases J:j=i
 .grind
 .rw[if_neg J];cases hd:P[i]? with
  | none=>rfl
  | some d=>
   have:d.1≠e.1:=by
    rcases Nat.lt_or_gt_of_ne J with q|q
    .have:=hs.lt y hd q;unfold kP at this;omega
    .have:=hs.lt hd y q;unfold kP at this;omega
   grind
def JZ.full(hI:JZ V P W){a:Int}{n:Nat}(hf: ∀m,a<=m->m<a+n->mem V.laid m){k:Nat}(hk:k<n): ∃e,P[pos kP P a+k]? =some e/\e.1=a+k:=by
 obtain⟨e,he,d⟩:=(hI.hp (a+k)).1 (hf _ (by omega) (by omega));have h1:=Mg hI.HT he d;have h2:=Ww hI.HT hI.ok.Le hI.hp a k;rw[(Eu hI.ok.Le (by omega)).2 λm m1 j=>hf m m1 (by omega)]at h2;rw[show pos kP P (a+(k:Int))=pos kP P a+k by omega]at h1;exact⟨e,h1,d⟩
def JZ.XU(hI:JZ V P W)(A2:VH V'){a:Int}{n:Nat}(T:V'.ready=V.ready)(hl:V'.rel=V.rel)(J:V'.wd=V.wd)(O: ∀x∈V'.pl,x∈V.pl)
  (hm: ∀p,mem V'.laid p↔mem V.laid p∨(a<=p/\p<a+n))(v: ∀p,a<=p->p<a+n-> ¬mem V.laid p):
  JZ V' (P.take (pos kP P a)++((List.range n).map λi:Nat=>(a+(i:Int),(1:Int),(0:Int)))++P.drop (pos kP P a)) W:=by
 have d: ∀e,e∈P.take (pos kP P a)++((List.range n).map λi:Nat=>(a+(i:Int),(1:Int),(0:Int)))++P.drop (pos kP P a)↔e∈P∨ ∃i:Nat,i<n/\e=(a+(i:Int),1,0):=λe=>by
  rw[List.mem_append,List.mem_append,List.mem_map];constructor
  .grind
  .rintro(h|⟨i,h,rfl⟩)
   .rcases Int.lt_or_le (kP e) a with g|g
    .exact .inl (.inl (jW hI.HT h g))
    .exact .inr (jX h g)
   grind
 have Y: ∀p,a<=p->p<a+n-> ¬mem V.ready p/\ ¬mem V.rel p:=λp h1 h2=>⟨λh=>v p h1 h2 (hI.ok.rl p h),λh=>v p h1 h2 (hI.ok.el p h)⟩;refine⟨A2,?_,hI.srw,λp=> ?_,λe he=> ?_,λe he=> ?_,λe he y i h0 h1 hx=> ?_,λx hx=>hI.fZ x (O x hx)⟩
 .refine Ik.jY (hI.HT.take _) ?_ (hI.HT.drop _) (a:=a) (b:=a+n) (by omega) (λe he=>(K0 he).2) (λe he=> ?_) λe he=> ?_
  .unfold Ik;rw[List.pairwise_map];exact List.Pairwise.imp (λh=>by unfold kP;omega) List.pairwise_lt_range
  .obtain⟨i,K,rfl⟩:=List.mem_map.1 he;have:=List.mem_range.1 K;unfold kP;omega
  .have h1:=K1 hI.HT he;rcases Int.lt_or_le (kP e) (a+n)with g|g
   .exact absurd (hI.zK h1.1) (v _ h1.2 g)
   .exact g
 .rw[hm,hI.hp];constructor
  .rintro(⟨e,he,hk⟩|⟨h1,h2⟩)
   .grind
   .refine⟨(p,1,0),(d _).2 (.inr ⟨(p-a).toNat,by omega,?_⟩),rfl⟩
    grind
  .rintro⟨e,he,hk⟩;rcases(d e).1 he with h|⟨i,K,rfl⟩
   .grind
   .unfold kP at hk;omega
 .rcases(d e).1 he with h|⟨i,K,rfl⟩
  .rw[hI.hs e h];refine(RU ⟨λg=> ?_,λg=>(hm _).2 (.inl g)⟩ (by rw[T]) (by rw[hl])).symm;exact hI.zK h
  .have:=Y (a+(i:Int)) (by omega) (by omega);exact(stV_1 A2 ((hm _).2 (.inr ⟨by dsimp only;omega,by omega⟩)) (by grind) (by grind)).symm
 .rw[T,J];exact hI.hw e he
 .rw[T]at y;rcases(d e).1 he with h|⟨j,hj,rfl⟩
  .rw[J];exact hI.hf e h y i h0 h1 hx
  grind
def cF(V:VS)(page x:Int)(e:Int×Int×Int):Int×Int×Int:=if page<=e.1/\e.1<x/\e.2.1≠2 then(e.1,2,if e.2.1=3 then Hn V page e.1 else 0)else e
def Ux(V:VS)(page x:Int)(e:Int×Int×Int):kP (cF V page x e)=kP e:=by unfold cF;split<;>rfl
def JZ.PG(hI:JZ V P W){page AA:Int}(A2:VH V')(h1:V'.laid=V.laid)(h2: ∀p,mem V'.ready p↔mem V.ready p∨(page<=p/\p<page+AA))(O: ∀p,mem V'.rel p↔mem V.rel p/\ ¬(page<=p/\p<page+AA))
  (J: ∀p i,V'.wd p i=if page<=p/\p<page+AA/\M5 V.rel p=true then Hn V page p else V.wd p i)(K: ∀x∈V'.pl,x∈V.pl):JZ V' (P.map (cF V page (page+AA))) W:=by
 refine⟨A2,uY (Ux V page _) hI.HT,hI.srw,λp=> ?_,λe' d=> ?_,λx y=> ?_,λe' d v i i0 i1 y=> ?_,λx y=>hI.fZ x (K x y)⟩
 .rw[h1,hI.hp];constructor
  .rintro⟨e,he,hk⟩;exact⟨_,List.mem_map_of_mem he,(Ux V page _ e).trans hk⟩
  .rintro⟨e',d,hk⟩;obtain⟨e,he,rfl⟩:=List.mem_map.1 d;exact⟨e,he,(Ux V page _ e).symm.trans hk⟩
 .obtain⟨e,he,rfl⟩:=List.mem_map.1 d;have hk:(cF V page (page+AA) e).1=e.1:=Ux V page _ e;rw[hk];unfold cF;by_cases c:page<=e.1/\e.1<page+AA/\e.2.1≠2
  .rw[if_pos c];exact(qF A2 ((h2 _).2 (.inr ⟨c.1,c.2.1⟩))).symm
  .rw[if_neg c];by_cases c2:mem V.ready e.1
   .rw[(hI.is2 he).2 c2];exact(qF A2 ((h2 _).2 (.inl c2))).symm
   .have c3: ¬(page<=e.1/\e.1<page+AA):=λg=>c ⟨g.1,g.2,λk=>c2 ((hI.is2 he).1 k)⟩;rw[hI.hs e he];refine(RU (by rw[h1]) ?_ ?_).symm
    .grind
    grind
 .obtain⟨g1,g2,g3⟩:=hI.hw x y;refine⟨g1,(h2 _).2 (.inl g2),?_⟩;rw[J,if_neg λg=>hI.ok.re _ g2 (Bl.1 g.2.2)];exact g3
 .obtain⟨e,he,rfl⟩:=List.mem_map.1 d;have hk:(cF V page (page+AA) e).1=e.1:=Ux V page _ e;rw[hk]at v y⊢;rw[J];rcases hI.st he with ⟨s,r1,r2⟩|⟨s,r1,r2⟩|⟨s,r1,r2⟩
  .have j:=((h2 _).1 v).resolve_left r1;rw[if_neg λg=>r2 (Bl.1 g.2.2)];unfold cF;rw[if_pos ⟨j.1,j.2,by omega⟩];dsimp only;rw[if_neg (by omega)];exact hI.ok.clean _ _ i0 i1 r1
  .rw[if_neg λg=>r2 (Bl.1 g.2.2)];unfold cF;rw[if_neg λg=>g.2.2 s];exact hI.hf e he r1 i i0 i1 y
  .have j:=((h2 _).1 v).resolve_left r1;rw[if_pos ⟨j.1,j.2,Bl.2 r2⟩];unfold cF
   grind
def VH.congr(h:VH V)(h1:V'.laid=V.laid)(h2:V'.ready=V.ready)(d:V'.rel=V.rel)(hw: ∀p i,0<=i->i<1024-> ¬mem V.ready p->V'.wd p i=0):VH V':=
 ⟨by rw[h1];exact h.Le,by rw[h2];exact h.Ol,by rw[d];exact h.Vr,by rw[h1,h2];exact h.rl,by rw[h1,d];exact h.el,by rw[h2,d];exact h.re,by rw[h1];exact h.Ja,by grind,by rw[h1,h2,d];exact h.xW⟩
def JZ.congr(hI:JZ V P W)(h1:V'.laid=V.laid)(h2:V'.ready=V.ready)(K:V'.rel=V.rel)(v: ∀x∈V'.pl,x∈V.pl)(j: ∀p i,0<=i->i<1024->V'.wd p i=V.wd p i):JZ V' P W:=by
 refine⟨hI.ok.congr h1 h2 K λp i i0 i1 h=>by rw[j p i i0 i1];exact hI.ok.clean p i i0 i1 h,hI.HT,hI.srw,λp=>by rw[h1];exact hI.hp p,λe he=> ?_,λy J=> ?_,λe he d i i0 i1 O=> ?_,λy J=>hI.fZ y (v y J)⟩
 .rw[hI.hs e he];exact(RU (by rw[h1]) (by rw[h2]) (by rw[K])).symm
 .obtain⟨g1,g2,g3⟩:=hI.hw y J
  grind
 .rw[h2]at d;rw[j _ _ i0 i1];exact hI.hf e he d i i0 i1 O
end
def vW{F:List Pr}{w:World}{t:Nat}{x y z:Int}(H:Sat F w){K:Nat->World->Prop}(O: ∀b w',Sat (Cells b t [.int .u64 x,.int .i64 y,.int .u64 z]::F) w'->K b w'):
  AL (.cells #[.int .u64 0,.int .i64 0,.int .u64 0] t) w λb w1=>stCells (Addr.mk b 0 none) 0 [.int .u64 x,.int .i64 y,.int .u64 z] w1 λd=>K b d:=by
 refine AR (vs:=[.int .u64 0,.int .i64 0,.int .u64 0]) H λb w1 H1 _=> ?_;exact GM (news:=[.int .u64 x,.int .i64 y,.int .u64 z]) H1 rfl (by intro v j;simp at j;rcases j with rfl|rfl|rfl<;>rfl) λd J=>O b d J
section
variable{E:Env}{c:Nat}{V:VS}{Z:List Pr}{w:World}{g:MG}{P:rG}{W:uX}
def mput3{s:Aa}{P':rG}(H:Sat (Row E.Ap 3 s (Al lS P')::(HP E c V g P W++Z)) w){K:World->Prop}(j: ∀w',Sat (HP E c V {g with s3:=s} P' W++Z) w'->K w'):
  stCells ((Addr.mk c 0 none).add 3) 0 [.slice s.base s.len s.cap] w K:=by
 refine AZ (H.front 1 rfl) (o:=0) (m:=3) rfl (by simp[RT]) λw' d=>j w' ?_;have h1:=(d.front 5 rfl).tail;exact Sat.PC [Cells c E.As (RT {g with s3:=s}),KI g.s0 (ints .u64 V.pl),KI g.s1 (Bn V.rf),KI g.s2 (ints .u64 V.fl)] (T:=Row E.Hv 2 g.s4 (Al wd2 W)::Z) (h1.front 1 rfl)
def XV(H:Sat (Gc E c V::Z) w){page AA:Int}(h0:0<=page)(h1:page<18446744073709551616)(p0:0<=AA)(p1:AA<18446744073709551616){K:Int->World->Prop}
  (cE: ¬JI page AA-> ∀w',Sat (Gc E c V::Z) w'->K 1 w')
  (bQ:JI page AA->cnt V.laid page (page+AA)≠AA-> ∀w',Sat (Gc E c V::Z) w'->K 33 w')
  (cG:JI page AA->cnt V.laid page (page+AA)=AA->cnt V.ready page (page+AA)=AA-> ∀w',Sat (Gc E c V::Z) w'->K 0 w')
  (cH:JI page AA->cnt V.laid page (page+AA)=AA->cnt V.ready page (page+AA)≠AA-> ∀r,V.rf=true::r-> ∀w',Sat (Gc E c {V with rf:=r}::Z) w'->K 13 w')
  (cI:JI page AA->cnt V.laid page (page+AA)=AA->cnt V.ready page (page+AA)≠AA->(∀r,V.rf≠true::r)-> ∀w',(VH (IY V page AA)->Sat (Gc E c (IY V page AA)::Z) w')->K 0 w'):
  F.Ce E (some ⟨c,0,none⟩) page AA K w:=by
 have H0:=H;obtain⟨g,P,W,hI,H⟩:=Sat.Uv.1 H;have back: ∀w',Sat (HP E c V g P W++Z) w'->Sat (Gc E c V::Z) w':=λw' H'=>Sat.Uv.2 ⟨g,P,W,hI,H'⟩;unfold F.Ce T0.Ce;refine SF h0 p0 λbr cA=> ?_;cases br
 .exact AU rfl (cE (λh=>by grind) _ H0)
 have y:=cA.1 rfl;have cK:=y;unfold JI at cK;have hA:page<page+AA:=by omega
 have hB:page+AA<18446744073709551616:=by omega
 refine AO rfl (Mr hI H λb3 c8 w5 H5=> ?_);have hl:=Uw H5;have dA:=hI.yZ;have hp:=Mf (key:=kP) P page;simp only[AG];refine⟨g.s3,H5.cell rfl,?_⟩;rw[AE (n:=((g.s3.len:Nat):Int)-(pos kP P page:Nat)),AK (n:=((g.s3.len:Nat):Int)-(pos kP P page:Nat))];have aJ:cnt V.laid page (page+AA)=AA↔ ∀m,page<=m->m<page+AA->mem V.laid m:=by
  have:=Eu hI.ok.Le (a:=page) (b:=page+AA) (by omega)
  grind
 have aR:cnt V.ready page (page+AA)=AA↔ ∀m,page<=m->m<page+AA->mem V.ready m:=by
  have:=Eu hI.ok.Ol (a:=page) (b:=page+AA) (by omega)
  grind
 have aV:cnt V.laid page (page+AA)=AA-> ∀k:Nat,(k:Int)<AA-> ∃e,P[pos kP P page+k]? =some e/\e.1=page+k:=λhc k hk=>by
  have:=hI.full (a:=page) (n:=AA.toNat) (λm m1 m2=>aJ.1 hc m m1 (by omega)) (k:=k) (by omega);exact this
 refine AB (λdB=>bQ y (λhc=> ?_) _ (back _ H5)) λhle=> ?_
 .obtain⟨e,he,_⟩:=aV hc (AA.toNat-1) (by omega)
  grind
 refine AH (λst w'=>Sat (HP E c V g P W++Z) w'/\ ∃i:Nat,st.2.1=i/\(i:Int)<=AA/\(∀k:Nat,k<i-> ∃e,P[pos kP P page+k]? =some e/\e.1=page+k)/\(st.1=true↔ ∀m,page<=m->m<page+i->mem V.ready m)) (λst _=>(AA-st.2.1).toNat)
  ⟨H5,0,rfl,by show(0:Int)<=AA;omega,λk hk=>by omega,⟨λ_ m m1 m2=>by omega,λ_=>rfl⟩⟩ ?_
 rintro⟨rd,i',v⟩ _ w9 ⟨H9,i,hi,bO,bG,a0⟩;dsimp only at hi a0⊢;subst hi;refine AB (λbR=> ?_) λcD=> ?_
 .obtain⟨e,he⟩: ∃e,P[pos kP P page+i]? =some e:=⟨_,List.getElem?_eq_getElem (by omega)⟩;obtain⟨b,hb,_,c0,c1,c2⟩:=WE H9 he;have aA:=List.mem_of_getElem? he;have cC:=hI.Xp aA;rw[AE (n:=(i:Int)),AE (n:=(pos kP P page:Nat)+(i:Int)),AK (n:=page+(i:Int)),AK (n:=(i:Int)+1)];refine⟨g.s3,H9.cell rfl,?_⟩;rw[hb];have et:Int.toNat ((pos kP P page:Nat)+(i:Int))=pos kP P page+i:=by omega
  rw[et];refine⟨⟨by omega,by omega⟩,e.1,c0,e.2.1,c1,e.2.2,c2,vW H9 λc3 dG aH=>⟨e.1,aH.Ah rfl,DM (λdD=>bQ y (λhc=> ?_) _ (back _ aH.tail)) λheq=> ?_⟩⟩
  .grind
  .have aI: ∀k:Nat,k<i+1-> ∃e,P[pos kP P page+k]? =some e/\e.1=page+k:=λk hk=>by
    rcases Nat.lt_or_eq_of_le (Nat.le_of_lt_succ hk)with q|q
    .grind
    grind
   refine AQ (λht=>⟨e.2.1,aH.cell rfl,⟨aH.tail,i+1,by omega,by omega,aI,?_⟩,by omega⟩) λhf=>⟨⟨aH.tail,i+1,by omega,by omega,aI,?_⟩,by omega⟩
   .rw[beq_iff_eq,hI.is2 aA];have:=a0.1 ht;constructor
    .intro h m m1 m2;rcases Int.lt_or_le m (page+i)with q|q
     .exact this m m1 q
     .rw[show m=e.1 by omega];exact h
    .intro h;exact h e.1 (by omega) (by omega)
   grind
 .have bP:(i:Int)=AA:=by omega
  have hc:cnt V.laid page (page+AA)=AA:=aJ.2 λm m1 m2=>by
   obtain⟨e,he,hk⟩:=bG (m-page).toNat (by omega);have:=hI.zK (List.mem_of_getElem? he)
   grind
  refine AQ (λht=>cG y hc (aR.2 λm m1 m2=>a0.1 ht m m1 (by omega)) _ (back _ H9)) λhf=> ?_;have aG:cnt V.ready page (page+AA)≠AA:=λh=>by grind
  have main:(∀r,V.rf≠true::r)-> ∀(s1:Aa) (a6:World),Sat (HP E c {V with rf:=V.rf.tail} {g with s1:=s1} P W++Z) a6->
    At (Int×Unit) (0,()) a6 λMK _ aB aE=>
     CND (decide ((MK.1:Int)<(i64 (AA)))) (
      NC (some (Addr.mk c 0 none)) λcN=>
      ∃aM:Aa,aB.cell? (cN.add 3)=some (.slice aM.base aM.len aM.cap)/\
      NC aM.base λa2=>
      ((0:Int)<=(i64 ((pos kP P page:Nat)+MK.1))/\((i64 ((pos kP P page:Nat)+MK.1)):Int)<(aM.len:Nat))/\
      ∃bD:Int,aB.cell? ((a2.add (Int.toNat (i64 ((pos kP P page:Nat)+MK.1))*3)).add 0)=some (.int .u64 bD)/\
      ∃bE:Int,aB.cell? ((a2.add (Int.toNat (i64 ((pos kP P page:Nat)+MK.1))*3)).add 1)=some (.int .i64 bE)/\
      ∃bF:Int,aB.cell? ((a2.add (Int.toNat (i64 ((pos kP P page:Nat)+MK.1))*3)).add 2)=some (.int .u64 bF)/\
      AL (.cells #[.int .u64 0,.int .i64 0,.int .u64 0] E.Ap) aB λaD cU=>
      stCells (Addr.mk aD 0 none) 0 [.int .u64 bD,.int .i64 bE,.int .u64 bF] cU λT=>
      ∃bU:Int,T.cell? ((Addr.mk aD 0 none).add 1)=some (.int .i64 bU)/\
      CND ((bU:Int)==2) (
       aE (i64 (MK.1+1),()) T
      ) (
       Af (Int×Unit) (λbB=>
        Af (Bool×Unit) (λbC=>
         ∃bV:Int,T.cell? ((Addr.mk aD 0 none).add 1)=some (.int .i64 bV)/\
         CND ((bV:Int)==3) (
          NC (some (Addr.mk c 0 none)) λcO=>
          ∃aT:Aa,T.cell? (cO.add 2)=some (.slice aT.base aT.len aT.cap)/\
          bC (decide ((((aT.len:Nat):Int):Int)>0),()) T
         ) (
          bC (false,()) T
         )
        ) λz5 _ aL=>
         CND (z5.1) (
          NC (some (Addr.mk c 0 none)) λcP=>
          ∃aN:Aa,aL.cell? (cP.add 2)=some (.slice aN.base aN.len aN.cap)/\
          NC aN.base λcQ=>
          ((0:Int)<=0/\(0:Int)<(aN.len:Nat))/\
          ∃bW:Int,aL.cell? (cQ.add (Int.toNat 0*1))=some (.int .u64 bW)/\
          NC (some (Addr.mk c 0 none)) λcR=>
          ∃aC:Aa,aL.cell? (cR.add 2)=some (.slice aC.base aC.len aC.cap)/\
          ((0:Int)<=1/\(1:Int)<=(aC.len:Nat))/\
          NC (some (Addr.mk c 0 none)) λcS=>
          stCells (cS.add 2) 0 [.slice (F2 aC.base aC.cap (Int.toNat 1) 1) (aC.len-(Int.toNat 1)) (aC.cap-(Int.toNat 1))] aL λa7=>
          bB (bW,()) a7
         ) (
          bB (0,()) aL
         )
       ) λz6 _ Y=>
        NC (some (Addr.mk c 0 none)) λcT=>
        ∃J:Aa,Y.drew.cell? (cT.add 3)=some (.slice J.base J.len J.cap)/\
        ∃aO:Int,Y.drew.cell? (Addr.mk aD 0 none)=some (.int .u64 aO)/\
        NC J.base λa3=>
        ((0:Int)<=(i64 ((pos kP P page:Nat)+MK.1))/\((i64 ((pos kP P page:Nat)+MK.1)):Int)<(J.len:Nat))/\
        stCells (a3.add (Int.toNat (i64 ((pos kP P page:Nat)+MK.1))*3)) 0 [.int .u64 aO,.int .i64 2,.int .u64 z6.1] Y.drew λaS=>
        aE (i64 (MK.1+1),()) aS
      )
     ) (
      K 0 aB
     ):=by
   intro cL s1 a6 b0;have bI:P.map (cF V page (page+((0:Nat):Int)))=P:=by
    rw[show P=P.map id by simp,List.map_map];exact List.map_congr_left λe _=>by show cF V page (page+((0:Nat):Int)) e=e;unfold cF;rw[if_neg (by omega)]
   have bJ:cnt V.rel page (page+((0:Nat):Int))=0:=(DW hI.ok.Vr (by omega)).2 λn n1 n2=>by omega
   rw[AE (n:=AA)];refine AH (λst w'=> ∃i:Nat,st.1=i/\(i:Int)<=AA/\ ∃s2,Sat (HP E c {V with rf:=V.rf.tail,fl:=V.fl.drop (cnt V.rel page (page+i)).toNat} {g with s1:=s1,s2:=s2} (P.map (cF V page (page+i))) W++Z) w') (λst _=>(AA-st.1).toNat)
    ⟨0,rfl,by show(0:Int)<=AA;omega,g.s2,by rw[bI,bJ];exact b0⟩ ?_
   rintro⟨i',v⟩ _ aB ⟨i,hi,bO,s2,aF⟩;dsimp only at hi⊢;subst hi;refine AB (λbR=> ?_) λcD=> ?_
   .obtain⟨e,he,aZ⟩:=aV hc i bR;have aA:=List.mem_of_getElem? he;have hlen:=(List.getElem?_eq_some_iff.1 he).1;have cC:=hI.Xp aA;have c9:=DL V.rel page (page+i);have aQ:=Jd hI.ok.Vr (a:=page) (k:=page+i) (by omega);have b7:page+(i:Int)+1=page+((i+1:Nat):Int):=by omega
    rw[b7]at aQ;have bL:(P.map (cF V page (page+i)))[pos kP P page+i]? =some e:=by
     rw[List.getElem?_map,he];show some (cF V page (page+i) e)=some e;unfold cF;grind
    have bS: ∀d∈P,d.1≠e.1->cF V page (page+((i+1:Nat):Int)) d=cF V page (page+i) d:=λd _ hd=>by
     unfold cF;by_cases q:page<=d.1/\d.1<page+i/\d.2.1≠2
     .grind
     .rw[if_neg q,if_neg λq2=>q ⟨q2.1,by omega,q2.2.2⟩]
    have cJ:=Uw aF;rw[List.length_map]at cJ;simp only[AG];rw[AE (n:=(pos kP P page:Nat)+(i:Int)),AE (n:=(i:Int)+1)];have et:Int.toNat ((pos kP P page:Nat)+(i:Int))=pos kP P page+i:=by omega
    rw[et];obtain⟨b,hb,_,c0,c1,c2⟩:=WE aF bL;refine⟨_,aF.cell rfl,?_⟩;rw[hb];refine⟨⟨by omega,by omega⟩,e.1,c0,e.2.1,c1,e.2.2,c2,vW aF λaD T O=>⟨e.2.1,O.cell rfl,BF (λa5=> ?_) λa5=> ?_⟩⟩
    .refine⟨⟨i+1,by omega,by omega,s2,?_⟩,by omega⟩;have aG: ¬mem V.rel (page+i):=by rw[<-aZ];exact hI.ok.re _ ((hI.is2 aA).1 a5)
     have em:P.map (cF V page (page+((i+1:Nat):Int)))=P.map (cF V page (page+i)):=List.map_congr_left λd hd=>by
      by_cases q:d.1=e.1
      .have:d=e:=hI.HT.inj hd aA q;subst this;unfold cF;grind
      grind
     rw[em,aQ.2 aG];exact O.tail
    .-- the page's fill, and what is left of the fills
     have fin: ∀(fill:Int) (a4:Aa) (Y:World),cF V page (page+((i+1:Nat):Int)) e=(e.1,2,fill)->
       Sat (Cells aD E.Ap [.int .u64 e.1,.int .i64 e.2.1,.int .u64 e.2.2]::(HP E c {V with rf:=V.rf.tail,fl:=V.fl.drop (cnt V.rel page (page+((i+1:Nat):Int))).toNat} {g with s1:=s1,s2:=a4} (P.map (cF V page (page+i))) W++Z)) Y->
       ∃J:Aa,Y.drew.cell? ((Addr.mk c 0 none).add 3)=some (.slice J.base J.len J.cap)/\
        ∃aO:Int,Y.drew.cell? (Addr.mk aD 0 none)=some (.int .u64 aO)/\
        NC J.base λa3=>
        ((0:Int)<=((pos kP P page:Nat)+(i:Int))/\((pos kP P page:Nat)+(i:Int))<(J.len:Nat))/\
        stCells (a3.add ((pos kP P page+i)*3)) 0 [.int .u64 aO,.int .i64 2,.int .u64 fill] Y.drew λaS=>
        (∃k:Nat,(i:Int)+1=k/\(k:Int)<=AA/\ ∃s2,Sat (HP E c {V with rf:=V.rf.tail,fl:=V.fl.drop (cnt V.rel page (page+k)).toNat} {g with s1:=s1,s2:=s2} (P.map (cF V page (page+k))) W++Z) aS)/\(AA-((i:Int)+1)).toNat<(AA-(i:Int)).toNat:=by
      intro fill a4 Y aY b4;have Hd:=b4.drew;have dC:=Uw Hd.tail;obtain⟨b',bH,_⟩:=WE Hd.tail bL;refine⟨_,(Hd.front 1 rfl).cell rfl,e.1,Hd.Ah rfl,?_⟩;rw[bH];refine⟨⟨by omega,by grind⟩,?_⟩;refine oN I9 TF (Hd.front 5 rfl) (i:=pos kP P page+i) (by grind) (e.1,2,fill) bH λaS b6=>⟨⟨i+1,by omega,by omega,a4,?_⟩,by omega⟩;have a9:=(Sat.back 5 b6 (by simp[HP])).tail;rw[<-aY,map_set hI.HT he bS]at a9;exact a9
     have hF:cF V page (page+((i+1:Nat):Int)) e=(e.1,2,if e.2.1=3 then Hn V page e.1 else 0):=by
      unfold cF;rw[if_pos ⟨by omega,by omega,a5⟩]
     refine AV (AV ⟨e.2.1,O.cell rfl,BF (λaK=> ?_) λaK j=>AO rfl λj=> ?_⟩)
     .have bT:mem V.rel (page+i):=by rw[<-aZ];exact(hI.is3 aA).1 aK
      rw[if_pos aK]at hF;have bK:=aQ.1 bT;have bM:=(O.front 4 rfl).MW;refine⟨s2,(O.front 1 rfl).cell rfl,λj=>AB (λcX=> ?_) λhz=> ?_⟩
      .cases hd:V.fl.drop (cnt V.rel page (page+i)).toNat with
       | nil=>have:=bM.1;dsimp only at this;rw[hd]at this;simp[ints]at this;omega
       | cons x r=>
        obtain⟨a,ha,Ca⟩:=(O.front 4 rfl).Nf (j:=0) (v:=.int .u64 x) (by dsimp only;rw[hd];rfl);refine⟨s2,(O.front 1 rfl).cell rfl,?_⟩;rw[ha];refine⟨⟨by decide,by omega⟩,x,Ca,s2,(O.front 1 rfl).cell rfl,⟨by decide,by omega⟩,?_⟩;have b1:=Sat.back 4 ((O.front 4 rfl).Ng (n:=1) (show 1<=s2.len by omega)) (by simp[HP]);have hx:Hn V page e.1=x:=by
         unfold Hn;rw[aZ];have:V.fl[(cnt V.rel page (page+i)).toNat]? =some x:=by
          have:=congrArg (λl=>l[0]?) hd
          grind
         grind
        have cB:(V.fl.drop (cnt V.rel page (page+i)).toNat).drop 1=V.fl.drop (cnt V.rel page (page+((i+1:Nat):Int))).toNat:=by
         rw[List.drop_drop,bK];congr 1;omega
        rw[hx]at hF;refine AZ (b1.front 1 rfl) (o:=0) (m:=2) rfl (by simp[RT]) λa7 b5 j=>fin x ⟨F2 s2.base s2.cap (Int.toNat 1) 1,s2.len-Int.toNat 1,s2.cap-Int.toNat 1⟩ a7 hF ?_;have aW:=Sat.back 1 b5 (by simp[HP]);have e1:(ints IntKind.u64 (V.fl.drop (cnt V.rel page (page+i)).toNat)).drop 1=ints .u64 (V.fl.drop (cnt V.rel page (page+((i+1:Nat):Int))).toNat):=by
         rw[<-cB];simp[ints]
        dsimp only at aW;rw[e1]at aW;exact aW
      .have aU:V.fl.drop (cnt V.rel page (page+i)).toNat=[]:=by
        have:=bM.1;dsimp only at this;have:(ints IntKind.u64 (V.fl.drop (cnt V.rel page (page+i)).toNat)).length=0:=by omega
        rw[ints,List.length_map]at this
        grind
       have cW:=List.drop_eq_nil_iff.1 aU;have hx:Hn V page e.1=0:=by
        unfold Hn
        grind
       rw[hx]at hF;refine λj=>fin 0 s2 T hF ?_;have:V.fl.drop (cnt V.rel page (page+((i+1:Nat):Int))).toNat=V.fl.drop (cnt V.rel page (page+i)).toNat:=by
        rw[aU,List.drop_eq_nil_iff];omega
       grind
     .have aG: ¬mem V.rel (page+i):=λh=>aK ((hI.is3 aA).2 (by grind));rw[if_neg aK]at hF;refine fin 0 s2 T hF ?_;rw[aQ.2 aG];exact O
   .have bP:(i:Int)=AA:=by omega
    refine cI y hc aG cL aB λA2=> ?_;rw[bP]at aF;refine Sat.Uv.2 ⟨{g with s1:=s1,s2:=s2},P.map (cF V page (page+AA)),W,hI.PG A2 rfl (λp=> ?_) (λp=> ?_) (λp i=>rfl) (λx hx=>hx),aF⟩
    .exact EW hI.ok.Ol hA h0 hB p
    .exact Et hA
  refine Ox H9 (λe=>AO rfl (main (λr h=>by grind) g.s1 w9 ?_)) λx r e s w' H'=> ?_
  .have:V.rf.tail=V.rf:=by rw[e];rfl
   rw[this];exact H9
  .cases x
   .refine AO rfl (main (λr h=>by grind) s w' ?_);rw[e];exact H'
   .exact AU rfl (cH y hc aG r e w' (Sat.Uv.2 ⟨_,P,W,hI.congr rfl rfl rfl (λx hx=>hx) λ_ _ _ _=>rfl,H'⟩))
end
section
variable{E:Env}{c:Nat}{V:VS}{Z:List Pr}{w:World}{g:MG}{P:rG}{W:uX}
end
section
variable{E:Env}{c:Nat}{V:VS}{Z:List Pr}{w:World}{g:MG}{P:rG}{W:uX}
def VP(H:Sat (Gc E c V::Z) w){hint AA:Int}(h0:0<=hint)(h1:hint<18446744073709551616)(p0:0<=AA)(p1:AA<18446744073709551616){K:Int->Int->World->Prop}
  (aT:(AA=0∨AA %512≠0∨134217728<AA)->K 0 1 w)
  (bW: ¬(AA=0∨AA %512≠0∨134217728<AA)-> ∀r,V.rf=true::r-> ∀w',Sat (Gc E c {V with rf:=r}::Z) w'->K 0 13 w')
  (bX: ¬(AA=0∨AA %512≠0∨134217728<AA)->(∀r,V.rf≠true::r)->MA V hint AA-> ∀w',Sat (Gc E c {V with rf:=V.rf.tail,pl:=V.pl.tail}::Z) w'->K 0 13 w')
  (bY: ¬(AA=0∨AA %512≠0∨134217728<AA)->(∀r,V.rf≠true::r)-> ∀at_,512<=at_->at_+AA<=34359738368->IK V hint AA at_-> ∀w',(VH {V with rf:=V.rf.tail,pl:=V.pl.tail,laid:=Dt V.laid at_ (at_+AA)}->Sat (Gc E c {V with rf:=V.rf.tail,pl:=V.pl.tail,laid:=Dt V.laid at_ (at_+AA)}::Z) w')->K at_ 0 w'):
  F.CT E (some ⟨c,0,none⟩) hint AA K w:=by
 unfold F.CT T0.CT;rw[Int.tmod_eq_emod_of_nonneg p0];refine AV (BF (λe j=>AU rfl (aT (.inl e))) λn1=>⟨by decide,DM (λe j=>AU rfl (aT (.inr (.inl e)))) λn2 j=>AB (λe=>aT (.inr (.inr e))) λn3=> ?_⟩);have aF: ¬(AA=0∨AA %512≠0∨134217728<AA):=by omega
 have aB:0<AA:=by omega
 obtain⟨g,P,W,hI,H⟩:=Sat.Uv.1 H;have aI:(∀r,V.rf≠true::r)-> ∀(s1:Aa) (w5:World),Sat (HP E c {V with rf:=V.rf.tail} {g with s1:=s1} P W++Z) w5->
    Af (Int×Bool×Unit) (λJ6=>
     NC (some (Addr.mk c 0 none)) λp9=>
     ∃aP:Aa,w5.cell? p9=some (.slice aP.base aP.len aP.cap)/\
     CND (decide ((((aP.len:Nat):Int):Int)>0)) (
      NC (some (Addr.mk c 0 none)) λb6=>
      ∃aK:Aa,w5.cell? b6=some (.slice aK.base aK.len aK.cap)/\
      NC aK.base λb7=>
      ((0:Int)<=0/\(0:Int)<(aK.len:Nat))/\
      ∃Y:Int,w5.cell? (b7.add (Int.toNat 0*1))=some (.int .u64 Y)/\
      NC (some (Addr.mk c 0 none)) λb8=>
      ∃y:Aa,w5.cell? b8=some (.slice y.base y.len y.cap)/\
      ((0:Int)<=1/\(1:Int)<=(y.len:Nat))/\
      NC (some (Addr.mk c 0 none)) λb9=>
      stCells b9 0 [.slice (F2 y.base y.cap (Int.toNat 1) 1) (y.len-(Int.toNat 1)) (y.cap-(Int.toNat 1))] w5 λaC=>
      Af (Bool×Unit) (λQm=>
       CND (decide ((Y:Int)>0)) (
        512≠(0:Int)/\
        CND (((Int.tmod Y 512):Int)==0) (
         F.Fy E Y AA (λcD cJ=>
         Qm (cD,()) cJ
         ) aC
        ) (
         Qm (false,()) aC
        )
       ) (
        Qm (false,()) aC
       )
      ) λVB _ bG=>
       CND (VB.1) (
        F.BG E (some (Addr.mk c 0 none)) Y AA (λc7 cE cK=>
        J6 (Y,cE,()) cK
        ) bG
       ) (
        J6 (Y,VB.1,()) bG
       )
     ) (
      J6 (0,false,()) w5
     )
    ) λs7 _ w8=>
     Af (Int×Bool×Unit) (λa4=>
      CND (!s7.2.1) (
       F.Bz E (some (Addr.mk c 0 none)) hint AA (λcF cG cL=>
       a4 (cF,cG,()) cL
       ) w8
      ) (
       a4 (s7.1,s7.2.1,()) w8
      )
     ) λNK _ aW=>
      Af (Int×Bool×Unit) (λa5=>
       CND (!NK.2.1) (
        F.Bz E (some (Addr.mk c 0 none)) 0 AA (λcH cI cM=>
        a5 (cH,cI,()) cM
        ) aW
       ) (
        a5 (NK.1,NK.2.1,()) aW
       )
      ) λNl _ aX=>
       CND (!Nl.2.1) (
        K 0 13 aX
       ) (
        F.DH E (some (Addr.mk c 0 none)) Nl.1 (λd c8 bH=>
        AL (.cells ⟨[]⟩ E.Ap) bH λa6 aY=>
        NC (some (Addr.mk c 0 none)) λcA=>
        ∃aA:Aa,aY.cell? (cA.add 3)=some (.slice aA.base aA.len aA.cap)/\
        ((0:Int)<=d/\(d:Int)<=(aA.cap:Nat))/\
        APP E.Ap 3 24 #[.int .u64 0,.int .i64 0,.int .u64 0] ⟨(some (Addr.mk a6 0 none)),0,0⟩ ⟨(F2 aA.base aA.cap 0 3),(Int.toNat d),aA.cap⟩ aY λSz bI=>
        At (Aa×Int×Unit) (Sz,0,()) bI λaH _ aN aM=>
         CND (decide ((aH.2.1:Int)<AA)) (
          AL (.cells ⟨[.int .u64 (u64 (Nl.1+aH.2.1)),.int .i64 1,.int .u64 0]⟩ E.Ap) aN λa7 bJ=>
          APP E.Ap 3 24 #[.int .u64 0,.int .i64 0,.int .u64 0] aH.1 ⟨(some (Addr.mk a7 0 none)),1,1⟩ bJ λzH bK=>
          aM (zH,u64 (aH.2.1+1),()) bK
         ) (
          NC (some (Addr.mk c 0 none)) λcB=>
          ∃J:Aa,aN.cell? (cB.add 3)=some (.slice J.base J.len J.cap)/\
          ((0:Int)<=d/\(d:Int)<=(J.len:Nat))/\
          APP E.Ap 3 24 #[.int .u64 0,.int .i64 0,.int .u64 0] aH.1 ⟨(F2 J.base J.cap (Int.toNat d) 3),(J.len-(Int.toNat d)),(J.cap-(Int.toNat d))⟩ aN λQ3 bL=>
          NC (some (Addr.mk c 0 none)) λcC=>
          stCells (cC.add 3) 0 [.slice Q3.base Q3.len Q3.cap] bL λcN=>
          K Nl.1 0 cN
         )
        ) aX
       ):=by
  intro bE s1 w5 H5;simp only[AG];have aE:JZ {V with rf:=V.rf.tail,pl:=V.pl.tail} P W:=hI.congr rfl rfl rfl (λx hx=>List.mem_of_mem_tail hx) λ_ _ _ _=>rfl;refine AX (λst w'=> ∃s0,Sat (HP E c {V with rf:=V.rf.tail,pl:=V.pl.tail} {g with s0:=s0,s1:=s1} P W++Z) w'/\(st.2.1=true->IK V hint AA st.1)/\(st.2.1=false->PB V AA)) ?_ ?_
  .have hl:=(H5.front 1 rfl).MW;have hc:w5.cell? (Addr.mk c 0 none)=some (.slice g.s0.base g.s0.len g.s0.cap):=H5.Ah rfl;refine⟨g.s0,hc,AB (λb0=> ?_) λbU=> ?_⟩
   .have bT:V.pl=[]∨ ∃x r,V.pl=x::r:=by
     cases V.pl with
     | nil=>grind
     | cons x r=>grind
    rcases bT with hp|⟨x,r,hp⟩
    .have:=hl.1;dsimp only at this;rw[hp]at this;simp[ints]at this;omega
    .
     have b4:=hI.fZ x (by rw[hp];simp);obtain⟨a,ha,hd⟩:=(H5.front 1 rfl).Nf (j:=0) (v:=.int .u64 x) (by dsimp only;rw[hp];rfl);refine⟨g.s0,hc,?_⟩;rw[ha];refine⟨⟨by decide,by omega⟩,x,hd,g.s0,hc,⟨by decide,by omega⟩,?_⟩;have H6:=Sat.back 1 ((H5.front 1 rfl).Ng (n:=1) (show 1<=g.s0.len by omega)) (by simp[HP]);dsimp only at H6;rw[hp]at H6;refine CO H6 (o:=0) rfl (by simp[RT]) λaC bM=> ?_;have aZ:Sat (HP E c {V with rf:=V.rf.tail,pl:=V.pl.tail} {g with s0:=⟨F2 g.s0.base g.s0.cap (Int.toNat 1) 1,g.s0.len-Int.toNat 1,g.s0.cap-Int.toNat 1⟩,s1:=s1} P W++Z) aC:=by
      unfold HP;dsimp only;rw[hp];exact bM
     have no: ∀{b:Bool},b=false-> ¬Rn V.laid x AA->(∃s0,Sat (HP E c {V with rf:=V.rf.tail,pl:=V.pl.tail} {g with s0:=s0,s1:=s1} P W++Z) aC/\(b=true->IK V hint AA x)/\(b=false->PB V AA)):=λhb T=>
      ⟨_,aZ,λh=>(by rw[hb]at h;cases h),λ_ p r' aV=>by grind⟩
     rw[Int.tmod_eq_emod_of_nonneg b4.1];refine AV (AB (λg0=>⟨by decide,BF (λg1=>SF (by omega) p0 λbr a9 j=> ?_) λg1 j=>AO rfl (no rfl λh=>g1 h.1)⟩) λg0 j=>AO rfl (no rfl λh=>by have:=h.2.1;omega));cases br
     .exact AO rfl (no rfl λh=>by have:=a9.2 ⟨by omega,h.2.2.1⟩;cases this)
     .have hr:=a9.1 rfl;unfold JI at hr;refine AU rfl (SG aE aZ (by omega) p0 (by omega) (λaU w' O=>⟨_,O,λ_=>.inl ⟨x,r,hp,⟨g1,by omega,hr.2,(DW hI.ok.Le (by omega)).2 aU⟩,rfl⟩,λh=>by cases h⟩) λm m0 m1 m2 _ w' O=>⟨_,O,λh=>(by cases h),λ_ p r' aV=> ?_⟩);rw[hp]at aV;cases aV;exact λh=>(DW hI.ok.Le (by omega)).1 h.2.2.2 m m1 m2 m0
   .have aR:V.pl=[]:=by
     have:=hl.1;dsimp only at this;have:(ints IntKind.u64 V.pl).length=0:=by omega
     rw[ints,List.length_map]at this
     grind
    refine⟨g.s0,?_,λh=>(by cases h),λ_ p r h=>by grind⟩;unfold HP;dsimp only;rw[aR];unfold HP at H5;dsimp only at H5;rw[aR]at H5;exact H5
  rintro⟨pl,ok,v⟩ _ w8 ⟨s0,H8,hy,T⟩;dsimp only at hy T⊢;refine AX (λst w'=>Sat (HP E c {V with rf:=V.rf.tail,pl:=V.pl.tail} {g with s0:=s0,s1:=s1} P W++Z) w'/\(st.2.1=true->IK V hint AA st.1)/\(st.2.1=false->PB V AA/\Kl V.laid hint AA)) ?_ ?_
  .cases ok
   .exact AU rfl (SH aE H8 h0 h1 aB (by omega) (λhh w' O=>⟨O,λh=>(by cases h),λ_=>⟨T rfl,hh⟩⟩) λa ha w' O=>⟨O,λ_=>.inr ⟨T rfl,.inl ha⟩,λh=>by cases h⟩)
   .exact AO rfl ⟨H8,hy,λh=>by cases h⟩
  clear hy T;rintro⟨pl,ok,v⟩ _ aW ⟨a0,hy,T⟩;dsimp only at hy T⊢;refine AX (λst w'=>Sat (HP E c {V with rf:=V.rf.tail,pl:=V.pl.tail} {g with s0:=s0,s1:=s1} P W++Z) w'/\(st.2.1=true->IK V hint AA st.1)/\(st.2.1=false->MA V hint AA)) ?_ ?_
  .cases ok
   .exact AU rfl (SH aE a0 (by decide) (by decide) aB (by omega) (λhh w' O=>⟨O,λh=>(by cases h),λ_=>⟨(T rfl).1,(T rfl).2,hh⟩⟩) λa ha w' O=>⟨O,λ_=>.inr ⟨(T rfl).1,.inr ⟨(T rfl).2,ha⟩⟩,λh=>by cases h⟩)
   .exact AO rfl ⟨a0,hy,λh=>by cases h⟩
  clear hy T;rintro⟨pl,ok,v⟩ _ aX ⟨a1,hy,T⟩;dsimp only at hy T⊢;cases ok
  .exact AU rfl (bX aF bE (T rfl) _ (Sat.Uv.2 ⟨_,_,_,aE,a1⟩))
  have aS:=hy rfl;have aG:=aS.fits hI.ok.Le aB;have b1:0<=pl:=by
   rcases aS with ⟨p,r,hp,_,he⟩|⟨_,⟨_,h3,_⟩|⟨_,_,h3,_⟩⟩
   .rw[he];exact(hI.fZ p (by rw[hp];simp)).1
   .have:=h3.low;omega
   .have:=h3.low;omega
  have cZ:=aG.1;have c0:=aG.2.1;have bA:=aG.2.2.1;have aU:=(DW hI.ok.Le (show pl<=pl+AA by omega)).1 aG.2.2.2;clear hy T aG;refine AO rfl (Mr aE a1 λb3 cY bH bN=> ?_);have bD:=Mf (key:=kP) P pl;have c1:=hI.yZ;refine HI (n:=0) (z:=3) bN rfl (by decide) λa6 aY aL=> ?_;have hl:=Uw aL.tail;refine⟨g.s3,(aL.front 1 rfl).cell rfl,⟨by omega,by grind⟩,?_⟩;refine Ep (x:=⟨F2 g.s3.base g.s3.cap 0 3,pos kP P pl,g.s3.cap⟩) (news:=Al lS (P.take (pos kP P pl))) aL rfl ((aL.front 5 rfl).OL (by decide) I9 bD) (by rw[DQ I9,List.length_take];grind) (GA TF _) (by grind) (by grind) λSz bI a2 cS=> ?_;rw[List.nil_append]at a2;refine AH (λst w'=> ∃i:Nat,st.2.1=(i:Int)/\(i:Int)<=AA/\st.1.len=pos kP P pl+i/\
    Sat (Row E.Ap 3 st.1 (Al lS (P.take (pos kP P pl)++((List.range i).map λi:Nat=>(pl+(i:Int),(1:Int),(0:Int)))))::(HP E c {V with rf:=V.rf.tail,pl:=V.pl.tail} {g with s0:=s0,s1:=s1} P W++Z)) w') (λst _=>(AA-st.2.1).toNat)
   ⟨0,rfl,by show(0:Int)<=AA;omega,by grind,by simpa using a2⟩ ?_
  rintro⟨aH,i',v⟩ _ aN ⟨i,hi,cR,bC,aD⟩;dsimp only at hi bC aD⊢;subst hi;refine AB (λb0=> ?_) λbU=> ?_
  .rw[AK (n:=pl+(i:Int)),AK (n:=(i:Int)+1)];refine AR aD λa7 bJ bO _=> ?_;refine EX (news:=lS (pl+(i:Int),1,0)) bO rfl rfl (TF _) (by omega) (by omega) λzH bK cV cT=>⟨⟨i+1,by omega,by omega,by omega,?_⟩,by omega⟩;have e1:Al lS (P.take (pos kP P pl)++((List.range i).map λi:Nat=>(pl+(i:Int),(1:Int),(0:Int))))++lS (pl+(i:Int),1,0)=Al lS (P.take (pos kP P pl)++((List.range (i+1)).map λi:Nat=>(pl+(i:Int),(1:Int),(0:Int)))):=by
    rw[List.range_succ,List.map_append,<-List.append_assoc,FN (_++_)];simp[Al]
   grind
  .have bB:(i:Int)=AA:=by omega
   refine⟨g.s3,(aD.front 1 rfl).cell rfl,⟨by omega,by grind⟩,?_⟩;refine Ep (x:=⟨F2 g.s3.base g.s3.cap (pos kP P pl) 3,g.s3.len-pos kP P pl,g.s3.cap-pos kP P pl⟩) (news:=Al lS (P.drop (pos kP P pl))) aD rfl ((aD.front 5 rfl).OM (by decide) I9 bD) (by rw[DQ I9,List.length_drop];grind) (GA TF _) (by grind) (by grind) λQ3 bL a3 _=> ?_;rw[<-FN]at a3;refine mput3 a3 λw' O=>bY aF bE pl (by omega) bA aS w' λA2=> ?_;refine Sat.Uv.2 ⟨_,_,_,hI.XU (n:=i) A2 rfl rfl rfl (λx hx=>List.mem_of_mem_tail hx) (λp=> ?_) (λp q1 q2=>aU p q1 (by rw[<-bB];exact q2)),O⟩;rw[bB];exact EW hI.ok.Le (Int.lt_add_of_pos_right _ aB) b1 (Int.lt_of_le_of_lt bA (by decide)) p
 refine Ox H (λe=>AO rfl (aI (λr h=>by grind) g.s1 w ?_)) λx r e s w' O=> ?_
 .have:V.rf.tail=V.rf:=by rw[e];rfl
  rw[this];exact H
 .cases x
  .refine AO rfl (aI (λr h=>by grind) s w' ?_);rw[e];exact O
  .exact AU rfl (bW aF r e w' (Sat.Uv.2 ⟨_,P,W,hI.congr rfl rfl rfl (λx hx=>hx) λ_ _ _ _=>rfl,O⟩))
end
def Ms{α β:Type}{f g:α->List β}: ∀{l:List α},(∀x∈l,f x=g x)->l.flatMap f=l.flatMap g
 | [],_=>rfl
 | a::l,h=>by rw[List.flatMap_cons,List.flatMap_cons,h a (.head _),Ms λx d=>h x (.tail _ d)]
abbrev QV:=Int×(Int->Bool)×(Int->Bool)
def qc(v:Nat->QV)(i:Nat):List Value:=IQ (v i).1 (v i).2.1 (v i).2.2
def Zy(m t:Nat):List Value:=[.pointer (some ⟨m,0,none⟩),.pointer (some ⟨t,0,none⟩)]
def Zz(f:Nat)(sl:Aa)(hint:Int):List Value:=[.pointer (some ⟨f,0,none⟩),Fo sl,.int .u64 hint]
def DV(m t f:Nat)(sl:Aa)(hint:Int)(v:Nat->QV):List Value:=Zy m t++((List.range 64).flatMap (qc v)++Zz f sl hint)
def lT(m t:Nat)(v:Nat->QV)(p:Nat):List Value:=Zy m t++((List.range 64).take p).flatMap (qc v)
def uZ(f:Nat)(sl:Aa)(hint:Int)(v:Nat->QV)(p:Nat):List Value:=((List.range 64).drop (p+1)).flatMap (qc v)++Zz f sl hint
def IS(v:Nat->QV): ∀l:List Nat,(l.flatMap (qc v)).length=129*l.length
 | []=>rfl
 | a::l=>by
  rw[List.flatMap_cons,List.length_append,IS v l,List.length_cons];have:(qc v a).length=129:=uS;omega
def hZ(m t:Nat)(v:Nat->QV){p:Nat}(hp:p<64):(lT m t v p).length=2+p*129:=by
 unfold lT;rw[List.length_append,IS,List.length_take,List.length_range];have:(Zy m t).length=2:=rfl;omega
def u5{p:Nat}(hp:p<64):List.range 64=(List.range 64).take p++p::(List.range 64).drop (p+1):=by
 have h:=(List.take_append_drop p (List.range 64)).symm;rw[List.drop_eq_getElem_cons (by rw[List.length_range];exact hp),List.getElem_range]at h;exact h
def XW(m t f:Nat)(sl:Aa)(hint:Int)(v:Nat->QV){p:Nat}(hp:p<64):DV m t f sl hint v=qW (lT m t v p) (uZ f sl hint v p) (v p).1 (v p).2.1 (v p).2.2:=by
 unfold DV qW lT uZ;have h:(List.range 64).flatMap (qc v)=((List.range 64).take p).flatMap (qc v)++(qc v p++((List.range 64).drop (p+1)).flatMap (qc v)):=by
  conv=>lhs;rw[u5 hp]
  grind
 rw[h];simp only[List.append_assoc];rfl
def RV(v:Nat->QV)(p:Nat)(x:QV):Nat->QV:=λj=>if j=p then x else v j
def qG(m t f:Nat)(sl:Aa)(hint:Int)(v:Nat->QV){p:Nat}(hp:p<64)(x:QV):qW (lT m t v p) (uZ f sl hint v p) x.1 x.2.1 x.2.2=DV m t f sl hint (RV v p x):=by
 rw[XW m t f sl hint (RV v p x) hp];have j:lT m t (RV v p x) p=lT m t v p:=by
  unfold lT;congr 1;refine Ms λi d=> ?_;obtain⟨k,hk,e⟩:=List.mem_take_iff_getElem.1 d;rw[List.getElem_range]at e;unfold qc RV
  grind
 have y:uZ f sl hint (RV v p x) p=uZ f sl hint v p:=by
  unfold uZ;congr 1;refine Ms λi d=> ?_;obtain⟨k,hk,e⟩:=List.mem_drop_iff_getElem.1 d;rw[List.getElem_range]at e;unfold qc RV
  grind
 have J:RV v p x p=x:=if_pos rfl
 grind
def qH(m t f:Nat)(sl:Aa)(hint:Int)(v:Nat->QV):(DV m t f sl hint v).length=8261:=by
 unfold DV;rw[List.length_append,List.length_append,IS,List.length_range];rfl
def rh_0(m t f:Nat)(sl:Aa)(hint:Int)(v:Nat->QV):(DV m t f sl hint v)[0]? =some (.pointer (some ⟨m,0,none⟩)):=rfl
def rh_1(m t f:Nat)(sl:Aa)(hint:Int)(v:Nat->QV):(DV m t f sl hint v)[1]? =some (.pointer (some ⟨t,0,none⟩)):=rfl
def XX(m t f:Nat)(sl:Aa)(hint:Int)(v:Nat->QV)(i:Nat):(DV m t f sl hint v)[8258+i]? =(Zz f sl hint)[i]? :=by
 unfold DV;rw[List.getElem?_append_right (by show 2<=_;omega),List.getElem?_append_right (by rw[IS,List.length_range];show 8256<=8258+i-2;omega),IS,List.length_range];rw[show 8258+i-(Zy m t).length-129*64=i by show 8258+i-2-8256=i;omega]
def qI(m t f:Nat)(sl:Aa)(hint:Int)(v:Nat->QV)(i:Nat)(x:Value){f':Nat}{sl':Aa}{hint':Int}(h:(Zz f sl hint).set i x=Zz f' sl' hint'):(DV m t f sl hint v).set (8258+i) x=DV m t f' sl' hint' v:=by
 unfold DV;rw[List.set_append_right _ _ (by show 2<=_;omega),List.set_append_right _ _ (by rw[IS,List.length_range];show 8256<=8258+i-2;omega),IS,List.length_range];rw[show 8258+i-(Zy m t).length-129*64=i by show 8258+i-2-8256=i;omega,h]
structure RG where
 m:Nat
 t:Nat
 f:Nat
 sl:Aa
 v:Nat->QV
 L:List (Int×Nat)
abbrev iA:=Int->(Nat->Bool)×(Nat->Bool)
def JW(x:Int×Nat):List Value:=[.int .i64 x.1,.pointer (some ⟨x.2,0,none⟩)]
def Bs(x:Int×Nat):(JW x).length=2:=rfl
def rsR(E:Env)(sp:Int->Option (Nat×SI))(um:iA)(x:Int×Nat):Pr:=match sp x.1 with
 | some y=>Ax E x.2 y.2 (um x.1).1 (um x.1).2
 | none=>qY
def Ee(E:Env)(h:Nat)(S:HS)(um:iA)(g:RG):List Pr:=
 [Cells h E.Ac (DV g.m g.t g.f g.sl S.hint g.v),Gc E g.m S.V,MM E g.t S.T,KA E g.f S.fx,Row E.Ab 2 g.sl (Al JW g.L),Ad (rsR E S.sp um) g.L]
structure aM(S:HS)(g:RG):Prop where
 q: ∀i,i<64->pV (S.ca i) (g.v i).1 (g.v i).2.1 (g.v i).2.2
 mem: ∀id,id∈g.L.map (·.1)↔S.sp id≠none
 so:(g.L.map λx=>S.at x.1).Pairwise (· < ·)
def Kf(E:Env)(h:Nat)(S:HS)(um:iA):Pr:=Ex λg:RG=>Jx (aM S g) (NB (Ee E h S um g))
section
variable{E:Env}{h:Nat}{S:HS}{um:iA}{g:RG}{Z:List Pr}{w:World}
def Sat.IC:Sat (Kf E h S um::Z) w↔ ∃g,aM S g/\Sat (Ee E h S um g++Z) w:=by
 unfold Kf;rw[Sat.ex];constructor
 .rintro⟨g,d⟩;rw[Sat.where,Sat.star]at d
  grind
 .rintro⟨g,h1,h2⟩;refine⟨g,?_⟩;rw[Sat.where,Sat.star]
  grind
def Sat.qJ{R:List Pr}(H:Sat (Cells h E.Ac (DV g.m g.t g.f g.sl S.hint g.v)::R) w)(hI:aM S g){p:Nat}(hp:p<64):
  Sat (gX h E.Ac (lT g.m g.t g.v p) (uZ g.f g.sl S.hint g.v p) (S.ca p)::R) w/\
  ∀{C:CS} {R':List Pr} {w'},Sat (gX h E.Ac (lT g.m g.t g.v p) (uZ g.f g.sl S.hint g.v p) C::R') w'->
   ∃x:QV,pV C x.1 x.2.1 x.2.2/\Sat (Cells h E.Ac (DV g.m g.t g.f g.sl S.hint (RV g.v p x))::R') w':=by
 refine⟨Sat.yY.2 ⟨_,_,_,hI.q p hp,?_⟩,λ{C R' w'} d=> ?_⟩
 .rw[<-XW g.m g.t g.f g.sl S.hint g.v hp];exact H
 .obtain⟨B,u,k,j,d⟩:=Sat.yY.1 d;refine⟨(B,u,k),j,?_⟩;have:=qG g.m g.t g.f g.sl S.hint g.v hp (B,u,k)
  grind
end
def Uy(S:HS)(l:List Int):Int:=cP λp=>decide (0<S.own p/\S.own p∈l)
def BN.eD{S:HS}{fl:Int->Bool}(hI:BN S fl){id:Int}{x:Nat×SI}(d:S.sp id=some x)(p:Int):S.own p=id↔x.2.base/8192<=p/\p<x.2.base/8192+x.2.AA:=by
 have h0:=hI.sp id x d;refine⟨λe=> ?_,λh=>h0.2.2.2.2 p h.1 h.2⟩;obtain⟨_,_,_,y,j,h1,h2⟩:=hI.ow p (by omega)
 grind
def lC{S:HS}{fl:Int->Bool}(hI:BN S fl)(hk:Jw S){id:Int}{x:Nat×SI}(d:S.sp id=some x){l:List Int}(j:id∉l):Uy S (l++[id])=Uy S l+x.2.AA/\0<=x.2.base/8192/\x.2.base/8192+x.2.AA<=34359738368:=by
 have h0:=hI.sp id x d;have b0:0<=x.2.base/8192/\x.2.base/8192+x.2.AA<=34359738368:=by
  have v:=h0.2.2.2.2 (x.2.base/8192) (Int.le_refl _) (by omega);have y:=h0.2.2.2.2 (x.2.base/8192+x.2.AA-1) (by omega) (by omega);have g1:=hk.tv.Ja _ (hI.ow _ (by omega:0<S.own (x.2.base/8192))).1;have g2:=hk.tv.Ja _ (hI.ow _ (by omega:0<S.own (x.2.base/8192+x.2.AA-1))).1;omega
 refine⟨?_,b0⟩;unfold Uy;rw[QK (f:=λp=>decide (0<S.own p/\S.own p∈l)) (g:=inr (x.2.base/8192) x.2.AA),UJ b0.1 (by omega) b0.2]
 .intro p;rw[Bool.eq_iff_iff,Bool.or_eq_true,decide_eq_true_iff,decide_eq_true_iff,Ai,<-hI.eD d p,List.mem_append,List.mem_singleton];constructor
  .rintro⟨h1,h2|h2⟩
   .exact .inl ⟨h1,h2⟩
   .exact .inr h2
  .rintro(⟨h1,h2⟩|h2)
   .exact⟨h1,.inl h2⟩
   .exact⟨by omega,.inr h2⟩
 .intro p a b;have a:=of_decide_eq_true a;rw[Ai,<-hI.eD d p]at b;rw[b]at a;exact j a.2
def qK{S:HS}(hI:BN S no){l:List Int}(h: ∀n,n∈l↔S.sp n≠none):Uy S l=S.AA:=by
 rw[hI.pg];refine Yt λp _ _=> ?_;rw[decide_eq_decide];refine⟨λh=>h.1,λh0=>⟨h0,(h _).2 ?_⟩⟩;obtain⟨_,_,_,x,d,_⟩:=hI.ow p h0;rw[d];exact λe=>by cases e
section
variable{E:Env}{h:Nat}{S:HS}{um:iA}{g:RG}{Z:List Pr}{w:World}
def aN{R:List Pr}(H:Sat (Cells h E.Ac (DV g.m g.t g.f g.sl S.hint g.v)::R) w):w.cell? ((Addr.mk h 0 none).add 8259)=some (.slice g.sl.base g.sl.len g.sl.cap):=
 H.cell (o:=0) (m:=8259) (by rw[Nat.zero_add];exact XX g.m g.t g.f g.sl S.hint g.v 1)
def u6{R:List Pr}(H:Sat (Cells h E.Ac (DV g.m g.t g.f g.sl S.hint g.v)::R) w):w.cell? ((Addr.mk h 0 none).add 1)=some (.pointer (some ⟨g.t,0,none⟩)):=
 H.cell (o:=0) (m:=1) (by rw[Nat.zero_add];exact rh_1 g.m g.t g.f g.sl S.hint g.v)
def Mt{R:List Pr}{sl:Aa}{L:List (Int×Nat)}(H:Sat (Row E.Ab 2 sl (Al JW L)::R) w):L.length=sl.len:=(H.Gv (by decide) Bs).1
def SJ(H:Sat (Ee E h S um g++Z) w)(hI:aM S g)(Y:g.L.length<1099511627776){id:Int}{K:Int->World->Prop}(d:S.sp id=none->K (-1) w)(v: ∀(i q:Nat),g.L[i]? =some (id,q)->K i w):
  F.Ev E (some ⟨h,0,none⟩) id K w:=by
 unfold F.Ev;have hl:=Mt (H.front 4 rfl);refine AH (λst w'=>w'=w/\ ∃i:Nat,st.1=(i:Int)/\i<=g.L.length/\ ∀(j q:Nat),j<i->g.L[j]? ≠some (id,q)) (λst _=>((g.L.length:Int)-st.1).toNat) ⟨rfl,0,rfl,Nat.zero_le _,λj q hj=>by omega⟩ ?_;rintro⟨i',u⟩ _ w2 ⟨rfl,i,hi,aD,aE⟩;dsimp only at hi⊢;subst hi;refine AF ⟨g.sl,aN H,AB (λJ=>AF ⟨g.sl,aN H,?_⟩) λaC=> ?_⟩
 .obtain⟨x,O⟩: ∃x,g.L[i]? =some x:=⟨_,List.getElem?_eq_getElem (by omega)⟩;obtain⟨b,T⟩:=(H.front 4 rfl).FW (by decide) Bs (i:=i) (by omega);rw[T];refine AF ⟨⟨by omega,J⟩,x.1,?_,BF (λe=>v i x.2 (by grind)) λe=> ?_⟩
  .have:=(H.front 4 rfl).Bh Bs T O (j:=0) rfl
   grind
  .rw[AE (n:=(i:Int)+1)];refine⟨⟨rfl,i+1,by omega,by omega,λj q hj hq=> ?_⟩,by omega⟩
   grind
 .refine d ?_;cases hs:S.sp id with
  | none=>rfl
  | some y=>
   have:=(hI.mem id).2 (by grind);obtain⟨x,O,e⟩:=List.mem_map.1 this;obtain⟨j,hj⟩:=List.mem_iff_getElem?.1 O
   grind
def SK(H:Sat (Ee E h S um g++Z) w)(hI:aM S g)(d:g.L.length<1099511627776){id:Int}{K:Option Addr->World->Prop}(y:S.sp id=none->K none w)(J: ∀(i q:Nat),g.L[i]? =some (id,q)->K (some ⟨q,0,none⟩) w):
  F.An E (some ⟨h,0,none⟩) id K w:=by
 unfold F.An T0.An;have Y:=Mt (H.front 4 rfl);refine SJ H hI d (λhs=>AU rfl (y hs)) λi q v=> ?_;have T:=(List.getElem?_eq_some_iff.1 v).1;obtain⟨b,O⟩:=(H.front 4 rfl).FW (by decide) Bs (i:=i) (by omega);refine AO (decide_eq_false (by omega)) (AF ⟨g.sl,aN H,?_⟩)
 try dsimp only
 rw[O];refine AF ⟨⟨by omega,by omega⟩,some ⟨q,0,none⟩,?_,J i q v⟩;have:=(H.front 4 rfl).Bh Bs O v (j:=1) rfl;rw[add_add];exact this
def qL{R:List Pr}(H:Sat (Ad (rsR E S.sp um) g.L::R) w)(hI:aM S g){i:Nat}{x:Int×Nat}(d:g.L[i]? =some x): ∃y R',S.sp x.1=some y/\Sat (Ax E x.2 y.2 (um x.1).1 (um x.1).2::R') w:=by
 have hm:x.1∈g.L.map (·.1):=List.mem_map.2 ⟨x,List.mem_of_getElem? d,rfl⟩;obtain⟨y,j⟩:=Option.ne_none_iff_exists'.1 ((hI.mem x.1).1 hm);have h1:=H.GG d;have e:rsR E S.sp um x=Ax E x.2 y.2 (um x.1).1 (um x.1).2:=by unfold rsR;rw[j]
 grind
def lD(H:Sat (Kf E h S um::Z) w)(d:BN S no)(hk:Jw S){a:Int}(a0:0<=a)(a1:a<18446744073709551616){K:Int->World->Prop}(hK: ∀w',Sat (Kf E h S um::Z) w'->K (S.own (a/8192)) w'):F.Gm E (some ⟨h,0,none⟩) a K w:=by
 obtain⟨g,hI,H⟩:=Sat.IC.1 H;unfold F.Gm;have hl:=Mt (H.front 4 rfl);have aI:=(H.front 4 rfl).Gv (by decide) Bs;have aE:u64 (Int.tdiv a 8192)=a/8192:=by rw[Int.tdiv_eq_ediv_of_nonneg a0,AK]
 rw[aE];generalize hP:a/8192=P at *
 have aO:0<=P:=by omega
 have aP:P<18446744073709551616:=by omega
 refine AH (λst w'=>Sat (Ee E h S um g++Z) w'/\ ∃i:Nat,st.1=(i:Int)/\i<=g.L.length/\ ∀(j:Nat) (x:Int×Nat),j<i->g.L[j]? =some x->S.own P≠x.1) (λst _=>((g.L.length:Int)-st.1).toNat) ⟨H,0,rfl,Nat.zero_le _,λj q hj=>by omega⟩ ?_;rintro⟨i',u⟩ _ w2 ⟨J,i,hi,aR,aS⟩;dsimp only at hi⊢;subst hi;refine AF ⟨g.sl,aN J,AB (λO=>AF ⟨g.sl,aN J,?_⟩) λaD=> ?_⟩
 .obtain⟨x,hx⟩: ∃x,g.L[i]? =some x:=⟨_,List.getElem?_eq_getElem (by omega)⟩;obtain⟨b,hb⟩:=(J.front 4 rfl).FW (by decide) Bs (i:=i) (by omega);rw[hb];have Hd:=J.drew;obtain⟨y,R',hy,h1⟩:=qL (Hd.front 5 rfl) hI hx;obtain⟨ul,ml,s1,s2,lk,aQ,h2⟩:=Sat.Gx.1 h1;have Y:=d.sp x.1 y hy;have T:=d.eD hy P;have e1:=Y.2.2.2.2 (y.2.base/8192) (Int.le_refl _) (by omega);have e2:=Y.2.2.2.2 (y.2.base/8192+y.2.AA-1) (by omega) (by omega);have g1:=hk.tv.Ja _ (d.ow _ (by omega:0<S.own (y.2.base/8192))).1;have g2:=hk.tv.Ja _ (d.ow _ (by omega:0<S.own (y.2.base/8192+y.2.AA-1))).1;refine AF ⟨⟨by omega,O⟩,some ⟨x.2,0,none⟩,?_,?_⟩
  .have:=(J.front 4 rfl).Bh Bs hb hx (j:=1) rfl;rw[add_add];exact this
  refine AX (λst w'=>(st.1=true↔S.own P=x.1)/\Sat (Ee E h S um g++Z) w') ⟨by decide,AF ⟨_,h2.Ah rfl,AB (λaD=>⟨by decide,AF ⟨_,h2.Ah rfl,AF ⟨_,h2.cell rfl,?_,Hd⟩⟩⟩) λaL=>⟨?_,Hd⟩⟩⟩ ?_
  .show decide _=true↔_;rw[AK (n:=P-y.2.base/8192),decide_eq_true_iff,T];omega
  .grind
  rintro⟨t,u⟩ _ aG ⟨ht,v⟩;dsimp only at ht⊢;refine AQ (λe=>AF ⟨g.sl,aN v,?_⟩) λe=> ?_
  .try dsimp only
   rw[hb];refine AF ⟨⟨by omega,O⟩,x.1,?_,?_⟩
   .have:=(v.front 4 rfl).Bh Bs hb hx (j:=0) rfl
    grind
   .rw[<-ht.1 e];exact hK aG (Sat.IC.2 ⟨g,hI,v⟩)
  .rw[AE (n:=(i:Int)+1)];refine⟨⟨v,i+1,by omega,by omega,λj z hj hz=> ?_⟩,by omega⟩
   grind
 .have h0:S.own P=0:=by
   have aT:=d.o0 P;by_cases hp:0<S.own P
   .obtain⟨_,_,_,y,hy,_⟩:=d.ow P hp;obtain⟨x,hx,e⟩:=List.mem_map.1 ((hI.mem (S.own P)).2 (by grind));obtain⟨j,hj⟩:=List.mem_iff_getElem?.1 hx
    grind
   .omega
  have:=hK w2 (Sat.IC.2 ⟨g,hI,J⟩)
  grind
end
def iB{a b m:Iv}(j:Ok a)(v:Ok b)(hm:Ok m)(h1: ∀p,mem a p->mem m p)(h2: ∀p,mem b p->mem m p)(hd: ∀p,mem a p-> ¬mem b p)(d: ∀p,mem m p->p<34359738368):Gn a+Gn b<=Gn m:=by
 rw[<-UI j (f:=M5 a) (λp=>Bl.symm) λp hp=>d p (h1 p (Bl.1 hp)),<-UI v (f:=M5 b) (λp=>Bl.symm) λp hp=>d p (h2 p (Bl.1 hp)),<-UI hm (f:=M5 m) (λp=>Bl.symm) λp hp=>d p (Bl.1 hp),
  <-QK (h:=λp=>M5 a p||M5 b p) (λp=>rfl) λp x y=>hd p (Bl.1 x) (Bl.1 y)]
 refine Wy λp hp=>Bl.2 ?_;rcases Bool.or_eq_true_iff.1 hp with h|h
 .exact h1 p (Bl.1 h)
 .exact h2 p (Bl.1 h)
def VH.XU{V V':VS}(h:VH V){a n:Int}(T:0<n)(h0:512<=a)(O:a+n<=34359738368)(d:V'.laid=Dt V.laid a (a+n))(j:V'.ready=V.ready)(v:V'.rel=V.rel)(J:V'.wd=V.wd):VH V':=by
 have hm:=EW h.Le (a:=a) (b:=a+n) (by omega) (by omega) (by omega);have K:=(FQ h.Le (a:=a) (b:=a+n) (by omega) (by omega) (by omega)).1;have y: ∀p,mem V'.laid p->512<=p/\p<34359738368:=λp hp=>by
  rw[d,hm]at hp;rcases hp with hp|hp
  .exact h.Ja p hp
  .omega
 refine⟨by grind,by rw[j];exact h.Ol,by rw[v];exact h.Vr,λp hp=> ?_,λp hp=> ?_,λp hp=> ?_,y,λp i a b hp=> ?_,?_⟩
 .rw[d,hm];rw[j]at hp;exact .inl (h.rl p hp)
 .rw[d,hm];rw[v]at hp;exact .inl (h.el p hp)
 .rw[j]at hp;rw[v];exact h.re p hp
 .rw[j]at hp;rw[J];exact h.clean p i a b hp
 .rw[j,v,d];exact iB h.Ol h.Vr K (λp hp=>(hm p).2 (.inl (h.rl p hp))) (λp hp=>(hm p).2 (.inl (h.el p hp))) h.re λp hp=>(y p (by rw[d];exact hp)).2
def VH.PG{V:VS}(h:VH V){a n:Int}(h0:0<=a)(T:0<n)(O:a+n<=34359738368)(d: ∀p,a<=p->p<a+n->mem V.laid p):VH (IY V a n):=by
 have hm:=EW h.Ol (a:=a) (b:=a+n) (by omega) (by omega) (by omega);have v:=(FQ h.Ol (a:=a) (b:=a+n) (by omega) (by omega) (by omega)).1;have j:=λp=>Et (l:=V.rel) (a:=a) (b:=a+n) (n:=p) (by omega);have r1: ∀p,mem (IY V a n).ready p->mem V.laid p:=λp hp=>by
  rcases(hm p).1 hp with g|g
  .exact h.rl p g
  .exact d p g.1 g.2
 have r2: ∀p,mem (IY V a n).rel p->mem V.laid p:=λp hp=>h.el p ((j p).1 hp).1;have J: ∀p,mem (IY V a n).ready p-> ¬mem (IY V a n).rel p:=λp hp K=>by
  have g2:=(j p).1 K;rcases(hm p).1 hp with g|g
  .exact h.re p g g2.1
  omega
 have y:Ok (IY V a n).rel:=Gl h.Vr (by omega);refine⟨h.Le,v,y,r1,r2,J,h.Ja,λp i a1 b1 hp=> ?_,iB v y h.Le r1 r2 J λp hp=>(h.Ja p hp).2⟩;show(if a<=p/\p<a+n/\M5 V.rel p=true then Hn V a p else V.wd p i)=0;have g:=λx=>hp ((hm p).2 x);rw[if_neg λx=>g (.inr ⟨x.1,x.2.1⟩)];exact h.clean p i a1 b1 λx=>g (.inl x)
def T6.take{V:TV}(h:T6 V){x n:Int}(v:0<n):T6 (V.take x n):=by
 obtain⟨d,f1,f2⟩:=h.cf;obtain⟨j,r1,r2⟩:=h.cr;refine⟨λp hp=>h.fi p (ON.1 hp).1,λp hp=>ON.2 ⟨h.rf p (QO.1 hp).1,(QO.1 hp).2⟩,h.Ja,h.ci,⟨Dz d x (x+n),Gl f1 (by omega),λp=> ?_⟩,⟨Dz j x (x+n),Gl r1 (by omega),λp=> ?_⟩⟩
 .rw[Et (by omega),f2,ON]
 .rw[Et (by omega),r2,QO]
def PS{f:Int->Bool}{x n p:Int}:(f p||inr x n p)=true↔f p=true∨(x<=p/\p<x+n):=by
 rw[Bool.or_eq_true_iff,Ai]
def T6.grow{V:TV}(h:T6 V){c n:Int}(j:0<=c)(v:0<n)(d:c+n<=67108864):T6 (V.grow c n):=by
 obtain⟨li,i1,i2⟩:=h.ci;obtain⟨y,f1,f2⟩:=h.cf;obtain⟨J,r1,r2⟩:=h.cr;have key: ∀{l:Iv} {f:Int->Bool},Ok l->(∀p,mem l p↔f p=true)-> ∃l',Ok l'/\ ∀p,mem l' p↔(f p||inr (c*512) (n*512) p)=true:=λ{l f} o g=>
  ⟨Dt l (c*512) (c*512+n*512),(FQ o (by omega) (by omega) (by omega)).1,λp=>by rw[EW o (by omega) (by omega) (by omega),g,PS]⟩
 refine⟨λp hp=> ?_,λp hp=> ?_,λp hp=> ?_,key i1 i2,key f1 f2,key r1 r2⟩
 .exact PS.2 ((PS.1 hp).imp_left (h.fi p))
 .exact PS.2 ((PS.1 hp).imp_left (h.rf p))
 .rcases PS.1 hp with g|g
  .exact h.Ja p g
  .omega
section
variable{S:HS}
def eE(hk:T6 S.T){q:Int}(h:Gt S.T 1 q):P9 (filled S.T q):=by
 have h1:=h.1;have h2:=h.2.1;refine⟨by show 0<=q/64*64;omega,by show q/64*64<_;omega,by show q/64*64 %64=0;omega,λi d=> ?_,λi d=> ?_⟩
 .show(decide (i<64)&&_)=false
  grind
 .have d:(decide (i<64)&&S.T.rl (q/64*64+i))=true:=d;show(decide (i<64)&&S.T.fr (q/64*64+i))=true;rw[Bool.and_eq_true_iff]at d⊢;exact⟨d.1,hk.rf _ d.2⟩
def Jw.fill(h:Jw S){i:Nat}{q:Int}(v:Gt S.T 1 q):Jw (S.fill i q):=by
 refine⟨h.tv.take (by decide),h.vv,λj d=> ?_,h.ok,h.fx⟩;show P9 (if j=i then filled S.T q else S.ca j);by_cases e:j=i
 .rw[if_pos e];exact eE h.tv v
 .rw[if_neg e];exact h.ci j d
def Jr.ok{S1:HS}{i:Nat}(h:Jr S i S1)(hk:Jw S):Jw S1:=by
 rcases h with ⟨_,q,d,rfl⟩|⟨_,rfl⟩
 .exact hk.fill d
 .exact hk
def Ih.ok{S1:HS}{p n:Int}(h:Ih S p n S1)(hk:Jw S):Jw S1:=by
 rcases h with ⟨_,rfl⟩|⟨i,_,_,_,hf,_⟩
 .exact hk
 .exact hf.ok hk
def eF{C:CS}(h:P9 C)(k n:Nat):P9 (C.alloc k n):=by
 refine⟨h.b0,h.b1,h.b64,λi d=> ?_,λi d=> ?_⟩
 .show(C.has i&&_)=false;rw[h.hz i d];rfl
 .have d:(C.rel i&& !(decide (k<=i)&&decide (i<k+n)))=true:=d;show(C.has i&& !(decide (k<=i)&&decide (i<k+n)))=true;rw[Bool.and_eq_true_iff]at d⊢;exact⟨h.rh i d.1,d.2⟩
def Jw.JJ(h:Jw S){i k n:Nat}(d:i<64):Jw (S.JJ i k n):=by
 refine⟨h.tv,h.vv,λj v=> ?_,h.ok,h.fx⟩;show P9 (if j=i then(S.ca i).alloc k n else S.ca j);by_cases e:j=i
 .rw[if_pos e];exact eF (h.ci i d) k n
 .rw[if_neg e];exact h.ci j v
def Jw.Fp(h:Jw S){page n:Int}(d:0<n):Jw (S.Fp page n):=⟨h.tv.take d,h.vv,h.ci,h.ok,h.fx⟩
def Z0{V:VS}(h:VH V){hint n a:Int}(j:0<n)(d:IK V hint n a):Rn V.laid a n:=by
 rcases d with ⟨p,r,_,hf,rfl⟩|⟨_,d|⟨_,d⟩⟩
 .exact hf
 .exact d.2.1.fits h.Le j d.2.2
 .exact d.2.1.fits h.Le j d.2.2
end
section
variable{V:VS}
def N6{l:Iv}{d n a v:Int}(h:Lq l d n a)(j:Lq l d n v):a=v:=by
 rcases Int.lt_trichotomy a v with g|g|g
 .obtain⟨m,m1,y,J⟩:=j.first a h.mul h.low h.fr g;exact absurd J (h.free m m1 y)
 .exact g
 .obtain⟨m,m1,y,J⟩:=h.first v j.mul j.low j.fr g;exact absurd J (j.free m m1 y)
def Qj{l:Iv}{d n a:Int}(h:Wu l d n a)(j:Kl l d n):False:=by
 rcases j with g|⟨v,g1,g2⟩
 .have:=h.1;omega
 .rw[N6 h.2.1 g1]at h;exact g2 h.2.2
def Z3{hint n a J:Int}(h:IK V hint n a)(K:IK V hint n J):a=J:=by
 rcases h with ⟨p,r,h1,h2,y⟩|⟨h1,h2⟩
 .rcases K with ⟨O,T,j,d,v⟩|⟨j,_⟩
  .rw[h1]at j;cases j;rw[y,v]
  .exact absurd h2 (j p r h1)
 .rcases K with ⟨O,T,j,d,v⟩|⟨_,d⟩
  .exact absurd d (h1 O T j)
  .rcases h2 with h2|⟨h2,y⟩
   .rcases d with d|⟨d,_⟩
    .exact N6 h2.2.1 d.2.1
    .exact(Qj h2 d).elim
   .rcases d with d|⟨_,v⟩
    .exact(Qj d h2).elim
    .exact N6 y.2.1 v.2.1
def eG{hint n a:Int}(h:IK V hint n a)(d:MA V hint n):False:=by
 rcases h with ⟨p,r,h1,h2,_⟩|⟨_,h|⟨_,h⟩⟩
 .exact d.1 p r h1 h2
 .exact Qj h d.2.1
 .exact Qj h d.2.2
end
def Mu{V:TV}{n p d:Int}(h:Gt V n p)(j:Gt V n d):p=d:=Int.le_antisymm (h.2.2.2 d j.2.2.1) (j.2.2.2 p h.2.2.1)
section
variable{S S1 S2:HS}
def Jr.uniq{i:Nat}(h:Jr S i S1)(J:Jr S i S2):S1=S2:=by
 rcases h with ⟨he,q,K,rfl⟩|⟨v,rfl⟩
 .rcases J with ⟨_,y,j,rfl⟩|⟨d,rfl⟩
  .rw[Mu K j]
  .rcases d with d|d
   .exact absurd he d
   .have:=d q;rw[K.2.2.1 q (Int.le_refl _) (by omega)]at this;cases this
 .rcases J with ⟨he,y,j,rfl⟩|⟨d,rfl⟩
  .rcases v with v|v
   .exact absurd he v
   .have:=v y;rw[j.2.2.1 y (Int.le_refl _) (by omega)]at this;cases this
  .rfl
def Ih.uniq{p n:Int}(h:Ih S p n S1)(J:Ih S p n S2):S1=S2:=by
 rcases h with ⟨y,rfl⟩|⟨i,K,hp,y,hf,_⟩
 .rcases J with ⟨_,rfl⟩|⟨i,K,hp,d,hf,_⟩
  .rfl
  .exact absurd ⟨by omega,by omega,d⟩ y
 .rcases J with ⟨d,rfl⟩|⟨j,T,O,d,v,_⟩
  .exact absurd ⟨by omega,by omega,y⟩ d
  .obtain rfl:i=j:=by omega
   exact hf.uniq v
def aI.Mv{p n page:Int}(h:aI S p n page S2)(J:Ih S p n S1): ∃x,Gt S1.T n x/\page=x/\S2=S1.Fp x n:=by
 rcases h with ⟨K,i,k,hi,hp,hn,hf,hr,_,_,rfl,rfl⟩|⟨K,ht,v,rfl⟩
 .rcases J with ⟨y,rfl⟩|⟨j,hj,Y,y,d,O⟩
  .omega
  .obtain rfl:i=j:=by omega
   rw[hf.uniq d]at hr
   grind
 .rw[ht.uniq J]at v⊢
  grind
def aI.uniq{p n a b:Int}(h:aI S p n a S1)(O:aI S p n b S2):a=b/\S1=S2:=by
 rcases h with ⟨K,i,k,Y,hp,hn,hf,hr,hl,_,rfl,rfl⟩|⟨K,y,d,rfl⟩
 .rcases O with ⟨T,j,k',hj,aE,aD,v,aG,aB,_,rfl,rfl⟩|⟨T,y,d,rfl⟩
  .obtain rfl:i=j:=by omega
   obtain rfl:=hf.uniq v
   grind
  .exact(aI.Mv (.inl ⟨K,i,k,Y,hp,hn,hf,hr,hl,‹_›,rfl,rfl⟩) y).elim λx J=>by
    rw[Mu d J.1];grind
 .obtain⟨x,J,rfl,rfl⟩:=O.Mv y;rw[Mu d J];grind
def Yw.uniq{n:Int}(h:Yw S n S1)(d:Yw S n S2):S1=S2:=by
 obtain⟨_,a,j,rfl⟩:=h;obtain⟨_,b,v,rfl⟩:=d;rw[Z3 j v]
def Yw.not{n:Int}(h:Yw S n S1)(d:RD S n S2):False:=by
 obtain⟨v,a,j,rfl⟩:=h;rcases d with ⟨r,h1,_⟩|⟨_,h1,_⟩
 .grind
 .exact eG j h1
def RD.uniq{n:Int}(h:RD S n S1)(v:RD S n S2):S1=S2:=by
 rcases h with ⟨r,h1,rfl⟩|⟨h0,h1,rfl⟩
 .rcases v with ⟨y,j,rfl⟩|⟨d,_,_⟩
  .grind
  .exact absurd h1 (d r)
 .rcases v with ⟨y,j,rfl⟩|⟨d,_,rfl⟩
  .grind
  .rfl
def UP.uniq{p n a b:Int}(h:UP S p n a S1)(v:UP S p n b S2):a=b/\S1=S2:=by
 rcases h with h|⟨S0,aA,Y,O,hg,hf,rfl⟩
 .rcases v with v|⟨T0,K,j,d,J,y,rfl⟩
  .exact h.uniq v
  .obtain⟨x,T,_⟩:=h.Mv j;exact absurd T.2.2.1 (d x)
 .rcases v with v|⟨T0,K,j,d,J,y,rfl⟩
  .obtain⟨x,T,_⟩:=v.Mv Y;exact absurd T.2.2.1 (O x)
  .obtain rfl:=Y.uniq j;obtain rfl:=hg.uniq J;rw[Mu hf y];grind
def Made.uniq{T:HS}{page n:Int}(h:Made S page n S1)(j:Made S page n T):S1=T:=by
 rcases h with ⟨h1,rfl⟩|⟨h1,_,rfl⟩
 .rcases j with ⟨_,rfl⟩|⟨d,_,_⟩
  .rfl
  .exact absurd h1 d
 .rcases j with ⟨d,_⟩|⟨d,_,rfl⟩
  .exact absurd d h1
  .rfl
def Found.uniq{p n a b:Int}(h:Found S p n a S1)(v:Found S p n b S2):a=b/\S1=S2:=by
 obtain⟨T,y,hm⟩:=h;obtain⟨J,j,d⟩:=v;obtain⟨rfl,rfl⟩:=y.uniq j;exact⟨rfl,hm.uniq d⟩
def Found.not{p n a:Int}(h:Found S p n a S1)(Y:Sg S p n S2):False:=by
 obtain⟨T,j,hm⟩:=h;rcases Y with ⟨S0,hs,y,hg⟩|⟨T',page,r,d,aC,hr,_⟩
 .rcases j with j|⟨K,O,d,J,v,aA,rfl⟩
  .obtain⟨x,hx,_⟩:=j.Mv hs;exact y x hx.2.2.1
  .obtain rfl:=d.uniq hs;exact v.not hg
 .obtain⟨rfl,rfl⟩:=j.uniq d;rcases hm with ⟨h1,_⟩|⟨_,h1,_⟩
  .grind
  grind
def Sg.uniq{p n:Int}(h:Sg S p n S1)(h':Sg S p n S2):S1=S2:=by
 rcases h with ⟨S0,hs,O,Y⟩|⟨T,page,r,ht,aH,hr,rfl⟩
 .rcases h' with ⟨aB,y,v,j⟩|⟨T',J,r',d,K,aD,_⟩
  .obtain rfl:=hs.uniq y;exact Y.uniq j
  .exfalso;rcases d with d|⟨T0,aC,d,v,j,_,_⟩
   .obtain⟨x,hx,_⟩:=d.Mv hs;exact O x hx.2.2.1
   .obtain rfl:=d.uniq hs;exact j.not Y
 .rcases h' with ⟨aB,y,v,j⟩|⟨T',J,r',d,K,aD,rfl⟩
  .exfalso;rcases ht with ht|⟨T0,aC,d,O,Y,_,_⟩
   .obtain⟨x,hx,_⟩:=ht.Mv y;exact v x hx.2.2.1
   .obtain rfl:=d.uniq y;exact Y.not j
  .obtain⟨rfl,rfl⟩:=ht.uniq d
   grind
def Next.uniq{a b:Int}{X Y:FX}(h:Next S a X)(j:Next S b Y):a=b/\X=Y:=by
 rcases h with ⟨h1,rfl,rfl⟩|⟨x,r,h1,rfl,rfl⟩
 .rcases j with ⟨_,rfl,rfl⟩|⟨x,r,d,_⟩
  .grind
  grind
 .rcases j with ⟨d,_⟩|⟨y,v,d,rfl,rfl⟩
  .grind
  grind
def qM{n:Int}(d:1<=n)(j:n<=134217728):ID n %512=0/\n<=ID n/\ID n<=134217728/\ID n<n+512:=by unfold ID;omega
def lE(hI:BN S no)(hk:Jw S){n a:Int}(y:1<=n)(J:n<=134217728)(v:IK S.V S.hint (ID n) a)(a0:0<=a):
  BN (S.grown {S.V with rf:=S.V.rf.tail,pl:=S.V.pl.tail,laid:=Dt S.V.laid a (a+ID n)} a (ID n)) no/\Jw (S.grown {S.V with rf:=S.V.rf.tail,pl:=S.V.pl.tail,laid:=Dt S.V.laid a (a+ID n)} a (ID n))/\
   LO (S.grown {S.V with rf:=S.V.rf.tail,pl:=S.V.pl.tail,laid:=Dt S.V.laid a (a+ID n)} a (ID n)).T.fr a n/\a %512=0/\a+ID n<=34359738368/\ ∀p,a<=p->p<a+ID n->S.T.KW p=false:=by
 obtain⟨K,u2,u3,u4⟩:=qM y J;have hf:=Z0 hk.vv (by omega) v;obtain⟨f1,f2,f3,f4⟩:=hf;have d: ∀p,a<=p->p<a+ID n->S.T.KW p=false:=λp h1 h2=>GC λhp=>(DW hk.vv.Le (by omega)).1 f4 p h1 h2 ((hI.la p).2 hp);have j:512<=a:=by omega
 refine⟨hI.grown hk a0 (by omega) f3 f1 K d rfl rfl,⟨hk.tv.grow (by omega) (by omega) (by omega),hk.vv.XU (by omega) j f3 rfl rfl rfl rfl,hk.ci,(FQ hk.ok (a:=a/512) (b:=(a+ID n)/512) (by omega) (by omega) (by omega)).1,hk.fx⟩,λm O Y=> ?_,f1,f3,d⟩;show(S.T.fr m||inr (a/512*512) (ID n/512*512) m)=true;exact PS.2 (.inr (by omega))
def aI.inv{p n page:Int}(h:aI S p n page S1)(hI:BN S no)(hk:Jw S)(n0:1<=n):BN S1 (inr page n)/\Jw S1/\0<=page/\page+n<=34359738368:=by
 rcases h with ⟨O,i,k,v,hp,hn,hf,T,Y,J,rfl,rfl⟩|⟨O,K,d,rfl⟩
 .have h1:=hf.inv hI hk v;have j:=hf.ok hk;have h2:=h1.JJ j v T J;have e:((n.toNat:Nat):Int)=n:=by omega
  rw[e]at h2;have y:=j.ci i v;refine⟨h2,j.JJ v,?_,?_⟩
  .have:=y.b0;omega
  .have:=y.b1;have:=y.b64;omega
 .have h1:=K.inv hI hk;have j:=K.ok hk;exact⟨h1.Fp j d.2.2.1,j.Fp (by omega),d.1,d.2.1⟩
end
section
variable{E:Env}{r:Nat}{V:TV}{Z:List Pr}{w:World}
def XY(H:Sat (MM E r V::Z) w)(j: ∀p,V.rl p=true->V.fr p=true){p n:Int}(hp:0<=p)(hn:0<n)(hb:p+n<=34359738368)(v: ∀q,p<=q->q<p+n->V.KW q=true)(hf: ∀q,p<=q->q<p+n->V.fr q=false){K:Int->World->Prop}
  (hK: ∀w',Sat (MM E r (V.OY p n)::Z) w'->K 0 w'):F.Bf E (some ⟨r,0,none⟩) p n false K w:=by
 obtain⟨l,⟨d,A2⟩,H⟩:=Sat.kV.1 H;have hr:Hh V p n:=⟨by omega,by omega,λm a b=>v m a b⟩;have h0:Ar l p n false 31=0:=(T7 d A2 hp (by omega) false (e:=31) (by decide)).2.2.2.2 hr rfl λm a b=>hf m a b;have hg:=d.M4 A2 hp (n:=n) (by omega) (by omega);refine Uq H (λq hq=>(d.f q).2 (j q ((d.r q).1 hq))) hp (by omega) (by omega) (by omega) (λh=>absurd h0 h) λ_ w' y=>hK w' ?_;have o1:=(FQ (A2 1 (by decide)) (a:=p) (b:=p+n) (by omega) hp (by omega)).1;refine PR (l:=Sh.M4 l 3 p n) hg.1 (λi v=> ?_) λl' J O T=>y l' J O T;have Y:i=0∨i=1∨i=2:=by omega
 rcases Y with rfl|rfl|rfl
 .exact A2 0 (by decide)
 .exact o1
 .exact A2 2 (by decide)
def Qk(H:Sat (MM E r V::Z) w)(y:T6 V){n:Int}(n0:1<=n)(n1:n<18446744073709551616){K:Int->Int->Int->World->Prop}
  (O:(∀p,¬LO V.fr p n)-> ∀w',Sat (MM E r V::Z) w'->K 0 0 30 w')(T: ∀p x,Gt V n p-> ∀w',Sat (MM E r (V.take p n)::Z) w'->K p x 0 w'):F.CA E (some ⟨r,0,none⟩) n K w:=by
 obtain⟨l,⟨v,A2⟩,H⟩:=Sat.kV.1 H;have d: ∀p,findL (l 1) n=some p->Gt V n p:=λp hp=>by
  obtain⟨h1,h2⟩:=LD (A2 1 (by decide)) (by omega) hp;have j:=(IW v).1 h1;have a0:=y.Ja p (y.fi p (j p (Int.le_refl _) (by omega)));have a1:=y.Ja (p+n-1) (y.fi _ (j (p+n-1) (by omega) (by omega)));exact⟨a0.1,by omega,j,λp' Y=>h2 p' ((IW v).2 Y)⟩
 refine Zn H (by omega) n1 (λp _ hp=> ?_) (λh=>by omega) (λ_ hn w' J=>O (λp hp=>Mc (A2 1 (by decide)) (by omega) hn p ((IW v).2 hp)) w' (Sat.kV.2 ⟨l,⟨v,A2⟩,J⟩)) λ_ p hp w' J=>T p _ (d p hp) w' (PR (l:=Sh.Oj l p n) (v.Oj (by omega)) (λi hi=> ?_) λl' e0 e1 e2=>J l' e0 e1 e2)
 .have hf:=d p hp;exact⟨(T7 v A2 hf.1 (by omega) true (e:=32) (by decide)).2.2.1 ⟨by omega,hf.2.1,λm a b=>y.fi m (hf.2.2.1 m a b)⟩ rfl hf.2.2.1,hf.1,hf.2.1⟩
 .have h3:i=0∨i=1∨i=2:=by omega
  rcases h3 with rfl|rfl|rfl
  .exact A2 0 (by decide)
  .exact Gl (A2 1 (by decide)) (by omega)
  .exact Gl (A2 2 (by decide)) (by omega)
def Z4(H:Sat (MM E r V::Z) w){c n:Int}(v:0<=c)(hn:0<n)(aB:n<=262144)(T:c+n<=67108864)(hf: ∀p,c*512<=p->p<(c+n)*512->V.KW p=false){K:Int->World->Prop}
  (O: ∀w',Sat (MM E r (V.grow c n)::Z) w'->K 0 w'):F.CU E (some ⟨r,0,none⟩) c n K w:=by
 obtain⟨l,⟨y,A2⟩,H⟩:=Sat.kV.1 H;have h0:cnt (l 0) (c*512) ((c+n)*512)=0:=(DW (A2 0 (by decide)) (by omega)).2 λp h1 h2 hm=>by
  have:=(y.i p).1 hm;grind
 have Y:=y.Vm A2 v hn T;refine dX H v (by omega) (by omega) (by omega) (λh=>by omega) (λ_ h=>absurd h0 h) λ_ _ w' J=>O w' (PR (l:=Vm l c n) Y (λi j=> ?_) λl' a0 a1 a2=>J l' λi j=> ?_)
 .have o: ∀i,i<4->Ok (Dt (l i) (c*512) ((c+n)*512)):=λi j=>(FQ (A2 i j) (by omega) (by omega) (by omega)).1;have d:i=0∨i=1∨i=2:=by omega
  rcases d with rfl|rfl|rfl
  .exact o 0 (by decide)
  .exact o 1 (by decide)
  .exact o 2 (by decide)
 .have d:i=0∨i=1∨i=2:=by omega
  rcases d with rfl|rfl|rfl
  .rw[a0];rfl
  .rw[a1];rfl
  .rw[a2];rfl
end
end Go.Sh

/- What the law's functions do. No further condition. -/
import Derived.Test.YtbkjmfgdoceogaaGreatDoorR
import Derived.Test.YtbkjmfgdoceogaaGreatDoorA
import Derived.Test.YtbkjmfgdoceogaaGreatDoorC
import Derived.Test.YtbkjmfgdoceogaaGreatDoorL
import Derived.Test.YtbkjmfgdoceogaaGreatDoorH
import Derived.Test.YtbkjmfgdoceogaaGreatDoorY
set_option linter.all false
set_option maxRecDepth 4000
set_option maxHeartbeats 1000000
namespace Go.Sh
def one(c:Int):TV:=TV.nil.grow c 1
section
variable{E:Env}(hE:EnvS E){w:World}{Z:List Pr}
include hE
end
end Go.Sh
set_option linter.all false
set_option maxRecDepth 4000
namespace Go.Sh
section
variable{l:Iv}{fr md to s m e s' m' e':Int}
end
end Go.Sh
set_option linter.all false
set_option maxRecDepth 4000
set_option maxHeartbeats 1000000
namespace Go.Sh
def lZ(vs:List Value)(o:Nat)(u:Int->Bool):Prop:=o+512<=vs.length/\ ∀k:Int,0<=k->k<512->vs[o+k.toNat]? =some (.bool (u k))
section
variable{E:Env}{w:World}{Z:List Pr}{b t o:Nat}{vs:List Value}{u:Int->Bool}
theorem M5{i n:Int}(N: -9223372036854775808<=i)(J:i<9223372036854775808){K:Bool->World->Prop}
  (j:0<=i->0<=n->i+n<=512->K true w)(d: ¬(0<=i/\0<=n/\i+n<=512)->K false w):F.EA E i n K w:=by
 unfold F.EA;refine AE (fun h1=>AE (fun v=>AE (fun C=> ?_) fun C=>d (by omega)) fun v=>d (by omega)) fun h1=>d (by omega);rw[AN];by_cases g:n<=512-i
 ·rw[decide_eq_true g];exact j h1 v (by omega)
 ·rw[decide_eq_false g];exact d (by omega)
theorem Mc(H:Sat (Cells b t vs::Z) w)(hl:o+512<=vs.length){i n:Int}(h0:0<=i)(h1:0<=n)(T:i+n<=512)(x:Bool){K:Int->World->Prop}
  (O: ∀w' d,d.length=vs.length->(∀j,d[j]? =if o+i.toNat<=j/\j<o+(i+n).toNat then some (.bool x)else vs[j]?)->Sat (Cells b t d::Z) w'->K 0 w'):
  F.B4 E (some ⟨b,o,none⟩) i n x K w:=by
 unfold F.B4 T0.B4;refine M5 (by omega) (by omega) (fun _ _ _=>Ab rfl ?_) fun h=>absurd ⟨h0,h1,T⟩ h;simp only[AI,Nat.mul_one];rw[AN (n:=i+n)];refine AM (fun st w'=>i<=st.1/\st.1<=i+n/\ ∃d,d.length=vs.length/\(∀j,d[j]? =if o+i.toNat<=j/\j<o+st.1.toNat then some (.bool x)else vs[j]?)/\Sat (Cells b t d::Z) w') (fun st _=>(i+n-st.1).toNat)
  ⟨Int.le_refl _,by show i<=i+n;omega,vs,rfl,fun j=>by dsimp only;rw[if_neg (by omega)],H⟩ ?_
 rintro⟨k,v⟩ _ w4 ⟨k0,k1,d,C,J,N⟩;simp only at k0 k1 J⊢;refine AE (fun aC=>⟨⟨by omega,by omega⟩,?_⟩) fun Y=> ?_
 ·rw[AN (n:=k+1)];refine Aj N rfl (by omega) fun w7 H7=>⟨⟨by omega,by omega,_,by simpa using C,fun j=> ?_,H7⟩,by omega⟩;rw[List.getElem?_set,J];by_cases e:o+k.toNat=j
  ·rw[if_pos e,if_pos (by omega),if_pos (by omega)]
  ·rw[if_neg e];by_cases g:o+i.toNat<=j/\j<o+k.toNat
   ·rw[if_pos g,if_pos (by omega)]
   ·rw[if_neg g,if_neg (by omega)]
 ·have e:k=i+n:=by omega
  subst e;exact O _ _ C J N
theorem Se(H:Sat (Cells b t vs::Z) w)(hu:lZ vs o u){K:Int->World->Prop}(J:K (cu u 512) w):F.Bz E (some ⟨b,o,none⟩) 0 512 K w:=by
 unfold F.Bz T0.Bz;refine M5 (by omega) (by omega) (fun _ _ _=>Ab rfl ?_) fun h=>absurd ⟨by omega,by omega,by omega⟩ h;simp only[AI,Nat.mul_one];rw[AN (n:=0+512)];refine AM (fun st w'=> ∃k:Nat,st.2.1=(k:Int)/\k<=512/\st.1=cu u k/\w'=w) (fun st _=>(512-st.2.1).toNat) ⟨0,rfl,by decide,rfl,rfl⟩ ?_;rintro⟨c,i,v⟩ _ Y ⟨k,j,C,d,rfl⟩;simp only at j d⊢;subst j;subst d;have hb:=Xu u k;refine AE (fun O=> ?_) fun N=> ?_
 ·have T:=hu.2 k (by omega) (by omega);refine⟨⟨by omega,by omega⟩,u k,H.cell T,?_⟩;rw[AN (n:=cu u k+1),AN (n:=(k:Int)+1)];refine AR (fun e=>⟨⟨k+1,by omega,by omega,?_,by trivial⟩,by omega⟩) fun e=>⟨⟨k+1,by omega,by omega,?_,by trivial⟩,by omega⟩
  ·simp[cu,e]
  ·simp[cu,e]
 ·have:k=512:=by omega
  subst this;exact J
theorem UM(H:Sat (Cells b t vs::Z) w)(hu:lZ vs o u){n:Int}(aF: -9223372036854775808<=n)(hn:n<9223372036854775808){K:Int->Int->World->Prop}
  (aB:n<1∨(∀k,0<=k->k<512->u k=true)->K 0 0 w)
  (C:1<=n-> ∀e i,0<=i->i<=e->e<512->(∀k,e<k->k<512->u k=true)->(∀k,i<=k->k<=e->u k=false)->e-i+1<=n->(e-i+1=n∨i=0∨u (i-1)=true)->K i (e-i+1) w):
  F.Du E (some ⟨b,o,none⟩) n 512 K w:=by
 unfold F.Du;simp only[AI,Nat.mul_one];refine Ax (Ab (by decide) fun j=> ?_);refine Ax (Ab (by decide) fun j=>AE (fun h=>aB (.inl h)) fun h1=> ?_);rw[AN (n:=512-1)];refine Ak (fun st w'=>w'=w/\ -1<=st.1/\st.1<512/\(∀k,st.1<k->k<512->u k=true)/\(0<=st.1->u st.1=false)) ?_ ?_
 ·refine AM (fun st w'=>w'=w/\ -1<=st.1/\st.1<512/\(∀k,st.1<k->k<512->u k=true)) (fun st _=>(st.1+1).toNat) ⟨rfl,by decide,by decide,fun k h1 J=>by simp only at h1;omega⟩ ?_;rintro⟨e,v⟩ _ w4 ⟨rfl,Y,d,he⟩;simp only at Y d he⊢;refine AE (fun T=>⟨⟨by omega,by omega⟩,u e,H.cell (hu.2 e T d),AR (fun g=> ?_) fun g=>⟨by trivial,Y,d,he,fun _=>g⟩⟩) fun N=>⟨by trivial,Y,d,he,fun h=>absurd h N⟩;rw[AN (n:=e-1)];refine⟨⟨by trivial,by omega,by omega,fun k h1 J=> ?_⟩,by omega⟩;by_cases e2:k=e
  ·rw[e2];exact g
  ·exact he k (by omega) J
 ·rintro⟨e,v⟩ _ w4 ⟨rfl,Y,d,he,hf⟩;simp only at Y d he hf⊢;refine AE (fun N=>aB (.inr fun k h1 J=>he k (by omega) J)) fun T=> ?_;refine AM (fun st w'=>w'=w4/\0<=st.1/\st.1<=e/\(∀k,st.1<=k->k<=e->u k=false)/\e-st.1+1<=n) (fun st _=>st.1.toNat) ⟨rfl,by show 0<=e;omega,Int.le_refl _,fun k h1 J=>by
   have:k=e:=by simp only at h1;omega
   rw[this];exact hf (by omega),by show e-e+1<=n;omega⟩ ?_
  rintro⟨i,v⟩ _ w5 ⟨rfl,i0,i1,hi,hle⟩;simp only at i0 i1 hi hle⊢;rw[AN (n:=e-i),AN (n:=e-i+1),AN (n:=i-1)];refine AE (fun aC=>⟨⟨by omega,by omega⟩,u (i-1),H.cell (hu.2 (i-1) (by omega) (by omega)),AR (fun g=>AE (fun N=> ?_) fun aE=>AY fun x O=> ?_) fun g=>AY fun x O=> ?_⟩) fun hz=>AY fun x O=> ?_
  ·have g:u (i-1)=false:=by simpa using g
   refine⟨⟨by trivial,by omega,by omega,fun k h1 J=> ?_,by omega⟩,by omega⟩;by_cases e2:k=i-1
   ·rw[e2];exact g
   ·exact hi k (by omega) J
  ·subst O;exact C (by omega) e i i0 i1 d he hi hle (.inl (by omega))
  ·subst O;have g:u (i-1)=true:=by simpa using g
   exact C (by omega) e i i0 i1 d he hi hle (.inr (.inr g))
  ·subst O;exact C (by omega) e i i0 i1 d he hi hle (.inr (.inl (by omega)))
end
end Go.Sh
set_option linter.all false
set_option maxRecDepth 4000
set_option maxHeartbeats 1000000
namespace Go.Sh
def sB(x:Int×Int×Int):List Value:=[.int .i64 x.1,.int .i64 x.2.1,.int .i64 x.2.2]
def Xz(L:List (Int×Int×Int)):List Value:=L.flatMap sB
section
variable{E:Env}{w:World}{Z:List Pr}
variable{a:AZ}{L:List (Int×Int×Int)}{l:Iv}{fr P:Int}
end
end Go.Sh
set_option linter.all false
set_option maxRecDepth 4000
set_option maxHeartbeats 1000000
namespace Go.Sh
abbrev CL:=List (Int×Nat)
def parts(L:CL):List Value:=L.flatMap fun c=>[.int .u64 c.1,.pointer (some ⟨c.2,0,none⟩)]
theorem KT(L:CL):(parts L).length=L.length*2:=by
 induction L with
 | nil=>rfl
 | cons x r ih=>show(parts r).length+1+1=_;rw[ih,List.length_cons];omega
theorem Py(L M:CL):parts (L++M)=parts L++parts M:=by simp[parts]
theorem KU: ∀(L:CL) {k:Nat} {x:Int×Nat},L[k]? =some x->(parts L)[k*2]? =some (.int .u64 x.1)/\(parts L)[k*2+1]? =some (.pointer (some ⟨x.2,0,none⟩))
 | y::r,0,x,h=>by have h:y=x:=Option.some.inj h;subst h;exact⟨rfl,rfl⟩
 | y::r,k+1,x,h=>by
  have:=KU r h;have e:parts (y::r)= .int .u64 y.1:: .pointer (some ⟨y.2,0,none⟩)::parts r:=rfl;rw[e,show(k+1)*2=k*2+1+1 by omega];exact this
theorem Pz(L:CL): ∀v∈parts L,v.oneCell'=true:=by
 intro v j;simp only[parts,List.mem_flatMap]at j;obtain⟨c,_,d⟩:=j;simp at d;rcases d with rfl|rfl<;>rfl
theorem Ol: ∀(L:CL) (k:Nat),(parts L).take (k*2)=parts (L.take k)
 | [],k=>by simp[parts]
 | y::r,0=>by simp[parts]
 | y::r,k+1=>by
  have e:parts (y::r)= .int .u64 y.1:: .pointer (some ⟨y.2,0,none⟩)::parts r:=rfl;rw[e,show(k+1)*2=k*2+1+1 by omega,List.take_succ_cons,List.take_succ_cons,Ol r k];rfl
theorem Om: ∀(L:CL) (k:Nat),(parts L).drop (k*2)=parts (L.drop k)
 | [],k=>by simp[parts]
 | y::r,0=>by simp
 | y::r,k+1=>by
  have e:parts (y::r)= .int .u64 y.1:: .pointer (some ⟨y.2,0,none⟩)::parts r:=rfl;rw[e,show(k+1)*2=k*2+1+1 by omega,List.drop_succ_cons,List.drop_succ_cons,Om r k];rfl
def posC:CL->Int->Nat
 | [],_=>0
 | c::r,n=>if c.1<n then posC r n+1 else 0
def IM(L:CL):Prop:=L.Pairwise fun a b=>a.1<b.1
theorem Nk: ∀(L:CL) (n:Int),posC L n<=L.length
 | [],_=>Nat.le_refl _
 | c::r,n=>by simp only[posC];split;exact Nat.succ_le_succ (Nk r n);exact Nat.zero_le _
theorem FP: ∀{L:CL} {n:Int} {j:Nat} {c:Int×Nat},L[j]? =some c->j<posC L n->c.1<n
 | c::r,n,0,x,h,hj=>by
  have h:c=x:=Option.some.inj h;subst h;simp only[posC]at hj;split at hj
  ·assumption
  ·omega
 | c::r,n,j+1,x,h,hj=>by
  simp only[posC]at hj;split at hj
  ·exact FP (L:=r) h (by omega)
  ·omega
theorem L6: ∀{L:CL} {n:Int} {c:Int×Nat},L[posC L n]? =some c->n<=c.1
 | c::r,n,x,h=>by
  simp only[posC]at h;split at h
  ·exact L6 (L:=r) h
  ·have h:c=x:=Option.some.inj h;subst h;omega
theorem LC{L:CL}(hs:IM L){n:Int}{j:Nat}{c:Int×Nat}(h:L[j]? =some c)(C:posC L n<=j):n<=c.1:=by
 have v:=(List.getElem?_eq_some_iff.1 h).1;have J:=List.getElem?_eq_getElem (show posC L n<L.length by omega);have h1:=L6 J;rcases Nat.lt_or_eq_of_le C with d|d
 ·have:=List.pairwise_iff_getElem.1 hs (posC L n) j (by omega) v d;rw[(List.getElem?_eq_some_iff.1 h).2]at this;omega
 ·subst d;exact L6 h
theorem L7{L:CL}(hs:IM L){n:Int}{c:Int×Nat}(K:c∈L)(O:c.1=n):L[posC L n]? =some c:=by
 obtain⟨j,d⟩:=List.mem_iff_getElem?.1 K;rcases Nat.lt_or_ge j (posC L n)with h|h
 ·have:=FP d h;omega
 ·have C:=(List.getElem?_eq_some_iff.1 d).1;rcases Nat.lt_or_eq_of_le h with v|v
  ·have N:=List.getElem?_eq_getElem (show posC L n<L.length by omega);have:=L6 N;have J:=List.pairwise_iff_getElem.1 hs (posC L n) j (by omega) C v;rw[(List.getElem?_eq_some_iff.1 d).2]at J;omega
  ·rw[v];exact d
def KV(E:Env)(U G:Int->Bool)(c:Int×Nat):Pr:=Cells c.2 E.Fv (flags 512 (fun k=>U (c.1*512+k))++flags 512 (fun k=>G (c.1*512+k)))
structure On(l:Nat->Iv)(L:CL)(U G:Int->Bool):Prop where
 F6:IM L
 Oo: ∀c∈L,0<=c.1/\c.1<67108864
 Tr:Ok (l 0)
 Gz:Ok (l 1)
 IT:Ok (l 2)
 l0: ∀p,mem (l 0) p↔ ∃c∈L,c.1=p/512
 l1: ∀p,mem (l 1) p↔mem (l 0) p/\U p=false
 l2: ∀p,mem (l 2) p↔mem (l 0) p/\G p=true
def Ge(E:Env)(r:Nat)(s:AZ)(L:CL)(U G:Int->Bool):List Pr:=[Cells r E.Bq [.slice s.base s.len s.cap],Row E.Ah 2 s (parts L),Ap (KV E U G) L]
def D6(E:Env)(r:Nat)(l:Nat->Iv):Pr:=Ex fun x:AZ×CL×(Int->Bool)×(Int->Bool)=>ID (On l x.2.1 x.2.2.1 x.2.2.2) (N9 (Ge E r x.1 x.2.1 x.2.2.1 x.2.2.2))
theorem Sat.Fo{E:Env}{r:Nat}{l:Nat->Iv}{Z:List Pr}{w:World}:Sat (D6 E r l::Z) w↔ ∃s L U G,On l L U G/\Sat (Ge E r s L U G++Z) w:=by
 unfold D6;rw[Sat.ex];constructor
 ·rintro⟨x,h⟩;obtain⟨h1,d⟩:=Sat.where.1 h;exact⟨_,_,_,_,h1,Sat.star.1 d⟩
 ·rintro⟨s,L,U,G,h1,d⟩;exact⟨(s,L,U,G),Sat.where.2 ⟨h1,Sat.star.2 d⟩⟩
theorem Hn{L:CL}(hs:IM L)(d: ∀c∈L,0<=c.1/\c.1<67108864):L.length<=67108864:=by
 have key: ∀(L:CL) (B:Int),IM L->(∀c∈L,B<=c.1/\c.1<67108864)->B<=67108864->(L.length:Int)<=67108864-B:=by
  intro L
  induction L with
  | nil=>intro B _ _ h;show(0:Int)<=_;omega
  | cons x r ih=>
   intro B hs d v;have h1:=d x (by simp);have hp:=List.pairwise_cons.1 hs;have:=ih (x.1+1) hp.2 (fun c j=>⟨by have:=hp.1 c j;omega,(d c (by simp[j])).2⟩) (by omega);rw[List.length_cons];omega
 have:=key L 0 hs d (by decide);omega
section
variable{E:Env}{w:World}{Z:List Pr}{r:Nat}{s:AZ}{L:CL}{U G:Int->Bool}{l:Nat->Iv}
theorem HF(H:Sat (Ge E r s L U G++Z) w):s.len=L.length:=by
 have:=(H.front 1 rfl).GA;rw[KT]at this;omega
theorem C9(H:Sat (Ge E r s L U G++Z) w):w.cell? (Addr.mk r 0 none)=some (.slice s.base s.len s.cap):=H.BI rfl
theorem GO(H:Sat (Ge E r s L U G++Z) w){k:Nat}{x:Int×Nat}(v:L[k]? =some x): ∃a,s.base=some a/\k<s.len/\w.cell? (a.add (k*2))=some (.int .u64 x.1)/\w.cell? ((a.add (k*2)).add 1)=some (.pointer (some ⟨x.2,0,none⟩)):=by
 have h1:=H.front 1 rfl;have d:=h1.own;obtain⟨C,J⟩:=KU L v;have hlen:=HF H;have K:=(List.getElem?_eq_some_iff.1 v).1;obtain⟨b,j⟩:=d.HM (by omega);refine⟨_,j,by omega,d.cell j C,?_⟩;rw[add_add];exact d.cell j J
theorem Ho(H:Sat (Ge E r s L U G++Z) w){k:Nat}{x:Int×Nat}(d:L[k]? =some x):
  Sat (KV E U G x::Ap (KV E U G) (L.eraseIdx k)::Cells r E.Bq [.slice s.base s.len s.cap]::Row E.Ah 2 s (parts L)::Z) w:=
 (H.front 2 rfl).IF d
theorem VQ(x:Int×Nat):lZ (flags 512 (fun k=>U (x.1*512+k))++flags 512 (fun k=>G (x.1*512+k))) 0 fun k=>U (x.1*512+k):=by
 refine⟨by simp[As],fun k h0 h1=> ?_⟩;rw[List.getElem?_append_left (by rw[As];omega)];exact He (n:=512) (u:=fun k=>U (x.1*512+k)) h0 h1
theorem Qq(x:Int×Nat):lZ (flags 512 (fun k=>U (x.1*512+k))++flags 512 (fun k=>G (x.1*512+k))) 512 fun k=>G (x.1*512+k):=by
 refine⟨by simp[As],fun k h0 h1=> ?_⟩;rw[List.getElem?_append_right (by rw[As];omega),As,show 512+k.toNat-512=0+k.toNat by omega];exact He (n:=512) (u:=fun k=>G (x.1*512+k)) h0 h1
theorem P5(H:Sat (Ge E r s L U G++Z) w){k:Nat}{x:Int×Nat}(d:L[k]? =some x){i:Int}(h0:0<=i)(h1:i<512):w.cell? ((Addr.mk x.2 0 none).add i.toNat)=some (.bool (U (x.1*512+i))):=
 (Ho H d).cell ((VQ x).2 i h0 h1)
theorem Wb(H:Sat (Ge E r s L U G++Z) w){k:Nat}{x:Int×Nat}(d:L[k]? =some x){i:Int}(h0:0<=i)(h1:i<512):w.cell? (((Addr.mk x.2 0 none).add 512).add i.toNat)=some (.bool (G (x.1*512+i))):=by
 rw[add_eq,Nat.zero_add];exact(Ho H d).cell (o:=512) ((Qq x).2 i h0 h1)
theorem I7(H:Sat (Ge E r s L U G++Z) w){n:Int}{K:Int->Bool->World->Prop}
  (T: ∀w' ok,(ok=true↔ ∃c,L[posC L n]? =some c/\c.1=n)->Sat (Ge E r s L U G++Z) w'->K (posC L n) ok w'):F.Bu E (some ⟨r,0,none⟩) n K w:=by
 unfold F.Bu;simp only[AI];have hlen:=HF H;have aC:L.length<9223372036854775808:=by have:=(H.front 1 rfl).own;have:=this.cap;have:=(H.front 1 rfl).own.top;omega
 refine Ak (fun st w'=>w'=w/\st.1=(posC L n:Nat)) ?_ ?_
 ·refine AM (fun st w'=>w'=w/\ ∃k:Nat,st.1=(k:Int)/\k<=L.length/\posC L n=posC (L.drop k) n+k) (fun st _=>(L.length-st.1).toNat) ⟨rfl,0,rfl,Nat.zero_le _,rfl⟩ ?_;rintro⟨i,v⟩ _ w5 ⟨rfl,k,hk,aE,hp⟩;dsimp only at hk⊢;subst hk;refine⟨s,C9 H,AE (fun N=>⟨s,C9 H,?_⟩) fun J=>⟨rfl,?_⟩⟩
  ·have hl:k<L.length:=by omega
   have d:=List.getElem?_eq_getElem hl;have hd:=N7 d;rw[hd]at hp;obtain⟨a,C,_,c1,_⟩:=GO H d;generalize L[k]=x at d c1 hp;rw[C];simp only[AI,Int.toNat_natCast];rw[AN (n:=(k:Int)+1)];refine⟨⟨by omega,by omega⟩,_,c1,AE (fun h=>⟨⟨by trivial,k+1,by omega,by omega,?_⟩,by omega⟩) fun h=>⟨by trivial,?_⟩⟩
   ·rw[hp];simp only[posC];rw[if_pos h];omega
   ·rw[hp];simp only[posC];rw[if_neg h];omega
  ·have:k=L.length:=by omega
   subst this;rw[hp,List.drop_length];show _=(((0:Nat)+L.length:Nat):Int);omega
 ·rintro⟨i,v⟩ _ w3 ⟨rfl,Y⟩;dsimp only at Y⊢;subst Y;have j:=H.drew;have O:=Nk L n;refine⟨s,C9 j,AE (fun N=>⟨s,C9 j,?_⟩) fun J=>T _ _ ?_ j⟩
  ·have d:=List.getElem?_eq_getElem (show posC L n<L.length by omega);obtain⟨a,C,_,c1,_⟩:=GO j d;generalize L[posC L n]=x at d c1;rw[C];simp only[AI,Int.toNat_natCast];refine⟨⟨by omega,by omega⟩,_,c1,T _ _ ?_ j⟩;rw[beq_iff_eq];exact⟨fun h=>⟨x,d,h⟩,fun⟨c,h1,h2⟩=>by rw[d]at h1;cases h1;exact h2⟩
  ·rw[List.getElem?_eq_none (by omega)];exact⟨fun h=>(by cases h),fun⟨c,h1,_⟩=>(by cases h1)⟩
theorem M6(j:On l L U G)(H:Sat (Ge E r s L U G++Z) w){p:Int}(hp:0<=p)(aF:p<18446744073709551616){K:Bool->Bool->Bool->World->Prop}
  (hK: ∀w' T r1 r2,(T=true↔mem (l 0) p)->(r1=true↔mem (l 1) p)->(r2=true↔mem (l 2) p)->Sat (Ge E r s L U G++Z) w'->K T r1 r2 w'):F.BA E (some ⟨r,0,none⟩) p K w:=by
 unfold F.BA T0.BA;rw[Int.tdiv_eq_ediv_of_nonneg hp,Int.tmod_eq_emod_of_nonneg hp,AG (n:=p/512)];refine⟨by decide,I7 H fun w3 ok BH N=>AR (fun e=> ?_) fun e=> ?_⟩
 ·have v: ¬mem (l 0) p:=fun hm=>by
   obtain⟨c,C,d⟩:=(j.l0 p).1 hm;have:ok=true:=BH.2 ⟨c,L7 j.F6 C d,d⟩;rw[this]at e;cases e
  exact hK _ _ _ _ ⟨fun h=>(by cases h),fun h=>absurd h v⟩ ⟨fun h=>(by cases h),fun h=>absurd ((j.l1 p).1 h).1 v⟩ ⟨fun h=>(by cases h),fun h=>absurd ((j.l2 p).1 h).1 v⟩ N
 ·have J:ok=true:=by simpa using e
  obtain⟨c,C,d⟩:=BH.1 J;have hm:mem (l 0) p:=(j.l0 p).2 ⟨c,List.mem_of_getElem? C,d⟩;obtain⟨a,ha,aG,c1,c2⟩:=GO N C;have O:=N.drew;have Y:=P5 O C (i:=p %512) (by omega) (by omega);have hG:=Wb O C (i:=p %512) (by omega) (by omega);have e2:c.1*512+p %512=p:=by omega
  rw[e2]at Y hG;simp only[AI];refine⟨s,C9 N,?_⟩;rw[ha];simp only[AI,Int.toNat_natCast,Nat.mul_one];refine⟨⟨by omega,by omega⟩,_,c2,by decide,?_⟩;simp only[AI];refine⟨⟨by omega,by omega⟩,_,Y,by decide,⟨by omega,by omega⟩,_,hG,hK _ _ _ _ ⟨fun _=>hm,fun _=>rfl⟩ ?_ ?_ O⟩
  ·rw[j.l1 p];cases g:U p
   ·simp[hm]
   ·simp
  ·rw[j.l2 p];simp[hm]
theorem Oq(N:On l L U G)(H:Sat (Ge E r s L U G++Z) w){x n:Int}(hx:0<=x)(aS:x<18446744073709551616)(hn:0<=n)(aX:n<18446744073709551616){K:Bool->World->Prop}
  (hK: ∀w' ok,(ok=true↔ ¬(n=0∨34359738368<=x∨34359738368-x<n∨cnt (l 0) x (x+n)≠n))->Sat (Ge E r s L U G++Z) w'->K ok w'):F.BW E (some ⟨r,0,none⟩) x n K w:=by
 unfold F.BW T0.BW;have h0: ∀{w'} (b:Bool),b=false->(n=0∨34359738368<=x∨34359738368-x<n∨cnt (l 0) x (x+n)≠n)->Sat (Ge E r s L U G++Z) w'->K b w':=fun b hb h H'=>hK _ _ ⟨fun e=>(by rw[hb]at e;cases e),fun g=>absurd h g⟩ H';refine Ax (CO (fun e j=>Ao rfl (h0 _ rfl (.inl e) H)) fun e1=>AE (fun e j=>Ao rfl (h0 _ rfl (.inr (.inl e)) H)) fun e2=> ?_);rw[AG (n:=34359738368-x)];refine fun j=>AE (fun e=>h0 _ rfl (.inr (.inr (.inl e))) H) fun e3=>⟨by decide,?_⟩;rw[Int.tdiv_eq_ediv_of_nonneg hx,AG (n:=x/512),AG (n:=x+n),AG (n:=x+n-1),Int.tdiv_eq_ediv_of_nonneg (a:=x+n-1) (by omega),AG (n:=(x+n-1)/512)];refine I7 H fun w6 ok BH H6=>⟨by decide,?_⟩;clear BH;have hlen:=HF H;have aO:=Hn N.F6 N.Oo;have aJ:=Nk L (x/512);have T:(∀p,x<=p->p<x+n->mem (l 0) p)->cnt (l 0) x (x+n)=n:=fun h=>by
  have:=(Ci N.Tr (a:=x) (b:=x+n) (by omega)).2 h;omega
 have C: ∀c,x/512<=c->c<=(x+n-1)/512->cnt (l 0) x (x+n)=n->c∈L.map (·.1):=fun c h1 h2 e=>by
  obtain⟨mm,aF,aE,aP⟩: ∃m,x<=m/\m<x+n/\m/512=c:=⟨max x (c*512),by omega,by omega,by omega⟩;obtain⟨y,hy,O⟩:=(N.l0 mm).1 ((Ci N.Tr (a:=x) (b:=x+n) (by omega)).1 (by omega) mm aF aE);exact List.mem_map.2 ⟨y,hy,by omega⟩
 simp only[AI];refine AM (fun st w'=>w'=w6/\x/512<=st.2.1/\st.2.1<=(x+n-1)/512+1/\(st.1=(posC L (x/512):Nat)+(st.2.1-x/512))/\st.1<=L.length/\ ∀m,x/512<=m->m<st.2.1-> ∃c,L[(posC L (x/512)+(m-x/512).toNat)]? =some c/\c.1=m)
  (fun st _=>((x+n-1)/512+1-st.2.1).toNat) ⟨rfl,Int.le_refl _,by dsimp only;omega,by dsimp only;omega,by dsimp only;omega,fun m h1 h2=>by dsimp only at h2;omega⟩ ?_
 rintro⟨at_,c,v⟩ _ w8 ⟨rfl,c0,c1,aD,aI,d⟩;dsimp only at c0 c1 aD aI d⊢;refine⟨by decide,AE (fun hle=> ?_) fun aR=> ?_⟩
 ·have C:=C c c0 hle;refine Ax ⟨s,C9 H6,AE (fun aT j=>Ao rfl (h0 _ rfl (.inr (.inr (.inr fun e=> ?_))) H6)) fun a1=>⟨s,C9 H6,?_⟩⟩
  ·obtain⟨y,hy,O⟩:=List.mem_map.1 (C e);obtain⟨j,hj⟩:=List.mem_iff_getElem?.1 hy;have aW:=(List.getElem?_eq_some_iff.1 hj).1;by_cases g:j<posC L (x/512)
   ·have:=FP hj g;omega
   ·obtain⟨z,hz,J⟩:=d (x/512+(j-posC L (x/512):Nat)) (by omega) (by omega);rw[show posC L (x/512)+(x/512+((j-posC L (x/512):Nat):Int)-x/512).toNat=j by omega,hj]at hz;cases hz;omega
  ·have Y:=List.getElem?_eq_getElem (show at_.toNat<L.length by omega);obtain⟨a,ha,aM,d1,_⟩:=GO H6 Y;generalize L[at_.toNat]=y at Y d1;rw[ha];simp only[AI];refine⟨⟨by omega,by omega⟩,_,d1,fun j=>DE (fun aG=>h0 _ rfl (.inr (.inr (.inr fun e=> ?_))) H6) fun heq=> ?_⟩
   ·obtain⟨y',hy,O⟩:=List.mem_map.1 (C e);have hc:=L7 N.F6 hy O;have:at_.toNat=posC L c:=by
     rcases Nat.lt_trichotomy at_.toNat (posC L c)with g|g|g
     ·exfalso;have g1:=FP Y g;by_cases g2:c=x/512
      ·subst g2;omega
      ·obtain⟨z,hz,J⟩:=d (c-1) (by omega) (by omega);have g3:posC L (x/512)+(c-1-x/512).toNat<at_.toNat:=by omega
       have:=List.pairwise_iff_getElem.1 N.F6 _ _ (by omega) (by omega) g3;rw[(List.getElem?_eq_some_iff.1 hz).2,(List.getElem?_eq_some_iff.1 Y).2]at this;omega
     ·exact g
     ·exfalso;by_cases g2:c=x/512
      ·subst g2;omega
      ·obtain⟨z,hz,J⟩:=d (c-1) (by omega) (by omega);have:=LC N.F6 hz (n:=c) (by omega);omega
    rw[this,hc]at Y;cases Y;exact aG O
   ·rw[AN (n:=at_+1),AG (n:=c+1)];refine⟨⟨by trivial,by omega,by omega,by omega,by omega,fun m h1 h2=> ?_⟩,by omega⟩;by_cases e:m=c
    ·subst e;refine⟨y,?_,heq⟩;rw[show posC L (x/512)+(m-x/512).toNat=at_.toNat by omega];exact Y
    ·exact d m h1 (by omega)
 ·refine hK _ _ ⟨fun _=> ?_,fun _=>rfl⟩ H6;have:cnt (l 0) x (x+n)=n:=by
   refine T fun m h1 h2=>(N.l0 m).2 ?_;obtain⟨z,hz,J⟩:=d (m/512) (by omega) (by omega);exact⟨z,List.mem_of_getElem? hz,J⟩
  omega
theorem P6(N:On l L U G)(H:Sat (Ge E r s L U G++Z) w){x n:Int}(hx:0<=x)(hn:0<=n)(aE:x+n<=34359738368){K:Int->Int->World->Prop}
  (hK: ∀w',Sat (Ge E r s L U G++Z) w'->K (n-cnt (l 1) x (x+n)) (cnt (l 2) x (x+n)) w'):F.BM E (some ⟨r,0,none⟩) x n K w:=by
 unfold F.BM T0.BM;rw[AG (n:=x+n)];have z0: ∀{m:Iv},Ok m->cnt m x x=0:=fun h=>(CU h (Int.le_refl _)).2 fun k h1 O=>by omega
 refine AM (fun st w'=>x<=st.2.2.1/\st.2.2.1<=x+n/\st.1=st.2.2.1-x-cnt (l 1) x st.2.2.1/\st.2.1=cnt (l 2) x st.2.2.1/\Sat (Ge E r s L U G++Z) w') (fun st _=>(x+n-st.2.2.1).toNat)
  ⟨Int.le_refl _,by show x<=x+n;omega,by dsimp only;rw[z0 N.Gz];omega,by dsimp only;rw[z0 N.IT],H⟩ ?_
 rintro⟨a,g,p,v⟩ _ w2 ⟨Y,p1,ha,hg,H2⟩;dsimp only at Y p1 ha hg⊢;subst ha;subst hg;have b1:=B1 (l 1) x p;have b2:=B1 (l 2) x p;have b3:=DY N.Gz (a:=x) (b:=p) (by omega);have b4:=DY N.IT (a:=x) (b:=p) (by omega);refine AE (fun aI=>M6 N H2 (by omega) (by omega) fun w7 r0 r1 r2 _ C d T=> ?_) fun aH=> ?_
 ·have s1:=F9 N.Gz (a:=x) (k:=p) Y;have s2:=F9 N.IT (a:=x) (k:=p) Y;rw[AG (n:=p+1),AG (n:=cnt (l 2) x p+1),AG (n:=p-x-cnt (l 1) x p+1)];refine Ax (AR (fun e j=>AR (fun J=> ?_) fun J=> ?_) fun e j=>AR (fun J=> ?_) fun J=> ?_)
  all_goals dsimp only
  ·have h1:=s1.2 fun h=>by rw[C.2 h]at e;cases e
   have O:=s2.1 (d.1 J);exact⟨⟨by omega,by omega,by omega,by omega,T⟩,by omega⟩
  ·have h1:=s1.2 fun h=>by rw[C.2 h]at e;cases e
   have O:=s2.2 fun h=>by rw[d.2 h]at J;cases J
   exact⟨⟨by omega,by omega,by omega,by omega,T⟩,by omega⟩
  ·have h1:=s1.1 (C.1 (by simpa using e));have O:=s2.1 (d.1 J);exact⟨⟨by omega,by omega,by omega,by omega,T⟩,by omega⟩
  ·have h1:=s1.1 (C.1 (by simpa using e));have O:=s2.2 fun h=>by rw[d.2 h]at J;cases J
   exact⟨⟨by omega,by omega,by omega,by omega,T⟩,by omega⟩
 ·have:p=x+n:=by omega
  subst this;rw[show x+n-x-cnt (l 1) x (x+n)=n-cnt (l 1) x (x+n) by omega];exact hK _ H2
theorem hY{x:Int×Nat}{U' G':Int->Bool}{i:Int}(h0:0<=i)(h1:i<512)(a g:Bool):
  ((flags 512 (fun k=>U (x.1*512+k))++flags 512 (fun k=>G (x.1*512+k))).set (0+i.toNat) (.bool a)).set (512+i.toNat) (.bool g)=
   flags 512 (fun k=>if x.1*512+k=x.1*512+i then a else U (x.1*512+k))++flags 512 (fun k=>if x.1*512+k=x.1*512+i then g else G (x.1*512+k)):=by
 rw[List.set_append_left _ _ (by rw[As];omega),List.set_append_right _ _ (by simp only[List.length_set,As];omega)];rw[show 512+i.toNat-((flags 512 fun k=>U (x.1*512+k)).set (0+i.toNat) (.bool a)).length=0+i.toNat by simp only[List.length_set,As];omega];rw[Ib h0,Ib h0];have e: ∀(f:Int->Bool) (v:Bool),(flags 512 fun j=>if j=i then v else f j)=flags 512 fun k=>if x.1*512+k=x.1*512+i then v else f k:=fun f v=>Dz fun k _ _=>by
  by_cases e:k=i
  ·rw[if_pos e,if_pos (by omega)]
  ·rw[if_neg e,if_neg (by omega)]
 rw[e,e]
theorem Ot(hI:On l L U G)(H:Sat (Ge E r s L U G++Z) w){x n:Int}(hx:0<=x)(hn:0<=n)(aQ:x+n<=34359738368)(aF: ∀p,x<=p->p<x+n->mem (l 0) p)(a g:Bool){K:World->Prop}
  (hK: ∀w',Sat (Ge E r s L (fun p=>if x<=p/\p<x+n then a else U p) (fun p=>if x<=p/\p<x+n then g else G p)++Z) w'->K w'):F.Bl E (some ⟨r,0,none⟩) x n a g K w:=by
 unfold F.Bl T0.Bl;rw[AG (n:=x+n)];refine AM (fun st w'=>x<=st.1/\st.1<=x+n/\Sat (Ge E r s L (fun p=>if x<=p/\p<st.1 then a else U p) (fun p=>if x<=p/\p<st.1 then g else G p)++Z) w') (fun st _=>(x+n-st.1).toNat) ⟨Int.le_refl _,by show x<=x+n;omega,?_⟩ ?_
 ·have e: ∀(f:Int->Bool) (v:Bool),(fun p=>if x<=p/\p<x then v else f p)=f:=fun f v=>by funext p;rw[if_neg (by omega)]
  dsimp only;rw[e,e];exact H
 rintro⟨p,v⟩ _ w2 ⟨p0,p1,H2⟩;dsimp only at p0 p1 H2⊢;refine AE (fun aK=>⟨by decide,?_⟩) fun aN=> ?_
 ·rw[Int.tdiv_eq_ediv_of_nonneg (by omega),Int.tmod_eq_emod_of_nonneg (by omega),AG (n:=p/512),AG (n:=p+1)];refine I7 H2 fun w6 ok BH H6=> ?_;obtain⟨c,aH,aD⟩:=(hI.l0 p).1 (aF p p0 aK);have hc:=L7 hI.F6 aH aD;obtain⟨aa,ha,aO,c1,c2⟩:=GO H6 hc;simp only[AI];refine⟨s,C9 H6,?_⟩;rw[ha];simp only[AI,Int.toNat_natCast,Nat.mul_one];refine⟨⟨by omega,by omega⟩,_,c2,by decide,?_⟩;simp only[AI];refine⟨⟨by omega,by omega⟩,?_⟩;have hlen: ∀(A B:Int->Bool),(flags 512 A++flags 512 B).length=1024:=fun A B=>by rw[List.length_append,As,As]
  refine Aj (Ho H6 hc) rfl (by rw[hlen];omega) fun aX d=> ?_;have N:=(d.front 3 rfl).own;refine⟨s,(d.front 2 rfl).BI rfl,?_⟩;rw[ha];simp only[AI];refine⟨⟨by omega,by omega⟩,some ⟨c.2,0,none⟩,?_,by decide,?_⟩
  ·rw[add_add];exact N.cell ha (KU L hc).2
  simp only[AI];refine⟨⟨by omega,by omega⟩,?_⟩;rw[add_eq c.2 0 512,Nat.zero_add];refine Aj d (o:=512) rfl (by rw[List.length_set,hlen];omega) fun aG T=>⟨⟨by omega,by omega,?_⟩,by omega⟩;have O:=hY (x:=c) (U:=fun q=>if x<=q/\q<p then a else U q) (G:=fun q=>if x<=q/\q<p then g else G q) (U':=U) (G':=G) (i:=p %512) (by omega) (by omega) a g;have e2:c.1*512+p %512=p:=by omega
  rw[e2]at O;rw[O]at T;have aA: ∀(f:Int->Bool) (v:Bool),(fun q=>if q=p then v else if x<=q/\q<p then v else f q)=fun q=>if x<=q/\q<p+1 then v else f q:=fun f v=>by
   funext q;by_cases e:q=p
   ·rw[if_pos e,if_pos (by omega)]
   ·rw[if_neg e];by_cases e3:x<=q/\q<p
    ·rw[if_pos e3,if_pos (by omega)]
    ·rw[if_neg e3,if_neg (by omega)]
  have Y:Sat (KV E (fun q=>if x<=q/\q<p+1 then a else U q) (fun q=>if x<=q/\q<p+1 then g else G q) c::
    Ap (KV E (fun q=>if x<=q/\q<p+1 then a else U q) (fun q=>if x<=q/\q<p+1 then g else G q)) (L.eraseIdx (posC L (p/512)))::Cells r E.Bq [.slice s.base s.len s.cap]::Row E.Ah 2 s (parts L)::Z) aG:=by
   have em:Ap (KV E (fun q=>if x<=q/\q<p+1 then a else U q) (fun q=>if x<=q/\q<p+1 then g else G q)) (L.eraseIdx (posC L (p/512)))=Ap (KV E (fun q=>if x<=q/\q<p then a else U q) (fun q=>if x<=q/\q<p then g else G q)) (L.eraseIdx (posC L (p/512))):=by
    refine Ap.congr fun y hy=> ?_;obtain⟨j,C⟩:=List.mem_iff_getElem?.1 hy;have aS:y.1≠p/512:=by
     intro e;rw[List.getElem?_eraseIdx]at C;have J:=L7 hI.F6 (c:=y) (n:=p/512) (by split at C<;>exact List.mem_of_getElem? C) e;split at C
     ·rename_i hjl;have:=FP C hjl;omega
     ·rename_i hjl;have h2:=(List.getElem?_eq_some_iff.1 C);obtain⟨h3,h4⟩:=h2;have:=List.pairwise_iff_getElem.1 hI.F6 (posC L (p/512)) (j+1) (by omega) h3 (by omega);rw[h4,(List.getElem?_eq_some_iff.1 J).2]at this;omega
    unfold KV;congr 2<;>refine Dz fun k k0 k1=> ?_<;>dsimp only
    ·have: ¬(y.1*512+k=p):=by omega
     by_cases e3:x<=y.1*512+k/\y.1*512+k<p
     ·rw[if_pos e3,if_pos (by omega)]
     ·rw[if_neg e3,if_neg (by omega)]
    ·have: ¬(y.1*512+k=p):=by omega
     by_cases e3:x<=y.1*512+k/\y.1*512+k<p
     ·rw[if_pos e3,if_pos (by omega)]
     ·rw[if_neg e3,if_neg (by omega)]
   rw[em];unfold KV;have f1:(fun k=>if x<=c.1*512+k/\c.1*512+k<p+1 then a else U (c.1*512+k))=fun k=>if c.1*512+k=p then a else if x<=c.1*512+k/\c.1*512+k<p then a else U (c.1*512+k):=by
    funext k;exact(congrFun (aA U a) (c.1*512+k)).symm
   have f2:(fun k=>if x<=c.1*512+k/\c.1*512+k<p+1 then g else G (c.1*512+k))=fun k=>if c.1*512+k=p then g else if x<=c.1*512+k/\c.1*512+k<p then g else G (c.1*512+k):=by
    funext k;exact(congrFun (aA G g) (c.1*512+k)).symm
   rw[f1,f2];exact T
  exact(Y.Hf hc).perm (List.Perm.trans (.swap _ _ _) (.cons _ (.swap _ _ _)))
 ·have:p=x+n:=by omega
  subst this;exact hK _ H2
end
end Go.Sh
set_option linter.all false
set_option maxRecDepth 4000
set_option maxHeartbeats 1000000
namespace Go.Sh
theorem On.congr{l l':Nat->Iv}{L:CL}{U G:Int->Bool}(h:On l L U G)(h0:l' 0=l 0)(h1:l' 1=l 1)(d:l' 2=l 2):On l' L U G:=
 ⟨h.F6,h.Oo,by rw[h0];exact h.Tr,by rw[h1];exact h.Gz,by rw[d];exact h.IT,by rw[h0];exact h.l0,by rw[h0,h1];exact h.l1,by rw[h0,d];exact h.l2⟩
theorem Sat.YJ{E:Env}{r:Nat}{l l':Nat->Iv}{Z:List Pr}{w:World}(H:Sat (D6 E r l::Z) w)(h0:l' 0=l 0)(h1:l' 1=l 1)(j:l' 2=l 2):Sat (D6 E r l'::Z) w:=by
 obtain⟨s,L,U,G,d,H⟩:=Sat.Fo.1 H;exact Sat.Fo.2 ⟨s,L,U,G,d.congr h0 h1 j,H⟩
theorem Sf{l:Nat->Iv}{x n:Int}: ¬(n=0∨34359738368<=x∨34359738368-x<n∨cnt (l 0) x (x+n)≠n)↔n≠0/\x<34359738368/\x+n<=34359738368/\cnt (l 0) x (x+n)=n:=by
 constructor
 ·intro h;refine⟨fun e=>h (.inl e),?_,?_,Classical.byContradiction fun e=>h (.inr (.inr (.inr e)))⟩
  ·exact Classical.byContradiction fun e=>h (.inr (.inl (by omega)))
  ·exact Classical.byContradiction fun e=>h (.inr (.inr (.inl (by omega))))
 ·rintro⟨h1,v,j,d⟩ h;rcases h with h|h|h|h<;>omega
section
variable{E:Env}{w:World}{Z:List Pr}{r:Nat}{l:Nat->Iv}
theorem Ou(H:Sat (D6 E r l::Z) w){x n:Int}(Y:0<=x)(aA:x<18446744073709551616)(J:0<=n)(T:n<18446744073709551616){K:Int->Int->World->Prop}
  (v:Ae l x n true 32≠0-> ∀w',Sat (D6 E r l::Z) w'->K 0 (Ae l x n true 32) w')
  (N:Ae l x n true 32=0-> ∀w',(∀l',l' 0=l 0->l' 1=B6 (l 1) x (x+n)->l' 2=B6 (l 2) x (x+n)->Sat (D6 E r l'::Z) w')->K (cnt (l 2) x (x+n)) 0 w'):
  F.BE E (some ⟨r,0,none⟩) x n K w:=by
 obtain⟨s,L,U,G,d,H⟩:=Sat.Fo.1 H;have back: ∀{w'},Sat (Ge E r s L U G++Z) w'->Sat (D6 E r l::Z) w':=fun h=>Sat.Fo.2 ⟨s,L,U,G,d,h⟩;unfold F.BE T0.BE;refine Oq d H Y aA J T fun w2 ok BH H2=> ?_;refine AR (fun e=> ?_) fun e=> ?_
 ·have hb:n=0∨34359738368<=x∨34359738368-x<n∨cnt (l 0) x (x+n)≠n:=Classical.byContradiction fun g=>by
   rw[BH.2 g]at e;cases e
  have j:Ae l x n true 32=10:=by unfold Ae;rw[if_pos hb]
  have:=v (by rw[j];decide) w2 (back H2);rwa[j]at this
 ·have O:=BH.1 (by simpa using e);clear BH;obtain⟨g1,g2,g3,g4⟩:=Sf.1 O;have aB:=(Ci d.Tr (a:=x) (b:=x+n) (by omega)).1 (by omega);have c1:=DY d.Gz (a:=x) (b:=x+n) (by omega);refine P6 d H2 Y J (by omega) fun w5 H5=>AE (fun h=> ?_) fun h=> ?_
  ·have C:Ae l x n true 32=32:=by unfold Ae;rw[if_neg O,if_pos (by rw[if_pos rfl];omega)]
   have:=v (by rw[C];decide) w5 (back H5);rwa[C]at this
  ·have e0:Ae l x n true 32=0:=by unfold Ae;rw[if_neg O,if_neg (by rw[if_pos rfl];omega)]
   refine Ot d H5 Y J (by omega) aB true false fun w6 H6=>N e0 w6 fun l' h0 h1 h2=>Sat.Fo.2 ⟨s,L,_,_,⟨d.F6,d.Oo,by rw[h0];exact d.Tr,by rw[h1];exact EK d.Gz (by omega),by rw[h2];exact EK d.IT (by omega),by rw[h0];exact d.l0,fun p=> ?_,fun p=> ?_⟩,H6⟩
   ·rw[h0,h1,B7 (by omega),d.l1];by_cases e:x<=p/\p<x+n
    ·rw[if_pos e];simp[e]
    ·rw[if_neg e];simp[e]
   ·rw[h0,h2,B7 (by omega),d.l2];by_cases e:x<=p/\p<x+n
    ·rw[if_pos e];simp[e]
    ·rw[if_neg e];simp[e]
theorem Ov(H:Sat (D6 E r l::Z) w)(J: ∀p,mem (l 2) p->mem (l 1) p){x n:Int}{gone:Bool}(O:0<=x)(aE:x<18446744073709551616)(T:0<=n)(aD:n<18446744073709551616){K:Int->World->Prop}
  (N:Ae l x n false 31≠0-> ∀w',Sat (D6 E r l::Z) w'->K (Ae l x n false 31) w')
  (aA:Ae l x n false 31=0-> ∀w',(∀l',l' 0=l 0->l' 1=Bk (l 1) x (x+n)->l' 2=(if gone then Bk (l 2) x (x+n)else l 2)->Sat (D6 E r l'::Z) w')->K 0 w'):
  F.A8 E (some ⟨r,0,none⟩) x n gone K w:=by
 obtain⟨s,L,U,G,d,H⟩:=Sat.Fo.1 H;have back: ∀{w'},Sat (Ge E r s L U G++Z) w'->Sat (D6 E r l::Z) w':=fun h=>Sat.Fo.2 ⟨s,L,U,G,d,h⟩;unfold F.A8 T0.A8;refine Oq d H O aE T aD fun w2 ok BH H2=> ?_;refine AR (fun e=> ?_) fun e=> ?_
 ·have hb:n=0∨34359738368<=x∨34359738368-x<n∨cnt (l 0) x (x+n)≠n:=Classical.byContradiction fun g=>by
   rw[BH.2 g]at e;cases e
  have v:Ae l x n false 31=10:=by unfold Ae;rw[if_pos hb]
  have:=N (by rw[v];decide) w2 (back H2);rwa[v]at this
 ·have hg:=BH.1 (by simpa using e);clear BH;obtain⟨g1,g2,g3,g4⟩:=Sf.1 hg;have j:=(Ci d.Tr (a:=x) (b:=x+n) (by omega)).1 (by omega);have c1:=B1 (l 1) x (x+n);refine P6 d H2 O T (by omega) fun w5 H5=>AE (fun h=> ?_) fun h=> ?_
  ·have C:Ae l x n false 31=31:=by unfold Ae;rw[if_neg hg,if_pos (by rw[if_neg (by decide)];omega)]
   have:=N (by rw[C];decide) w5 (back H5);rwa[C]at this
  ·have c0:cnt (l 1) x (x+n)=0:=by omega
   have e0:Ae l x n false 31=0:=by unfold Ae;rw[if_neg hg,if_neg (by rw[if_neg (by decide)];omega)]
   have aC:=(CU d.Gz (a:=x) (b:=x+n) (by omega)).1 c0;have a1:=CQ d.Gz (a:=x) (b:=x+n) (by omega) O (by omega);have a2:=CQ d.IT (a:=x) (b:=x+n) (by omega) O (by omega);refine Ot d H5 O T (by omega) j false gone fun w6 H6=>aA e0 w6 fun l' h0 h1 h2=>Sat.Fo.2 ⟨s,L,_,_,⟨d.F6,d.Oo,by rw[h0];exact d.Tr,by rw[h1];exact a1.1,?_,by rw[h0];exact d.l0,fun p=> ?_,fun p=> ?_⟩,H6⟩
   ·rw[h2];cases gone
    ·exact d.IT
    ·exact a2.1
   ·rw[h0,h1,a1.2.1,d.l1];by_cases e:x<=p/\p<x+n
    ·rw[if_pos e];simp[e,j p e.1 e.2]
    ·rw[if_neg e];simp[e]
   ·rw[h0,h2];by_cases e:x<=p/\p<x+n
    ·rw[if_pos e];have Y: ¬mem (l 2) p:=fun h=>aC p e.1 e.2 (J p h);cases gone
     ·simp[Y]
     ·rw[if_pos rfl,a2.2.1];simp[e,j p e.1 e.2]
    ·rw[if_neg e];cases gone
     ·rw[if_neg (by decide)];exact d.l2 p
     ·rw[if_pos rfl,a2.2.1,d.l2];simp[e]
def NO(l:Iv)(n cur run:Int):Prop:=0<=run/\run<n/\Mt l (cur-run) run/\ ∀p,Mt l p n->cur-run<=p
theorem NO.used{l:Iv}{n cur run:Int}(h:NO l n cur run)(d: ¬mem l cur):NO l n (cur+1) 0:=by
 obtain⟨h1,C,v,j⟩:=h;refine⟨by omega,by omega,fun m a b=>by omega,fun p hp=>Classical.byContradiction fun g=>d (hp cur (by omega) ?_)⟩;have:=j p hp;omega
theorem NO.free{l:Iv}{n cur run:Int}(h:NO l n cur run)(hm:mem l cur):Mt l (cur+1-(run+1)) (run+1)/\ ∀p,Mt l p n->cur+1-(run+1)<=p:=by
 obtain⟨h1,v,j,d⟩:=h;refine⟨fun m a b=> ?_,fun p hp=>by have:=d p hp;omega⟩;by_cases e:m=cur
 ·rw[e];exact hm
 ·exact j m (by omega) (by omega)
theorem NO.jump{l:Iv}{n cur run d:Int}(h:NO l n cur run)(N:cur<=d)(j: ∀m,cur<=m->m<d-> ¬mem l m)(v:cur<d):NO l n d 0:=by
 obtain⟨h1,K,J,C⟩:=h;refine⟨by omega,by omega,fun m a b=>by omega,fun p hp=>Classical.byContradiction fun g=> ?_⟩;have:=C p hp;by_cases e:cur<=p
 ·exact j p e (by omega) (hp p (by omega) (by omega))
 ·exact j cur (by omega) v (hp cur (by omega) (by omega))
theorem Ow(H:Sat (D6 E r l::Z) w){n:Int}(hn:0<=n)(bI:n<18446744073709551616){K:Int->Bool->World->Prop}
  (hK: ∀w',Sat (D6 E r l::Z) w'->K ((if n=0 then none else findL (l 1) n).getD 0) (if n=0 then none else findL (l 1) n).isSome w'):F.C3 E (some ⟨r,0,none⟩) n K w:=by
 obtain⟨s,L,U,G,C,H⟩:=Sat.Fo.1 H;have N:K ((if n=0 then none else findL (l 1) n).getD 0) (if n=0 then none else findL (l 1) n).isSome w:=hK w (Sat.Fo.2 ⟨s,L,U,G,C,H⟩);clear hK;unfold F.C3;simp only[AI,Nat.mul_one];have hlen:=HF H;have a4:=Hn C.F6 C.Oo;have aM: ∀c∈L,∀k,0<=k->k<512->(mem (l 1) (c.1*512+k)↔U (c.1*512+k)=false):=fun c hc k h0 h1=>by
  rw[C.l1];exact⟨fun h=>h.2,fun h=>⟨(C.l0 _).2 ⟨c,hc,by omega⟩,h⟩⟩
 have aG: ∀(i:Nat) c,L[i]? =some c-> ∀B:Int,(∀j c',j<i->L[j]? =some c'->(c'.1+1)*512<=B)-> ∀m,B<=m->m<c.1*512-> ¬mem (l 1) m:=fun i c hc B hB m h1 h2 hm=>by
  obtain⟨y,hy,aR⟩:=(C.l0 m).1 ((C.l1 m).1 hm).1;obtain⟨j,hj⟩:=List.mem_iff_getElem?.1 hy;by_cases g:j<i
  ·have:=hB j y g hj;omega
  ·have h3:c.1<=y.1:=by
    rcases Nat.lt_or_eq_of_le (Nat.le_of_not_lt g)with g2|g2
    ·have:=List.pairwise_iff_getElem.1 C.F6 i j (List.getElem?_eq_some_iff.1 hc).1 (List.getElem?_eq_some_iff.1 hj).1 g2;rw[(List.getElem?_eq_some_iff.1 hc).2,(List.getElem?_eq_some_iff.1 hj).2]at this;omega
    ·subst g2;rw[hc]at hj;cases hj;exact Int.le_refl _
   omega
 refine AM (fun st w'=>w'=w/\ ∃i:Nat,st.2.2.1=(i:Int)/\i<=L.length/\((i=0/\st.1=0)∨(0<i/\(∃c,L[i-1]? =some c/\c.1=st.2.1)/\0<n/\NO (l 1) n ((st.2.1+1)*512) st.1))) (fun st _=>(L.length-st.2.2.1).toNat) ⟨rfl,0,rfl,Nat.zero_le _,.inl ⟨rfl,rfl⟩⟩ ?_;rintro⟨run,last,i',v⟩ _ w2 ⟨rfl,i,hi,bD,hc⟩;dsimp only at hi hc⊢;subst hi;refine⟨s,C9 H,AE (fun bL=>AE (fun aA=> ?_) fun bA=> ?_) fun a9=> ?_⟩
 ·have hl:i<L.length:=by omega
  have hg:=List.getElem?_eq_getElem hl;obtain⟨a,ha,bB,c1,c2⟩:=GO H hg;generalize L[i]=x at hg c1 c2;have aJ:=List.mem_of_getElem? hg;have a7:=C.Oo x aJ;have aF: ∀(B:Int),(i=0∨ ∃c,L[i-1]? =some c/\(c.1+1)*512<=B)-> ∀j c',j<i->L[j]? =some c'->(c'.1+1)*512<=B:=fun B hB j c' hj aE=>by
   rcases hB with h|⟨c,d,aI⟩
   ·omega
   ·by_cases e:j=i-1
    ·subst e;rw[d]at aE;cases aE;exact aI
    ·have:=List.pairwise_iff_getElem.1 C.F6 j (i-1) (List.getElem?_eq_some_iff.1 aE).1 (List.getElem?_eq_some_iff.1 d).1 (by omega);rw[(List.getElem?_eq_some_iff.1 aE).2,(List.getElem?_eq_some_iff.1 d).2]at this;omega
  rw[AN (n:=(i:Int)+1)];have aD:(0:Int)<=(i:Int)/\(i:Int)<(s.len:Int):=⟨by omega,by omega⟩;refine Et (fun st w'=>w'=w2/\NO (l 1) n (x.1*512) st.1) ?_ ?_
  ·have hzero:i=0->NO (l 1) n (x.1*512) 0:=fun e=>⟨by omega,by omega,fun m a b=>by omega,fun p hp=>Classical.byContradiction fun g=>by
    have h1:=hp p (by omega) (by omega);have h2:=LS C.Gz h1;exact aG i x hg 0 (aF 0 (.inl e)) p h2 (by omega) h1⟩
   refine Ax (AE (fun bC=>⟨s,C9 H,?_⟩) fun a5 j=>Ab rfl ?_)
   ·rw[ha];simp only[AI,Int.toNat_natCast];refine⟨aD,_,c1,fun j=> ?_⟩;rcases hc with ⟨h,_⟩|⟨_,⟨c,d,aI⟩,_,O⟩
    ·omega
    have bK:=C.Oo c (List.mem_of_getElem? d);rw[AG (n:=last+1)];have aZ:last+1<=x.1:=by
     have:=List.pairwise_iff_getElem.1 C.F6 (i-1) i (by omega) hl (by omega);rw[(List.getElem?_eq_some_iff.1 d).2,(List.getElem?_eq_some_iff.1 hg).2]at this;omega
    refine DE (fun aU=>⟨by trivial,?_⟩) fun heq=>⟨by trivial,?_⟩
    ·exact O.jump (by omega) (aG i x hg _ (aF _ (.inr ⟨c,d,by omega⟩))) (by omega)
    ·rw[heq];exact O
   ·have e:i=0:=by omega
    refine⟨rfl,?_⟩;rcases hc with ⟨_,h⟩|⟨h,_⟩
    ·rw[h];exact hzero e
    ·omega
  ·rintro⟨a0,v⟩ _ w8 ⟨rfl,O⟩;dsimp only at O⊢;refine⟨s,C9 H,?_⟩;rw[ha];simp only[AI,Int.toNat_natCast];refine⟨aD,_,c1,?_⟩;refine AM (fun st w'=>w'=w8/\0<=st.2.1/\st.2.1<=512/\NO (l 1) n (x.1*512+st.2.1) st.1) (fun st _=>(512-st.2.1).toNat) ⟨rfl,by dsimp only;omega,by dsimp only;omega,by rw[show x.1*512+(0:Int)=x.1*512 by omega];exact O⟩ ?_;rintro⟨aL,k,v⟩ _ bF ⟨rfl,k0,k1,J⟩;dsimp only at k0 k1 J⊢;refine AE (fun Y=> ?_) fun aY=> ?_
   ·have hU:=P5 H hg (i:=k) k0 Y;rw[AG (n:=k+1)];have a3:=J.2.1;have aW:=J.1;refine Ax ⟨s,C9 H,?_⟩;rw[ha];simp only[AI];refine⟨aD,_,c2,?_⟩;simp only[AI];refine⟨⟨k0,Y⟩,_,hU,AR (fun hu j=> ?_) fun hu j=> ?_⟩
    ·refine CO (fun e=>by omega) fun _=>⟨⟨by trivial,by omega,by omega,?_⟩,by omega⟩;have:=J.used (fun h=>by rw[(aM x aJ k k0 Y).1 h]at hu;cases hu);rw[show x.1*512+(k+1)=x.1*512+k+1 by omega];exact this
    ·have T:=J.free ((aM x aJ k k0 Y).2 hu);rw[AG (n:=aL+1)];refine CO (fun e=>⟨s,C9 H,?_⟩) fun aU=>⟨⟨by trivial,by omega,by omega,?_⟩,by omega⟩
     ·rw[ha];simp only[AI];rw[e]at T;refine⟨aD,_,c1,AY fun t ht=> ?_⟩;have bG:0<=x.1*512+k+1-n:=LS C.Gz (T.1 _ (Int.le_refl _) (by omega));rw[AG (n:=x.1*512),AG (n:=x.1*512+k),AG (n:=x.1*512+k+1),AG (n:=x.1*512+k+1-n)]at ht;have hf:findL (l 1) n=some t:=by
       cases hf:findL (l 1) n with
       | none=>exact absurd T.1 (I2 C.Gz aA hf _)
       | some q=>
        obtain⟨g1,g2⟩:=Hj C.Gz aA hf;have h1:=g2 _ T.1;have h2:=T.2 q g1;congr 1;omega
      rw[if_neg (by omega),hf]at N;exact N
     ·rw[show x.1*512+(k+1)=x.1*512+k+1 by omega];exact⟨by omega,by omega,T.1,T.2⟩
   ·have e:k=512:=by omega
    subst e;refine⟨⟨by trivial,i+1,by omega,by omega,.inr ⟨by omega,⟨x,by simpa using hg,by trivial⟩,aA,?_⟩⟩,by omega⟩;rw[show(x.1+1)*512=x.1*512+512 by omega];exact J
 ·have e:n=0:=by omega
  rw[if_pos e]at N;exact N
 ·have e:i=L.length:=by omega
  by_cases en:n=0
  ·rw[if_pos en]at N;exact N
  ·rw[if_neg en]at N;have hf:findL (l 1) n=none:=by
    cases hf:findL (l 1) n with
    | none=>rfl
    | some q=>
     exfalso;obtain⟨g1,_⟩:=Hj C.Gz (by omega) hf;have h1:=g1 (q+n-1) (by omega) (by omega);obtain⟨y,hy,aR⟩:=(C.l0 _).1 ((C.l1 _).1 h1).1;obtain⟨j,hj⟩:=List.mem_iff_getElem?.1 hy;have aT:=(List.getElem?_eq_some_iff.1 hj).1;rcases hc with ⟨h,_⟩|⟨_,⟨c,d,aI⟩,_,O⟩
     ·omega
     ·have h5:=O.2.2.2 q g1;have h6:=O.2.1;have h7:y.1<=c.1:=by
       by_cases e2:j=i-1
       ·subst e2;rw[d]at hj;cases hj;exact Int.le_refl _
       ·have:=List.pairwise_iff_getElem.1 C.F6 j (i-1) aT (List.getElem?_eq_some_iff.1 d).1 (by omega);rw[(List.getElem?_eq_some_iff.1 hj).2,(List.getElem?_eq_some_iff.1 d).2]at this;omega
      omega
   rw[hf]at N;exact N
theorem Sg(H:Sat (D6 E r l::Z) w){n:Int}(T:0<=n)(j:n<18446744073709551616)(C: ∀p,n≠0->findL (l 1) n=some p->Ae l p n true 32=0/\0<=p/\p+n<=34359738368){K:Int->Int->Int->World->Prop}
  (N:n=0->K 0 0 1 w)(J:n≠0->findL (l 1) n=none-> ∀w',Sat (D6 E r l::Z) w'->K 0 0 30 w')
  (v:n≠0-> ∀p,findL (l 1) n=some p-> ∀w',(∀l',l' 0=l 0->l' 1=B6 (l 1) p (p+n)->l' 2=B6 (l 2) p (p+n)->Sat (D6 E r l'::Z) w')->K p (cnt (l 2) p (p+n)) 0 w'):
  F.BN E (some ⟨r,0,none⟩) n K w:=by
 unfold F.BN T0.BN;refine CO N fun d=>Ow H T j fun w3 O=> ?_;rw[if_neg d];cases hf:findL (l 1) n with
 | none=>exact Ao rfl (J d hf w3 O)
 | some p=>
  obtain⟨h1,Y,h3⟩:=C p d hf;refine Ab rfl (Ou O Y (by show p<_;omega) T j (fun h=>absurd h1 h) fun _ w' h=>v d p hf w' h)
end
end Go.Sh
set_option linter.all false
set_option maxRecDepth 4000
set_option maxHeartbeats 1000000
namespace Go.Sh
theorem JH(n:Nat)(b:Bool):List.replicate n (Value.bool b)=flags n fun _=>b:=by
 apply List.ext_getElem?;intro i;rw[List.getElem?_replicate];by_cases h:i<n
 ·rw[if_pos h,E4 h]
 ·rw[if_neg h,List.getElem?_eq_none (by rw[As];omega)]
section
variable{E:Env}{w:World}{Z:List Pr}{r:Nat}{l:Nat->Iv}
theorem Sat.YK{b:Nat}(H:Sat (Cells b E.Bq [.slice none 0 0]::Z) w)(j: ∀i,l i=[]):Sat (D6 E b l::Z) w:=by
 have d: ∀i p,¬mem (l i) p:=fun i p=>by rw[j];exact Ar p
 refine Sat.Fo.2 ⟨⟨none,0,0⟩,[],fun _=>false,fun _=>false,⟨List.Pairwise.nil,fun c v=>(by cases v),by rw[j];trivial,by rw[j];trivial,by rw[j];trivial,fun p=> ?_,fun p=> ?_,fun p=> ?_⟩,?_⟩
 ·exact⟨fun h=>absurd h (d 0 p),fun⟨c,v,_⟩=>(by cases v)⟩
 ·exact⟨fun h=>absurd h (d 1 p),fun h=>absurd h.1 (d 0 p)⟩
 ·exact⟨fun h=>absurd h (d 2 p),fun h=>absurd h.1 (d 0 p)⟩
 ·have h1:=(H.nil E.Ah 2);have C:=h1.KN (KV E (fun _=>false) fun _=>false);exact C.perm (List.Perm.trans (.swap _ _ _) (List.Perm.trans (.cons _ (.swap _ _ _)) (.swap _ _ _)))
theorem Qr(H:Sat Z w){c:Int}{U G:Int->Bool}(hU: ∀k,0<=k->k<512->U (c*512+k)=false)(T: ∀k,0<=k->k<512->G (c*512+k)=true){K:Option Addr->World->Prop}
  (J: ∀b w',Sat (KV E U G (c,b)::Z) w'->K (some ⟨b,0,none⟩) w'):F.Dg E K w:=by
 unfold F.Dg T0.Dg;have O:(Array.replicate 1024 (Value.bool false))=⟨List.replicate 1024 (.bool false)⟩:=by apply Array.ext';simp only[Array.toList_replicate]
 rw[O];generalize hrep:List.replicate 1024 (Value.bool false)=rep;have hl:rep.length=1024:=by rw[<-hrep];exact List.length_replicate
 refine Am H fun b w2 N _=> ?_;rw[add_eq,Nat.zero_add];refine Mc N (o:=512) (by omega) (by decide) (by decide) (by decide) true fun C vs Y hv v=>J b C ?_;have e:vs=flags 512 (fun k=>U ((c,b).1*512+k))++flags 512 (fun k=>G ((c,b).1*512+k)):=by
  apply List.ext_getElem?;intro j;rw[hv j];have d:(0+512:Int).toNat=512:=rfl;have h0:(0:Int).toNat=0:=rfl;rw[d,h0];by_cases g1:j<512
  ·rw[if_neg (by omega),List.getElem?_append_left (by rw[As];omega),E4 g1,<-hrep,List.getElem?_replicate,if_pos (by omega)];have:=hU j (by omega) (by omega);dsimp only;rw[this]
  ·by_cases g2:j<1024
   ·rw[if_pos (by omega),List.getElem?_append_right (by rw[As];omega),As,E4 (by omega)];have:=T ((j-512:Nat):Int) (by omega) (by omega);dsimp only;rw[this]
   ·rw[if_neg (by omega),List.getElem?_eq_none (by omega),List.getElem?_eq_none (by rw[List.length_append,As,As];omega)]
 rw[e]at v;exact v
theorem UN(H:Sat (D6 E r l::Z) w){c n:Int}(hc:0<=c)(b8:c<18446744073709551616)(hn:0<=n)(cF:n<18446744073709551616){K:Int->World->Prop}
  (aC:(n=0∨262144<n∨67108864<c∨67108864-c<n)->K 1 w)
  (aK: ¬(n=0∨262144<n∨67108864<c∨67108864-c<n)->cnt (l 0) (c*512) ((c+n)*512)≠0-> ∀w',Sat (D6 E r l::Z) w'->K 34 w')
  (aR: ¬(n=0∨262144<n∨67108864<c∨67108864-c<n)->cnt (l 0) (c*512) ((c+n)*512)=0-> ∀w',(∀l',(∀i,i<3->l' i=Bk (l i) (c*512) ((c+n)*512))->Sat (D6 E r l'::Z) w')->K 0 w'):
  F.BZ E (some ⟨r,0,none⟩) c n K w:=by
 obtain⟨s,L,U,G,O,H⟩:=Sat.Fo.1 H;have back: ∀{w'},Sat (Ge E r s L U G++Z) w'->Sat (D6 E r l::Z) w':=fun h=>Sat.Fo.2 ⟨s,L,U,G,O,h⟩;unfold F.BZ T0.BZ;refine Ax (CO (fun e j=>Ao rfl (aC (.inl e))) fun e1=>AE (fun e j=>Ao rfl (aC (.inr (.inl e)))) fun e2=>AE (fun e j=>Ao rfl (aC (.inr (.inr (.inl e))))) fun e3=> ?_);rw[AG (n:=67108864-c)];refine fun j=>AE (fun e=>aC (.inr (.inr (.inr e)))) fun e4=> ?_;have aM: ¬(n=0∨262144<n∨67108864<c∨67108864-c<n):=by omega
 have aK:=aK aM;have aR:=aR aM;clear aC;have b7:=Hn O.F6 O.Oo;have hlen:=HF H;refine I7 H fun w6 ok BH H6=> ?_;clear BH;have aX:=Nk L c;have aO:cnt (l 0) (c*512) ((c+n)*512)=0↔ ∀y∈L,¬(c<=y.1/\y.1<c+n):=by
  rw[CU O.Tr (by omega)];constructor
  ·intro h y J ⟨h1,h2⟩;exact h (y.1*512) (by omega) (by omega) ((O.l0 _).2 ⟨y,J,by omega⟩)
  ·intro h m h1 h2 hm;obtain⟨y,J,aJ⟩:=(O.l0 m).1 hm;exact h y J ⟨by omega,by omega⟩
 simp only[AI];refine Et (fun st w'=>w'=w6/\(st.1=false-> ∀y,L[posC L c]? =some y->c+n<=y.1)/\(st.1=true->cnt (l 0) (c*512) ((c+n)*512)≠0)) ?_ ?_
 ·refine⟨s,C9 H6,AE (fun bH=>⟨s,C9 H6,?_⟩) fun bO=>⟨rfl,fun _ y J=> ?_,fun e=>by cases e⟩⟩
  ·have hg:=List.getElem?_eq_getElem (show posC L c<L.length by omega);obtain⟨a,ha,b1,c1,_⟩:=GO H6 hg;generalize L[posC L c]=x at hg c1;rw[ha];simp only[AI,Int.toNat_natCast];rw[AG (n:=c+n)];refine⟨⟨by omega,by omega⟩,_,c1,by trivial,fun e y J=> ?_,fun e=> ?_⟩
   ·rw[hg]at J;cases J;have:=of_decide_eq_false e;omega
   ·have h1:=of_decide_eq_true e;have h2:=L6 hg;exact fun h=>aO.1 h x (List.mem_of_getElem? hg) ⟨h2,h1⟩
  ·have:=(List.getElem?_eq_some_iff.1 J).1;omega
 rintro⟨bt,v⟩ _ w9 ⟨rfl,aV,aP⟩;dsimp only at aV aP⊢;refine AR (fun e=>aK (aP e) w9 (back H6)) fun e=> ?_;have aN:=aV e;clear aV aP;have T: ∀y∈L,¬(c<=y.1/\y.1<c+n):=by
  intro y J ⟨h1,h2⟩;obtain⟨j,C⟩:=List.mem_iff_getElem?.1 J;have bR:=(List.getElem?_eq_some_iff.1 C).1;by_cases g:j<posC L c
  ·have:=FP C g;omega
  ·have hg:=List.getElem?_eq_getElem (show posC L c<L.length by omega);have h3:=aN _ hg;rcases Nat.lt_or_eq_of_le (Nat.le_of_not_lt g)with g2|g2
   ·have:=List.pairwise_iff_getElem.1 O.F6 (posC L c) j (by omega) bR g2;rw[(List.getElem?_eq_some_iff.1 C).2]at this;omega
   ·subst g2;rw[C]at hg;rw[<-Option.some.inj hg]at h3;omega
 have bM:=aO.2 T;clear aK aO;generalize hU':(fun p:Int=>if c*512<=p/\p<(c+n)*512 then false else U p)=U';generalize hG':(fun p:Int=>if c*512<=p/\p<(c+n)*512 then true else G p)=G';have aW: ∀d k,c<=d->d<c+n->0<=k->k<512->U' (d*512+k)=false/\G' (d*512+k)=true:=fun d k h1 h2 h3 h4=>by
  rw[<-hU',<-hG'];dsimp only;rw[if_pos (by omega),if_pos (by omega)];exact⟨rfl,rfl⟩
 have bI: ∀y∈L,KV E U G y=KV E U' G' y:=fun y J=>by
  have cE:=T y J;unfold KV;congr 2
  ·refine Dz fun k h0 h1=> ?_;rw[<-hU'];dsimp only;rw[if_neg (by omega)]
  ·refine Dz fun k h0 h1=> ?_;rw[<-hG'];dsimp only;rw[if_neg (by omega)]
 have bT:Sat (Ap (KV E U' G') L::Cells r E.Bq [.slice s.base s.len s.cap]::Row E.Ah 2 s (parts L)::Z) w9:=by
  rw[<-Ap.congr bI];exact H6.front 2 rfl
 refine GB (n:=0) (z:=2) bT rfl (by decide) fun b5 bC aG=> ?_;have aT:=(aG.front 3 rfl).Ky;have bA:(parts L).length=s.len*2:=by rw[KT,hlen]
 refine⟨s,(aG.front 2 rfl).BI rfl,⟨by omega,by have:=(aG.front 3 rfl).own.cap;omega⟩,?_⟩;rw[Jb,Int.toNat_natCast];have bD:rowAt bC s.base (posC L c*2) (parts (L.take (posC L c))):=by
  have:=Iu aT (m:=posC L c*2) (by omega) bA;rwa[Ol]at this
 refine FD (x:=⟨s.base,posC L c,s.cap⟩) (news:=parts (L.take (posC L c))) aG rfl bD (by rw[KT,List.length_take];show min (posC L c) L.length*2=posC L c*2;rw[Nat.min_eq_left aX]) (Pz _) (by dsimp only;omega) (by dsimp only;omega) fun bN cB a7 aF=> ?_;rw[List.nil_append]at a7;have aF:bN.len=posC L c:=by rw[aF];show 0+posC L c=_;omega
 refine AM (fun st w'=> ∃(k:Nat) (M:CL),st.2.1=(k:Int)/\(k:Int)<=n/\M.length=k/\(∀(j:Nat) y,M[j]? =some y->y.1=c+j)/\st.1.len=posC L c+k/\
   Sat (Row E.Ah 2 st.1 (parts (L.take (posC L c)++M))::Ap (KV E U' G') M::Ap (KV E U' G') L::Cells r E.Bq [.slice s.base s.len s.cap]::Row E.Ah 2 s (parts L)::Z) w') (fun st _=>(n-st.2.1).toNat)
  ⟨0,[],rfl,by show(0:Int)<=n;omega,rfl,fun j y h=>(by cases h),aF,by rw[List.append_nil];exact(a7.KN (KV E U' G')).perm (.swap _ _ _)⟩ ?_
 rintro⟨cC,k',v⟩ _ bF ⟨k,M,hk,b6,hM,aE,a3,Y⟩;dsimp only at hk a3 Y⊢;subst hk;refine AE (fun bH=> ?_) fun bO=> ?_
 ·refine Qr Y (c:=c+k) (U:=U') (G:=G') (fun i h0 h1=>(aW (c+k) i (by omega) (by omega) h0 h1).1) (fun i h0 h1=>(aW (c+k) i (by omega) (by omega) h0 h1).2) fun b b0 bG=> ?_;rw[AG (n:=c+(k:Int)),AG (n:=(k:Int)+1)];refine Am bG fun cD b2 bL _=> ?_;refine IE (news:=[.int .u64 (c+k),.pointer (some ⟨b,0,none⟩)]) (bL.DF 1 rfl) rfl rfl (by simp[Value.oneCell']) (by omega) (by omega) fun bK bP a9 bZ=> ?_;have ep:parts (L.take (posC L c)++M)++[Value.int .u64 (c+k),.pointer (some ⟨b,0,none⟩)]=parts (L.take (posC L c)++(M++[(c+(k:Int),b)])):=by
   rw[<-List.append_assoc,Py (L.take (posC L c)++M)];rfl
  rw[ep]at a9;refine⟨⟨k+1,M++[(c+(k:Int),b)],by omega,by omega,by simp[hM],fun j y C=> ?_,by omega,?_⟩,by omega⟩
  ·rw[List.getElem?_append]at C;split at C
   ·exact aE j y C
   ·rename_i hj2;have:j=M.length:=by
     have:=(List.getElem?_eq_some_iff.1 C).1;simp at this;omega
    subst this;rw[Nat.sub_self]at C;cases C;show c+(k:Int)=c+(M.length:Nat);rw[hM]
  ·have h1:Sat (KV E U' G' (c+(k:Int),b)::Ap (KV E U' G') M::Row E.Ah 2 bK (parts (L.take (posC L c)++(M++[(c+(k:Int),b)])))::Ap (KV E U' G') L::Cells r E.Bq [.slice s.base s.len s.cap]::Row E.Ah 2 s (parts L)::Z) bP:=
    a9.perm (List.Perm.trans (.swap _ _ _) (.cons _ (.swap _ _ _)))
   exact h1.OD.perm (.swap _ _ _)
 ·have bW:(k:Int)=n:=by omega
  have aH:=(Y.front 4 rfl).Ky;refine⟨s,(Y.front 3 rfl).BI rfl,⟨by omega,by omega⟩,?_⟩;have aY:=(Y.front 4 rfl).own.cap;have bS:rowAt bF (Fe s.base s.cap (posC L c) 2) ((s.len-posC L c)*2) (parts (L.drop (posC L c))):=by
   have:=Ha (z:=2) aH rfl (k:=posC L c) (by omega) aY bA;rwa[Om]at this
  refine FD (x:=⟨Fe s.base s.cap (posC L c) 2,s.len-posC L c,s.cap-posC L c⟩) (news:=parts (L.drop (posC L c))) Y rfl bS (by rw[KT,List.length_drop];show _=(s.len-posC L c)*2;rw[hlen]) (Pz _) (by dsimp only;omega) (by dsimp only;omega) fun aB b4 aZ bY=> ?_;rw[<-Py]at aZ;have bE:=(aZ.front 3 rfl);refine Gs bE (o:=0) rfl (by simp) fun a4 aQ=>aR bM a4 fun l' aS=> ?_;simp only[List.set]at aQ;generalize hN:L.take (posC L c)++M++L.drop (posC L c)=N at aQ;have a5:(M++L).Perm N:=by
   rw[<-hN,List.append_assoc];have h1:(M++L).Perm (M++(L.take (posC L c)++L.drop (posC L c))):=by rw[List.take_append_drop]
   refine h1.trans ?_;rw[<-List.append_assoc,<-List.append_assoc];exact List.perm_append_comm.append_right _
  have aI: ∀y,y∈N↔y∈M∨y∈L:=fun y=>by rw[<-a5.mem_iff,List.mem_append]
  have aL: ∀y∈M,c<=y.1/\y.1<c+n:=fun y J=>by
   obtain⟨j,C⟩:=List.mem_iff_getElem?.1 J;have:=(List.getElem?_eq_some_iff.1 C).1;have:=aE j y C;omega
  have a0:=CQ O.Tr (a:=c*512) (b:=(c+n)*512) (by omega) (by omega) (by omega);have a1:=CQ O.Gz (a:=c*512) (b:=(c+n)*512) (by omega) (by omega) (by omega);have a2:=CQ O.IT (a:=c*512) (b:=(c+n)*512) (by omega) (by omega) (by omega);rw[<-aS 0 (by decide)]at a0;rw[<-aS 1 (by decide)]at a1;rw[<-aS 2 (by decide)]at a2;refine Sat.Fo.2 ⟨aB,N,U',G',⟨?_,fun y J=> ?_,a0.1,a1.1,a2.1,fun p=> ?_,fun p=> ?_,fun p=> ?_⟩,?_⟩
  ·rw[<-hN];unfold IM;rw[List.append_assoc,List.pairwise_append,List.pairwise_append];refine⟨O.F6.sublist (List.take_sublist _ _),⟨?_,O.F6.sublist (List.drop_sublist _ _),?_⟩,?_⟩
   ·rw[List.pairwise_iff_getElem];intro i j hi C cA;have h1:=aE i _ (List.getElem?_eq_getElem hi);have h2:=aE j _ (List.getElem?_eq_getElem C);omega
   ·intro a ha d hd;have:=aL a ha;obtain⟨j,C⟩:=List.mem_iff_getElem?.1 hd;rw[List.getElem?_drop]at C;have h2:=LC O.F6 C (n:=c) (by omega);have h3:=T d (List.mem_of_getElem? C);omega
   ·intro a ha d hd;obtain⟨j,C⟩:=List.mem_iff_getElem?.1 ha;rw[List.getElem?_take]at C;split at C
    ·rename_i hj2;have h1:=FP C hj2;rcases List.mem_append.1 hd with hd|hd
     ·have:=aL d hd;omega
     ·obtain⟨i,hi⟩:=List.mem_iff_getElem?.1 hd;rw[List.getElem?_drop]at hi;have h2:=LC O.F6 hi (n:=c) (by omega);omega
    ·cases C
  ·rcases(aI y).1 J with h|h
   ·have:=aL y h;omega
   ·exact O.Oo y h
  ·rw[a0.2.1,O.l0];constructor
   ·rintro(⟨y,J,aJ⟩|⟨h1,h2⟩)
    ·exact⟨y,(aI y).2 (.inr J),aJ⟩
    ·have hg:=List.getElem?_eq_getElem (l:=M) (i:=(p/512-c).toNat) (by omega);exact⟨_,(aI _).2 (.inl (List.mem_of_getElem? hg)),by rw[aE _ _ hg];omega⟩
   ·rintro⟨y,J,aJ⟩;rcases(aI y).1 J with h|h
    ·have:=aL y h;exact .inr (by omega)
    ·exact .inl ⟨y,h,aJ⟩
  ·rw[a1.2.1,a0.2.1,O.l1,<-hU'];dsimp only;by_cases e:c*512<=p/\p<(c+n)*512
   ·rw[if_pos e];simp[e]
   ·rw[if_neg e];simp[e]
  ·rw[a2.2.1,a0.2.1,O.l2,<-hG'];dsimp only;by_cases e:c*512<=p/\p<(c+n)*512
   ·rw[if_pos e];simp[e]
   ·rw[if_neg e];simp[e]
  ·have h1:Sat (Ap (KV E U' G') M::Ap (KV E U' G') L::Cells r E.Bq [.slice aB.base aB.len aB.cap]::Row E.Ah 2 aB (parts N)::Row E.Ah 2 s (parts L)::Z) a4:=
    aQ.perm (List.Perm.trans (List.Perm.trans (.cons _ (.swap _ _ _)) (.swap _ _ _)) (.cons _ (List.Perm.trans (.cons _ (.swap _ _ _)) (.swap _ _ _))))
   have h2:=(Sat.ZC.2 h1).Jk a5;exact(h2.front 3 rfl).tail.perm (List.Perm.trans (.swap _ _ _) (.cons _ (.swap _ _ _)))
end
end Go.Sh
set_option linter.all false
set_option maxRecDepth 4000
set_option maxHeartbeats 1000000
namespace Go.Sh
section
variable{E:Env}{w:World}{Z:List Pr}{r:Nat}{l:Nat->Iv}
theorem UO{U G:Int->Bool}{c:Int×Nat}(H:Sat (KV E U G c::Z) w){n:Int}(hn:0<=n)(aT:n<=512){K:Int->Int->World->Prop}
  (aF:n<1∨(∀k,0<=k->k<512->(U (c.1*512+k)||G (c.1*512+k))=true)-> ∀w',Sat (KV E U G c::Z) w'->K 0 0 w')
  (aE:1<=n-> ∀e i,0<=i->i<=e->e<512->(∀k,e<k->k<512->(U (c.1*512+k)||G (c.1*512+k))=true)->(∀k,i<=k->k<=e->(U (c.1*512+k)||G (c.1*512+k))=false)->e-i+1<=n->
   (e-i+1=n∨i=0∨(U (c.1*512+(i-1))||G (c.1*512+(i-1)))=true)-> ∀w',Sat (KV E U (fun p=>if c.1*512+i<=p/\p<=c.1*512+e then true else G p) c::Z) w'->K i (e-i+1) w'):
  F.BC E (some ⟨c.2,0,none⟩) n K w:=by
 unfold F.BC T0.BC;simp only[AI,Nat.mul_one];have e1:(Array.replicate 512 (Value.bool false))=⟨flags 512 fun _=>false⟩:=by apply Array.ext';simp only[Array.toList_replicate];exact JH 512 false
 rw[e1];refine Am H fun b1 w2 H2 _=> ?_;have aB: ∀(v:Int->Bool),lZ (flags 512 v) 0 v:=fun v=>⟨by rw[As];omega,fun k h0 h1=>He (n:=512) h0 h1⟩;refine AM (fun st w'=>0<=st.1/\st.1<=512/\Sat (Cells b1 E.D9 (flags 512 fun k=>if k<st.1 then(U (c.1*512+k)||G (c.1*512+k))else false)::KV E U G c::Z) w') (fun st _=>(512-st.1).toNat) ⟨by decide,by decide,?_⟩ ?_
 ·have:(flags 512 fun k=>if k<(0:Int)then(U (c.1*512+k)||G (c.1*512+k))else false)=flags 512 fun _=>false:=Dz fun k h0 _=>by rw[if_neg (by omega)]
  dsimp only;rw[this];exact H2
 rintro⟨i,v⟩ _ w4 ⟨i0,i1,N⟩;dsimp only at i0 i1 N⊢;refine AE (fun d=> ?_) fun aX=> ?_
 ·have hU:=(N.front 1 rfl).cell ((VQ (U:=U) (G:=G) c).2 i i0 d);have hG:=(N.front 1 rfl).cell (o:=512) ((Qq (U:=U) (G:=G) c).2 i i0 d);have aG:w4.cell? (((Addr.mk c.2 0 none).add 512).add i.toNat)=some (.bool (G (c.1*512+i))):=by rw[add_eq c.2 0 512,Nat.zero_add];exact hG
  rw[AN (n:=i+1)];have C: ∀w',Sat (Cells b1 E.D9 ((flags 512 fun k=>if k<i then(U (c.1*512+k)||G (c.1*512+k))else false).set (0+i.toNat) (.bool (U (c.1*512+i)||G (c.1*512+i))))::KV E U G c::Z) w'->
    (0<=i+1/\i+1<=512/\Sat (Cells b1 E.D9 (flags 512 fun k=>if k<i+1 then(U (c.1*512+k)||G (c.1*512+k))else false)::KV E U G c::Z) w')/\(512-(i+1)).toNat<(512-i).toNat:=fun w' h=>by
   refine⟨⟨by omega,by omega,?_⟩,by omega⟩;rw[Ib i0]at h;have:(flags 512 fun k=>if k<i+1 then(U (c.1*512+k)||G (c.1*512+k))else false)=flags 512 fun j=>if j=i then(U (c.1*512+i)||G (c.1*512+i))else if j<i then(U (c.1*512+j)||G (c.1*512+j))else false:=Dz fun k _ _=>by
    by_cases e:k=i
    ·rw[if_pos e,if_pos (by omega),e]
    ·rw[if_neg e];by_cases e2:k<i
     ·rw[if_pos e2,if_pos (by omega)]
     ·rw[if_neg e2,if_neg (by omega)]
   rw[this];exact h
  refine⟨⟨i0,d⟩,_,hU,AR (fun e=>⟨⟨i0,d⟩,Aj N rfl (by rw[As];omega) fun w8 H8=>C w8 ?_⟩) fun e=>⟨⟨i0,d⟩,_,aG,⟨i0,d⟩,Aj N rfl (by rw[As];omega) fun aD aC=>C aD ?_⟩⟩
  ·have e':U (c.1*512+i)=true:=e;rw[e',Bool.true_or];exact H8
  ·have e':U (c.1*512+i)=false:=e;rw[e',Bool.false_or];exact aC
 ·have aA:i=512:=by omega
  subst aA;have ef:(flags 512 fun k=>if k<(512:Int)then(U (c.1*512+k)||G (c.1*512+k))else false)=flags 512 fun k=>(U (c.1*512+k)||G (c.1*512+k)):=Dz fun k _ h=>by rw[if_pos (by omega)]
  rw[ef]at N;have Y: ∀{w'},Sat (Cells b1 E.D9 (flags 512 fun k=>(U (c.1*512+k)||G (c.1*512+k)))::KV E U G c::Z) w'->Sat (KV E U G c::Z) w':=fun h=>h.tail;have hlen: ∀(A B:Int->Bool),(flags 512 A++flags 512 B).length=1024:=fun A B=>by rw[List.length_append,As,As]
  refine UM N (aB _) (by omega) (by omega) (fun aH=> ?_) fun aI e i h0 h1 h2 h3 h4 h5 h6=> ?_
  ·rw[add_eq c.2 0 512,Nat.zero_add];refine Mc (Y N) (o:=512) (by rw[hlen];omega) (by omega) (by omega) (by omega) true fun O T hl hv J=>aF aH O ?_;have:T=flags 512 (fun k=>U (c.1*512+k))++flags 512 (fun k=>G (c.1*512+k)):=by
    apply List.ext_getElem?;intro j;rw[hv j,if_neg (by omega)]
   rw[this]at J;exact J
  ·rw[add_eq c.2 0 512,Nat.zero_add];refine Mc (Y N) (o:=512) (by rw[hlen];omega) (by omega) (by omega) (by omega) true fun O T hl hv J=>aE aI e i h0 h1 h2 h3 h4 h5 h6 O ?_;have:T=flags 512 (fun k=>U (c.1*512+k))++flags 512 (fun k=>if c.1*512+i<=c.1*512+k/\c.1*512+k<=c.1*512+e then true else G (c.1*512+k)):=by
    apply List.ext_getElem?;intro j;rw[hv j];by_cases g1:j<512
    ·rw[if_neg (by omega),List.getElem?_append_left (by rw[As];omega),List.getElem?_append_left (by rw[As];omega)]
    ·by_cases g2:j<1024
     ·rw[List.getElem?_append_right (by rw[As];omega),List.getElem?_append_right (by rw[As];omega),As,E4 (by omega),E4 (by omega)];by_cases g3:512+i.toNat<=j/\j<512+(i+(e-i+1)).toNat
      ·rw[if_pos g3,if_pos (by omega)]
      ·rw[if_neg g3,if_neg (by omega)]
     ·rw[if_neg (by omega),List.getElem?_eq_none (by rw[hlen];omega),List.getElem?_eq_none (by rw[hlen];omega)]
   rw[this]at J;exact J
theorem UP(H:Sat (D6 E r l::Z) w)(hT:Vr l)(aC:Ok (l 3)){n:Int}(hn:0<=n)(bP:n<18446744073709551616){K:Int->Int->World->Prop}
  (a5:l 3=[]∨n=0-> ∀w',Sat (D6 E r l::Z) w'->K 0 0 w')
  (a9:n≠0-> ∀q m,l 3=m++[q]-> ∀p k,k=min (q.2-max q.1 ((q.2-1)/512*512)) n->p=q.2-k-> ∀w',(∀l',l' 0=l 0->l' 1=l 1->l' 2=Bk (l 2) p (p+k)->Sat (D6 E r l'::Z) w')->K p k w'):
  F.A6 E (some ⟨r,0,none⟩) n K w:=by
 obtain⟨s,L,U,G,C,H⟩:=Sat.Fo.1 H;have back: ∀{w'},Sat (Ge E r s L U G++Z) w'->Sat (D6 E r l::Z) w':=fun h=>Sat.Fo.2 ⟨s,L,U,G,C,h⟩;unfold F.A6 T0.A6;simp only[AI];have bE:=Hn C.F6 C.Oo;have hlen:=HF H;have d: ∀c∈L,∀k,0<=k->k<512->(mem (l 3) (c.1*512+k)↔(U (c.1*512+k)||G (c.1*512+k))=false):=fun c hc k h0 h1=>by
  have hm:mem (l 0) (c.1*512+k):=(C.l0 _).2 ⟨c,hc,by omega⟩;rw[hT.idle,C.l1,C.l2,Bool.or_eq_false_iff];simp[hm]
 have aG: ∀p,mem (l 3) p-> ∃c∈L,c.1=p/512:=fun p hp=>(C.l0 p).1 ((C.l1 p).1 ((hT.idle p).1 hp).1).1;refine Et (fun st w'=>w'=w/\st.1=min n 512) ?_ ?_
 ·exact AE (fun h=>⟨rfl,by dsimp only;omega⟩) fun h=>⟨rfl,by dsimp only;omega⟩
 rintro⟨mo,v⟩ _ w3 ⟨rfl,aN⟩;dsimp only at aN⊢;subst aN;refine⟨s,C9 H,AY fun i0 a4=> ?_⟩;rw[AN (n:=(s.len:Int)-1)]at a4;rw[AN (n:=min n 512)];refine AM (fun st w'=> -1<=st.1/\st.1<L.length/\(n=0∨ ∀(j:Nat) c,st.1<(j:Int)->L[j]? =some c-> ∀k,0<=k->k<512-> ¬mem (l 3) (c.1*512+k))/\Sat (Ge E r s L U G++Z) w') (fun st _=>(st.1+1).toNat)
  ⟨by dsimp only;omega,by dsimp only;omega,.inr fun j c O hc=>by have:=(List.getElem?_eq_some_iff.1 hc).1;dsimp only at O;omega,H⟩ ?_
 rintro⟨i,v⟩ _ w8 ⟨i1,i2,aE,H8⟩;dsimp only at i1 i2 aE⊢;refine AE (fun a7=>⟨s,C9 H8,?_⟩) fun bS=> ?_
 ·have T:=List.getElem?_eq_getElem (show i.toNat<L.length by omega);obtain⟨a,ha,bI,c1,c2⟩:=GO H8 T;generalize L[i.toNat]=c at T c1 c2;have aB:=List.mem_of_getElem? T;have bR:=C.Oo c aB;rw[ha];simp only[AI];have aQ:(0:Int)<=i/\i<(s.len:Int):=⟨a7,by omega⟩;refine⟨aQ,_,c2,?_⟩;refine UO (Ho H8 T) (by omega) (by omega) (fun a8 aR aA=> ?_) fun bH e J h0 h1 h2 h3 h4 h5 h6 aR aA=> ?_
  ·refine Ab (by decide) ?_;rw[AN (n:=i-1)];refine⟨⟨by omega,by omega,?_,?_⟩,by omega⟩
   ·rcases aE with h|h
    ·exact .inl h
    rcases a8 with h'|h'
    ·left;omega
    ·right;intro j c' O aJ k k0 k1 hm;by_cases ej:(j:Int)=i
     ·have:j=i.toNat:=by omega
      subst this;rw[T]at aJ;cases aJ;have:=h' k k0 k1;rw[(d c aB k k0 k1).1 hm]at this;cases this
     ·exact h j c' (by omega) aJ k k0 k1 hm
   ·have h7:=aA.Hf T;exact h7.perm (List.Perm.trans (.swap _ _ _) (.cons _ (.swap _ _ _)))
  ·have aZ:n≠0:=by omega
   have a0: ∀(j:Nat) c,i<(j:Int)->L[j]? =some c-> ∀k,0<=k->k<512-> ¬mem (l 3) (c.1*512+k):=aE.resolve_left aZ;refine Ao (decide_eq_true (by omega)) ?_;have aM:=(aA.front 3 rfl).own;refine⟨s,(aA.front 2 rfl).BI rfl,?_⟩;rw[ha];simp only[AI];refine⟨aQ,_,aM.cell ha (KU L T).1,AY fun t ht=> ?_⟩;rw[AG (n:=c.1*512),AG (n:=J),AG (n:=c.1*512+J)]at ht;rw[AG (n:=e-J+1)];have Y:mem (l 3) (c.1*512+e):=(d c aB e (by omega) h2).2 (h4 e h1 (Int.le_refl _));have aV: ∀k,J<=k->k<=e->mem (l 3) (c.1*512+k):=fun k k0 k1=>(d c aB k (by omega) (by omega)).2 (h4 k k0 k1);have aY: ∀p,mem (l 3) p->p<=c.1*512+e:=fun p hp=>by
    obtain⟨y,N,aT⟩:=aG p hp;obtain⟨j,O⟩:=List.mem_iff_getElem?.1 N;rcases Int.lt_trichotomy (j:Int) i with g|g|g
    ·have:=List.pairwise_iff_getElem.1 C.F6 j i.toNat (List.getElem?_eq_some_iff.1 O).1 (List.getElem?_eq_some_iff.1 T).1 (by omega);rw[(List.getElem?_eq_some_iff.1 O).2,(List.getElem?_eq_some_iff.1 T).2]at this;omega
    ·have:j=i.toNat:=by omega
     subst this;rw[T]at O;cases O;refine Classical.byContradiction fun g2=> ?_;have h7:=(d c aB (p-c.1*512) (by omega) (by omega)).1 (by rwa[show c.1*512+(p-c.1*512)=p by omega]);rw[h3 (p-c.1*512) (by omega) (by omega)]at h7;cases h7
    ·have h7:=a0 j y g O (p-y.1*512) (by omega) (by omega);rw[show y.1*512+(p-y.1*512)=p by omega]at h7;exact absurd hp h7
   obtain⟨m,q,aD⟩: ∃m q,l 3=m++[q]:=by
    rcases List.eq_nil_or_concat (l 3)with h|⟨m,q,h⟩
    ·rw[h]at Y;exact absurd Y (Ar _)
    ·exact⟨m,q,by rw[h,List.concat_eq_append]⟩
   have aO:Ok (m++[q]):=by rw[<-aD];exact aC
   obtain⟨_,aH,aF⟩:=DL.1 aO;have bG:=aH.mem List.mem_cons_self;have aU: ∀p,q.1<=p->p<q.2->mem (l 3) p:=fun p a b=>by rw[aD,mem_append];exact .inr (mem_cons.2 (.inl ⟨a,b⟩))
   have bJ:q.2=c.1*512+e+1:=by
    have g1:=aY (q.2-1) (aU _ (by omega) (by omega));rw[aD,mem_append]at Y;rcases Y with ⟨y,N,aX,aT⟩|Y
    ·have:=aF y N q (by simp);omega
    ·rcases mem_cons.1 Y with h|h
     ·omega
     ·exact absurd h (Ar _)
   have bD:q.1<=c.1*512+J:=by
    obtain⟨y,N,aX,aT⟩:=NX aC (a:=c.1*512+J) (b:=c.1*512+e+1) (by omega) fun p a b=>by
     have:=aV (p-c.1*512) (by omega) (by omega);rwa[show c.1*512+(p-c.1*512)=p by omega]at this
    rw[aD,List.mem_append]at N;rcases N with N|N
    ·have:=aF y N q (by simp);omega
    ·rw[List.mem_singleton]at N;subst N;exact aX
   have hdiv:(q.2-1)/512*512=c.1*512:=by omega
   have hk:e-J+1=min (q.2-max q.1 ((q.2-1)/512*512)) n:=by
    rw[hdiv];rcases h6 with h|h|h
    ·by_cases g:n<=512
     ·omega
     ·omega
    ·omega
    ·by_cases g:J=0
     ·omega
     ·have: ¬mem (l 3) (c.1*512+(J-1)):=fun hm=>by
       rw[(d c aB (J-1) (by omega) (by omega)).1 hm]at h;cases h
      have h8: ¬(q.1<=c.1*512+(J-1)):=fun g=>this (aU _ g (by omega));omega
   have aW: ∀p,c.1*512+J<=p->p<=c.1*512+e->mem (l 3) p:=fun p a b=>by
    have:=aV (p-c.1*512) (by omega) (by omega);rwa[show c.1*512+(p-c.1*512)=p by omega]at this
   subst ht;refine a9 aZ q m aD (c.1*512+J) (e-J+1) hk (by omega) aR fun l' l0 l1 l2=> ?_;have a2:=CQ C.IT (a:=c.1*512+J) (b:=c.1*512+J+(e-J+1)) (by omega) (by omega) (by omega);rw[<-l2]at a2;refine Sat.Fo.2 ⟨s,L,U,fun p=>if c.1*512+J<=p/\p<=c.1*512+e then true else G p,⟨C.F6,C.Oo,by rw[l0];exact C.Tr,by rw[l1];exact C.Gz,a2.1,by rw[l0];exact C.l0,by rw[l0,l1];exact C.l1,fun p=> ?_⟩,?_⟩
   ·rw[a2.2.1,C.l2,l0];by_cases g:c.1*512+J<=p/\p<=c.1*512+e
    ·rw[if_pos g];have:=(C.l1 p).1 ((hT.idle p).1 (aW p g.1 g.2)).1;simp[this.1];omega
    ·rw[if_neg g];constructor
     ·rintro(h|h)
      ·exact h
      ·omega
     ·exact fun h=>.inl h
   ·have em:Ap (KV E U G) (L.eraseIdx i.toNat)=Ap (KV E U fun p=>if c.1*512+J<=p/\p<=c.1*512+e then true else G p) (L.eraseIdx i.toNat):=by
     refine Ap.congr fun y N=> ?_;have bM:y.1≠c.1:=by
      intro e;obtain⟨j,O⟩:=List.mem_iff_getElem?.1 N;rw[List.getElem?_eraseIdx]at O;have aS:=(List.getElem?_eq_some_iff.1 T).1;split at O
      ·rename_i hjl;have:=List.pairwise_iff_getElem.1 C.F6 j i.toNat (by omega) aS hjl;rw[(List.getElem?_eq_some_iff.1 O).2,(List.getElem?_eq_some_iff.1 T).2]at this;omega
      ·rename_i hjl;obtain⟨h3,h4⟩:=List.getElem?_eq_some_iff.1 O;have:=List.pairwise_iff_getElem.1 C.F6 i.toNat (j+1) aS h3 (by omega);rw[h4,(List.getElem?_eq_some_iff.1 T).2]at this;omega
     unfold KV;congr 2;refine Dz fun k k0 k1=> ?_;dsimp only;rw[if_neg (by omega)]
    rw[em]at aA;exact(aA.Hf T).perm (List.Perm.trans (.swap _ _ _) (.cons _ (.swap _ _ _)))
 ·refine a5 ?_ w8 (back H8);rcases aE with h|h
  ·exact .inr h
  ·left;cases h3:l 3 with
   | nil=>rfl
   | cons y t=>
    exfalso;have N:=aC.mem (p:=y) (by rw[h3];simp);have hm:mem (l 3) y.1:=⟨y,by rw[h3];simp,Int.le_refl _,N.2.1⟩;obtain⟨c,hc,bF⟩:=aG _ hm;obtain⟨j,O⟩:=List.mem_iff_getElem?.1 hc;have:=h j c (by omega) O (y.1-c.1*512) (by omega) (by omega);rw[show c.1*512+(y.1-c.1*512)=y.1 by omega]at this;exact this hm
end
end Go.Sh
set_option linter.all false
set_option maxRecDepth 4000
set_option maxHeartbeats 1000000
namespace Go.Sh
section
variable{E:Env}{w:World}{Z:List Pr}{r:Nat}{l:Nat->Iv}
theorem aM{L:CL}(hs:IM L){m:Iv}(hm:Ok m)(K: ∀p,mem m p-> ∃c∈L,c.1=p/512){i:Nat}{c:Int×Nat}(J:L[i]? =some c)(Y:0<=c.1){B:Int}(C:0<=B)(N:B<=c.1*512)
  (v: ∀(j:Nat) c',j<i->L[j]? =some c'->(c'.1+1)*512<=B):cnt m 0 ((c.1+1)*512)=cnt m 0 B+cnt m (c.1*512) (c.1*512+512):=by
 rw[IB (Ok.TR hm) (a:=0) (m:=B) (b:=(c.1+1)*512) C (by omega),IB (Ok.TR hm) (a:=B) (m:=c.1*512) (b:=(c.1+1)*512) N (by omega)];have:cnt m B (c.1*512)=0:=(CU hm N).2 fun p h1 h2 hp=>by
  obtain⟨y,T,O⟩:=K p hp;obtain⟨j,d⟩:=List.mem_iff_getElem?.1 T;rcases Nat.lt_trichotomy j i with g|g|g
  ·have:=v j y g d;omega
  ·subst g;rw[J]at d;have:=Option.some.inj d;subst this;omega
  ·have:=List.pairwise_iff_getElem.1 hs i j (List.getElem?_eq_some_iff.1 J).1 (List.getElem?_eq_some_iff.1 d).1 g;rw[(List.getElem?_eq_some_iff.1 J).2,(List.getElem?_eq_some_iff.1 d).2]at this;omega
 rw[this,show(c.1+1)*512=c.1*512+512 by omega];omega
theorem aN{L:CL}(hs:IM L){m:Iv}(hm:Ok m)(d: ∀p,mem m p-> ∃c∈L,c.1=p/512){B:Int}(C: ∀c∈L,(c.1+1)*512<=B):cnt m 0 B=CK m:=
 IC (Ok.TR hm) fun p hp=>by
  obtain⟨y,v,j⟩:=d p hp;have:=C y v;exact⟨LS hm hp,by omega⟩
theorem Si{L:CL}{U G:Int->Bool}{s:AZ}(N:On l L U G)(H:Sat (Ge E r s L U G++Z) w){m:Iv}(hm:Ok m)(aK: ∀p,mem m p->mem (l 0) p)(F0:Option Addr->(Int->World->Prop)->World->Prop)
  (hF: ∀(i:Nat) c,L[i]? =some c-> ∀K,K (cnt m (c.1*512) (c.1*512+512)) w->F0 (some ⟨c.2,0,none⟩) K w){K:Int->World->Prop}(hK:K (CK m) w):
  Be (Int×Int×Unit) (0,0,()) w fun s1 _ Y T=>
   NC (some (Addr.mk r 0 none)) fun p4=>
   ∃x5:AZ,Y.cell? p4=some (.slice x5.base x5.len x5.cap)/\
   CND (decide ((s1.2.1:Int)<((x5.len:Nat):Int))) (
    NC (some (Addr.mk r 0 none)) fun p6=>
    ∃x7:AZ,Y.cell? p6=some (.slice x7.base x7.len x7.cap)/\
    NC x7.base fun p8=>
    ((0:Int)<=s1.2.1/\(s1.2.1:Int)<(x7.len:Nat))/\
    ∃x9:(Option Addr),Y.cell? ((p8.add (Int.toNat s1.2.1*2)).add 1)=some (.pointer x9)/\
    F0 x9 (fun aH aI=>
    T (i64 (s1.1+aH),i64 (s1.2.1+1),()) aI
    ) Y
   ) (
    K (u64 (s1.1)) Y
   ):=by
 have aT:=Hn N.F6 N.Oo;have hlen:=HF H;have aB: ∀p,mem m p-> ∃c∈L,c.1=p/512:=fun p hp=>(N.l0 p).1 (aK p hp);simp only[AI];have aA: ∀{B:Int},0<=B->0<=cnt m 0 B/\cnt m 0 B<=B:=fun h=>⟨B1 _ _ _,by have:=DY hm h;omega⟩;refine AM (fun st w'=>w'=w/\ ∃(i:Nat) (B:Int),st.2.1=(i:Int)/\i<=L.length/\0<=B/\B<=34359738368/\st.1=cnt m 0 B/\(∀(j:Nat) J,j<i->L[j]? =some J->(J.1+1)*512<=B)/\(∀(j:Nat) J,i<=j->L[j]? =some J->B<=J.1*512)) (fun st _=>(L.length-st.2.1).toNat)
  ⟨rfl,0,0,rfl,Nat.zero_le _,by decide,by decide,?_,fun j J h=>by omega,fun j J _ h=>by have:=N.Oo J (List.mem_of_getElem? h);omega⟩ ?_
 ·exact((CU hm (Int.le_refl _)).2 fun k h1 h2=>by omega).symm
 rintro⟨n,i',v⟩ _ Y ⟨rfl,i,B,hi,aY,aC,a5,hn,O,aD⟩;dsimp only at hi hn⊢;subst hi;subst hn;have a4:=aA aC;refine⟨s,C9 H,AE (fun a6=>⟨s,C9 H,?_⟩) fun aV=> ?_⟩
 ·have C:=List.getElem?_eq_getElem (show i<L.length by omega);obtain⟨a,ha,aW,c1,c2⟩:=GO H C;generalize L[i]=c at C c1 c2;have aL:=N.Oo c (List.mem_of_getElem? C);rw[ha];simp only[AI,Int.toNat_natCast];refine⟨⟨by omega,by omega⟩,_,c2,hF i c C _ ?_⟩;have aJ:=aM N.F6 hm aB C aL.1 aC (aD i c (Nat.le_refl _) C) O;have aS:=aA (B:=(c.1+1)*512) (by omega);rw[AN (n:=(i:Int)+1),<-aJ,AN];refine⟨⟨by trivial,i+1,(c.1+1)*512,by omega,by omega,by omega,by omega,by trivial,fun j J hj d=> ?_,fun j J hj d=> ?_⟩,by omega⟩
  ·by_cases e:j=i
   ·subst e;rw[C]at d;have:=Option.some.inj d;subst this;omega
   ·have:=List.pairwise_iff_getElem.1 N.F6 j i (List.getElem?_eq_some_iff.1 d).1 (List.getElem?_eq_some_iff.1 C).1 (by omega);rw[(List.getElem?_eq_some_iff.1 d).2,(List.getElem?_eq_some_iff.1 C).2]at this;omega
  ·have:=List.pairwise_iff_getElem.1 N.F6 i j (List.getElem?_eq_some_iff.1 C).1 (List.getElem?_eq_some_iff.1 d).1 (by omega);rw[(List.getElem?_eq_some_iff.1 d).2,(List.getElem?_eq_some_iff.1 C).2]at this;omega
 ·rw[AG,aN N.F6 hm aB fun c hc=>by
   obtain⟨j,hj⟩:=List.mem_iff_getElem?.1 hc;have:=(List.getElem?_eq_some_iff.1 hj).1;exact O j c (by omega) hj]
  exact hK
theorem Ox(H:Sat (D6 E r l::Z) w){K:Int->World->Prop}(j:K (CK (l 2)) w):F.A4 E (some ⟨r,0,none⟩) K w:=by
 obtain⟨s,L,U,G,d,H⟩:=Sat.Fo.1 H;unfold F.A4 T0.A4;refine Si d H d.IT (fun p hp=>((d.l2 p).1 hp).1) (F.BB E) (fun i c C K j=> ?_) j;unfold F.BB T0.BB;simp only[AI];rw[add_eq,Nat.zero_add];refine Se (Ho H C) (Qq c) ?_;have v:=List.mem_of_getElem? C;rw[Xt d.IT (fr:=c.1*512) fun k h0 h1=>by
  rw[d.l2];have:mem (l 0) (c.1*512+k):=(d.l0 _).2 ⟨c,v,by omega⟩;simp[this]]
 exact j
theorem Sj(H:Sat (D6 E r l::Z) w){K:Int->Bool->World->Prop}(d: ∀w',Sat (D6 E r l::Z) w'->K ((findL (l 1) 1).getD 0) (findL (l 1) 1).isSome w'):F.BL E (some ⟨r,0,none⟩) K w:=by
 unfold F.BL T0.BL;exact Ow H (by decide) (by decide) fun w' h=>d w' h
end
end Go.Sh
set_option linter.all false
set_option maxRecDepth 4000
set_option maxHeartbeats 2000000
namespace Go.Sh
def IV(E:Env)(r:Nat)(V:TV):Pr:=Ex fun l:Nat->Iv=>ID (LV l V/\ ∀i,i<4->Ok (l i)) (D6 E r l)
section
variable{E:Env}{w:World}{Z:List Pr}{r t:Nat}{V:TV}{l:Nat->Iv}
theorem Sat.UQ:Sat (IV E r V::Z) w↔ ∃l,(LV l V/\ ∀i,i<4->Ok (l i))/\Sat (D6 E r l::Z) w:=by
 unfold IV;rw[Sat.ex];constructor
 ·rintro⟨l,h⟩;exact⟨l,Sat.where.1 h⟩
 ·rintro⟨l,h⟩;exact⟨l,Sat.where.2 h⟩
theorem LV.congr{l l':Nat->Iv}(h:LV l V)(h0:l' 0=l 0)(h1:l' 1=l 1)(d:l' 2=l 2):LV l' V:=⟨by rw[h0];exact h.i,by rw[h1];exact h.f,by rw[d];exact h.r⟩
theorem KC(h:LV l V)(BH: ∀i,i<3->Ok (l i))(H: ∀l',l' 0=l 0->l' 1=l 1->l' 2=l 2->Sat (D6 E r l'::Z) w):Sat (IV E r V::Z) w:=by
 refine Sat.UQ.2 ⟨fun i=>if i<3 then l i else [],⟨h.congr rfl rfl rfl,fun i d=> ?_⟩,H _ rfl rfl rfl⟩;by_cases g:i<3
 ·show Ok (if i<3 then l i else []);rw[if_pos g];exact BH i g
 ·show Ok (if i<3 then l i else []);rw[if_neg g];trivial
theorem Qt(H:Sat (IV E r V::Z) w){p:Int}(hp:0<=p)(j:p<18446744073709551616){K:Bool->Bool->Bool->World->Prop}(C: ∀w',Sat (IV E r V::Z) w'->K (V.Fb p) (V.fr p) (V.rl p) w'):
  F.BA E (some ⟨r,0,none⟩) p K w:=by
 obtain⟨l,d,H⟩:=Sat.UQ.1 H;obtain⟨s,L,U,G,v,H⟩:=Sat.Fo.1 H;refine M6 v H hp j fun w' r0 N Y h0 h1 O H'=> ?_;have T:r0=V.Fb p:=Bool.eq_iff_iff.2 (h0.trans (d.1.i p));have J:N=V.fr p:=Bool.eq_iff_iff.2 (h1.trans (d.1.f p));have e2:Y=V.rl p:=Bool.eq_iff_iff.2 (O.trans (d.1.r p));rw[T,J,e2];exact C w' (Sat.UQ.2 ⟨l,d,Sat.Fo.2 ⟨s,L,U,G,v,H'⟩⟩)
theorem NP(H:Sat (IV E r V::Z) w){K:Int->World->Prop}(j:K (NT V.rl) w):F.A4 E (some ⟨r,0,none⟩) K w:=by
 obtain⟨l,d,H⟩:=Sat.UQ.1 H;refine Ox H ?_;rw[<-R4 (d.2 2 (by decide)) d.1.r];exact j
theorem Qu(H:Sat (IV E r V::Z) w)(j: ∀p,V.fr p=true->0<=p/\p<34359738368){K:Int->Bool->World->Prop}(N:(∀p,V.fr p=false)-> ∀w',Sat (IV E r V::Z) w'->K 0 false w')
  (J: ∀p,Eh V 1 p-> ∀w',Sat (IV E r V::Z) w'->K p true w'):F.BL E (some ⟨r,0,none⟩) K w:=by
 obtain⟨l,d,H⟩:=Sat.UQ.1 H;refine Sj H fun w' H'=> ?_;have O:=Sat.UQ.2 ⟨l,d,H'⟩;cases hf:findL (l 1) 1 with
 | none=>
  refine N (fun p=> ?_) w' O;cases g:V.fr p with
  | false=>rfl
  | true=>exact absurd ((FW d.1).2 fun m a c=>by rw[show m=p by omega];exact g) (I2 (d.2 1 (by decide)) (by decide) hf p)
 | some p=>
  obtain⟨h1,T⟩:=Hj (d.2 1 (by decide)) (by decide) hf;have v:=(FW d.1).1 h1;have:=j p (v p (Int.le_refl _) (by omega));exact J p ⟨this.1,by omega,v,fun Y C=>T Y ((FW d.1).2 C)⟩ w' O
theorem Qv(H:Sat (IV E r V::Z) w){p:Int}(hp:0<=p)(T:p<34359738368)(j:V.Fb p=true)(hf:V.fr p=true){K:Int->Int->World->Prop}(v: ∀x y w',Sat (IV E r (V.take p 1)::Z) w'->K x y w'):
  F.BE E (some ⟨r,0,none⟩) p 1 K w:=by
 obtain⟨l,⟨d,BH⟩,H⟩:=Sat.UQ.1 H;have N:Ez V p 1:=⟨by decide,by omega,fun m a b=>by rw[show m=p by omega];exact j⟩;have h0:Ae l p 1 true 32=0:=(OO d BH hp (by decide) true (e:=32) (by decide)).2.2.1 N rfl fun m a b=>by rw[show m=p by omega];exact hf
 refine Ou H hp (by omega) (by decide) (by decide) (fun h=>absurd h0 h) fun _ w' H'=>v _ _ w' (KC (l:=Sh.Kh l p 1) (d.Kh (by decide)) (fun i j=> ?_) fun l' Y C O=>H' l' Y C O);have J:i=0∨i=1∨i=2:=by omega
 rcases J with rfl|rfl|rfl
 ·exact BH 0 (by decide)
 ·exact EK (BH 1 (by decide)) (by omega)
 ·exact EK (BH 2 (by decide)) (by omega)
theorem Qw(H:Sat (IV E r V::Z) w)(C: ∀p,V.rl p=true->V.fr p=true){p:Int}{g:Bool}(hp:0<=p)(aE:p<34359738368)(N:V.Fb p=true)(hf:V.fr p=false){K:Int->World->Prop}
  (hK: ∀w',Sat (IV E r (if g then V.back p 1 else V.Ka p 1)::Z) w'->K 0 w'):
  F.A8 E (some ⟨r,0,none⟩) p 1 g K w:=by
 obtain⟨l,⟨d,BH⟩,H⟩:=Sat.UQ.1 H;have hr:Ez V p 1:=⟨by decide,by omega,fun m a b=>by rw[show m=p by omega];exact N⟩;have h0:Ae l p 1 false 31=0:=(OO d BH hp (by decide) false (e:=31) (by decide)).2.2.2.2 hr rfl fun m a b=>by rw[show m=p by omega];exact hf
 have T:=d.JF BH hp (n:=1) (by decide) (by omega);refine Ov H (fun q hq=>(d.f q).2 (C q ((d.r q).1 hq))) hp (by omega) (by decide) (by decide) (fun h=>absurd h0 h) fun _ w' H'=>hK w' ?_;have Y:=(CQ (BH 1 (by decide)) (a:=p) (b:=p+1) (by omega) hp (by omega)).1;have o2:=(CQ (BH 2 (by decide)) (a:=p) (b:=p+1) (by omega) hp (by omega)).1;cases g
 ·refine KC (l:=Sh.JF l 3 p 1) T.1 (fun i N=> ?_) fun l' J j O=>H' l' J j O;have v:i=0∨i=1∨i=2:=by omega
  rcases v with rfl|rfl|rfl
  ·exact BH 0 (by decide)
  ·exact Y
  ·exact BH 2 (by decide)
 ·refine KC (l:=Sh.JF l 2 p 1) T.2 (fun i N=> ?_) fun l' J j O=>H' l' J j O;have v:i=0∨i=1∨i=2:=by omega
  rcases v with rfl|rfl|rfl
  ·exact BH 0 (by decide)
  ·exact Y
  ·exact o2
end
def FQ(B:Int)(u g:Int->Bool):List Value:=.int .u64 B::(flags 64 u++flags 64 g)
structure YL(S:CS)(B:Int)(u g:Int->Bool):Prop where
 b0:0<=B
 b1:B+64<=34359738368
 bs: ¬S.empty->B=S.base
 hs: ∀i:Nat,i<64->u i=S.has i
 rl: ∀i:Nat,i<64->S.rel i=(S.has i&&g i)
 hz: ∀i:Nat,64<=i->S.has i=false
section
variable{E:Env}{w:World}{Z:List Pr}{r t q c b ty:Nat}{V:TV}{S:CS}{B:Int}{u g:Int->Bool}
theorem l8{i:Int}(h0:0<=i)(h1:i<64):(FQ B u g)[1+i.toNat]? =some (.bool (u i)):=by
 show(Value.int .u64 B::(flags 64 u++flags 64 g))[1+i.toNat]? =_;rw[Nat.add_comm,List.getElem?_cons_succ,List.getElem?_append_left (by rw[As];omega)];have:=He (n:=64) (u:=u) h0 (by omega);rwa[Nat.zero_add]at this
theorem l9{i:Int}(h0:0<=i)(h1:i<64):(FQ B u g)[65+i.toNat]? =some (.bool (g i)):=by
 show(Value.int .u64 B::(flags 64 u++flags 64 g))[65+i.toNat]? =_;rw[show 65+i.toNat=(64+i.toNat)+1 by omega,List.getElem?_cons_succ,List.getElem?_append_right (by rw[As];omega),As,show 64+i.toNat-64=i.toNat by omega];have:=He (n:=64) (u:=g) h0 (by omega);rwa[Nat.zero_add]at this
theorem mA{i:Int}(h0:0<=i)(h1:i<64)(x:Bool):(FQ B u g).set (1+i.toNat) (.bool x)=FQ B (fun j=>if j=i then x else u j) g:=by
 unfold FQ;rw[Nat.add_comm,List.set_cons_succ,List.set_append_left _ _ (by rw[As];omega)];have:=Ib (n:=64) (u:=u) h0 x;rw[Nat.zero_add]at this;rw[this]
theorem mB{i:Int}(h0:0<=i)(h1:i<64)(x:Bool):(FQ B u g).set (65+i.toNat) (.bool x)=FQ B u (fun j=>if j=i then x else g j):=by
 unfold FQ;rw[show 65+i.toNat=(64+i.toNat)+1 by omega,List.set_cons_succ,List.set_append_right _ _ (by rw[As];omega),As,show 64+i.toNat-64=i.toNat by omega];have:=Ib (n:=64) (u:=g) h0 x;rw[Nat.zero_add]at this;rw[this]
theorem aO:(FQ B u g).length=129:=by simp[FQ,As]
theorem Sk(v:Nat->Bool)(a m:Nat)(d:a<=m): ∀N,m<N->cN (fun k=>v k&&(decide (a<=k)&&decide (k<m+1))) N=cN (fun k=>v k&&(decide (a<=k)&&decide (k<m))) N+(if v m then 1 else 0)
 | 0,h=>by omega
 | N+1,h=>by
  simp only[cN];rcases Nat.lt_or_eq_of_le (Nat.le_of_lt_succ h)with q|q
  ·rw[Sk v a m d N q];have j:decide (N<m+1)=false:=decide_eq_false (by omega);have C:decide (N<m)=false:=decide_eq_false (by omega);rw[j,C];simp
  ·subst q;have e:cN (fun k=>v k&&(decide (a<=k)&&decide (k<m+1))) m=cN (fun k=>v k&&(decide (a<=k)&&decide (k<m))) m:=Xw fun i K=>by
    have j:decide (i<m+1)=true:=decide_eq_true (by omega);have C:decide (i<m)=true:=decide_eq_true (by omega);rw[j,C]
   rw[e];have j:decide (m<m+1)=true:=decide_eq_true (by omega);have C:decide (m<m)=false:=decide_eq_false (by omega);have J:decide (a<=m)=true:=decide_eq_true d;rw[j,C,J];cases v m<;>simp
theorem aP(v:Nat->Bool)(N:Nat)(h: ∀i,i<N->v i=false):cN v N=0:=by
 induction N with
 | zero=>rfl
 | succ n ih=>simp only[cN];rw[ih fun i d=>h i (by omega),h n (by omega)];simp
end
end Go.Sh
set_option linter.all false
set_option maxRecDepth 4000
set_option maxHeartbeats 2000000
namespace Go.Sh
section
variable{E:Env}{w:World}{Z:List Pr}{r t q c b ty:Nat}{V:TV}{S:CS}{B:Int}{u g:Int->Bool}
end
end Go.Sh
set_option linter.all false
set_option maxRecDepth 4000
set_option maxHeartbeats 2000000
namespace Go.Sh
def qW(A D:List Value)(B:Int)(u g:Int->Bool):List Value:=A++(FQ B u g++D)
def VR(q ty:Nat)(A D:List Value)(S:CS):Pr:=Ex fun x:Int×(Int->Bool)×(Int->Bool)=>ID (YL S x.1 x.2.1 x.2.2) (Cells q ty (qW A D x.1 x.2.1 x.2.2))
section
variable{E:Env}{w:World}{Z:List Pr}{r t q c b ty:Nat}{V:TV}{S:CS}{B:Int}{u g:Int->Bool}{A D:List Value}
theorem Sat.hZ:Sat (VR q ty A D S::Z) w↔ ∃B u g,YL S B u g/\Sat (Cells q ty (qW A D B u g)::Z) w:=by
 unfold VR;rw[Sat.ex];constructor
 ·rintro⟨⟨B,u,g⟩,h⟩;exact⟨B,u,g,Sat.where.1 h⟩
 ·rintro⟨B,u,g,h⟩;exact⟨⟨B,u,g⟩,Sat.where.2 h⟩
theorem UR{i:Nat}(d:i<129):(qW A D B u g)[A.length+i]? =(FQ B u g)[i]? :=by
 unfold qW;rw[List.getElem?_append_right (by omega),show A.length+i-A.length=i by omega,List.getElem?_append_left (by rw[aO];omega)]
theorem US{i:Nat}(d:i<129)(x:Value){B':Int}{u' g':Int->Bool}(h:(FQ B u g).set i x=FQ B' u' g'):(qW A D B u g).set (A.length+i) x=qW A D B' u' g':=by
 unfold qW;rw[List.set_append_right _ _ (by omega),show A.length+i-A.length=i by omega,List.set_append_left _ _ (by rw[aO];omega),h]
theorem YM:(qW A D B u g).length=A.length+129+D.length:=by unfold qW;rw[List.length_append,List.length_append,aO];omega
theorem UT(H:Sat (Cells q ty (qW A D B u g)::Z) w):w.cell? (Addr.mk q A.length none)=some (.int .u64 B):=H.BI (o:=A.length) (by
 have:=UR (A:=A) (D:=D) (B:=B) (u:=u) (g:=g) (i:=0) (by decide);rw[Nat.add_zero]at this;rw[this];rfl)
theorem YN(H:Sat (Cells q ty (qW A D B u g)::Z) w){i:Int}(h0:0<=i)(h1:i<64):w.cell? (((Addr.mk q A.length none).add 1).add (i.toNat*1))=some (.bool (u i)):=by
 rw[add_add,Nat.mul_one];exact H.cell (o:=A.length) (m:=1+i.toNat) (by rw[UR (by omega)];exact l8 h0 h1)
theorem YO(H:Sat (Cells q ty (qW A D B u g)::Z) w){i:Int}(h0:0<=i)(h1:i<64):w.cell? (((Addr.mk q A.length none).add 65).add (i.toNat*1))=some (.bool (g i)):=by
 rw[add_add,Nat.mul_one];exact H.cell (o:=A.length) (m:=65+i.toNat) (by rw[UR (by omega)];exact l9 h0 h1)
theorem mC(H:Sat (Cells q ty (qW A D B u g)::Z) w){x:Int}{K:World->Prop}(j: ∀w',Sat (Cells q ty (qW A D x u g)::Z) w'->K w'):stCells (Addr.mk q A.length none) 0 [.int .u64 x] w K:=by
 refine Gs H (o:=A.length) rfl (by rw[YM];omega) fun w' d=>j w' ?_;have:=US (A:=A) (D:=D) (B:=B) (u:=u) (g:=g) (i:=0) (by decide) (.int .u64 x) (B':=x) (u':=u) (g':=g) rfl;rw[Nat.add_zero]at this;rw[this]at d;exact d
theorem bL(H:Sat (Cells q ty (qW A D B u g)::Z) w){i:Int}(h0:0<=i)(h1:i<64){x:Bool}{K:World->Prop}(v: ∀w',Sat (Cells q ty (qW A D B (fun j=>if j=i then x else u j) g)::Z) w'->K w'):
  stCells (((Addr.mk q A.length none).add 1).add (i.toNat*1)) 0 [.bool x] w K:=by
 rw[add_add,Nat.mul_one];refine Aj H (o:=A.length) (m:=1+i.toNat) rfl (by rw[YM];omega) fun w' d=>v w' ?_;rw[US (by omega) _ (mA h0 h1 x)]at d;exact d
theorem mD(H:Sat (Cells q ty (qW A D B u g)::Z) w){i:Int}(h0:0<=i)(h1:i<64){x:Bool}{K:World->Prop}(v: ∀w',Sat (Cells q ty (qW A D B u (fun j=>if j=i then x else g j))::Z) w'->K w'):
  stCells (((Addr.mk q A.length none).add 65).add (i.toNat*1)) 0 [.bool x] w K:=by
 rw[add_add,Nat.mul_one];refine Aj H (o:=A.length) (m:=65+i.toNat) rfl (by rw[YM];omega) fun w' d=>v w' ?_;rw[US (by omega) _ (mB h0 h1 x)]at d;exact d
theorem L8(H:Sat (VR q ty A D S::Z) w){K:Bool->World->Prop}(C:S.empty->K true w)(J: ¬S.empty->K false w):F.CR E (some ⟨q,A.length,none⟩) K w:=by
 obtain⟨B,u,g,j,H⟩:=Sat.hZ.1 H;unfold F.CR;simp only[AI];refine AM (fun st w'=> ∃i:Nat,st.1=i/\i<=64/\(∀k:Nat,k<i->S.has k=false)/\w'=w) (fun st _=>(64-st.1).toNat) ⟨0,rfl,by decide,fun k T=>by omega,rfl⟩ ?_;rintro⟨i',v⟩ _ w2 ⟨i,O,N,d,rfl⟩;dsimp only at O⊢;subst O;refine AE (fun aA=>⟨⟨by omega,by omega⟩,_,YN H (by omega) (by omega),AR (fun e=>J fun h=> ?_) fun e=> ?_⟩) fun Y=>C fun k=> ?_
 ·rw[j.hs i (by omega)]at e;rw[h i]at e;cases e
 ·rw[AN (n:=(i:Int)+1)];refine⟨⟨i+1,by omega,by omega,fun k T=> ?_,by trivial⟩,by omega⟩;rcases Nat.lt_or_eq_of_le (Nat.le_of_lt_succ T)with g|g
  ·exact d k g
  ·subst g;rw[<-j.hs k (by omega)];exact e
 ·rcases Nat.lt_or_ge k 64 with g|g
  ·exact d k (by omega)
  ·exact j.hz k g
theorem Qx(H:Sat (VR q ty A D S::Z) w){n:Int}(bJ: -9223372036854775808<=n)(bF:n<9223372036854775808){K:Int->Int->Int->World->Prop}
  (aO:n<1∨64<n->K 0 0 1 w)(aR:1<=n->n<=64->(∀i,¬GJ S.has i n.toNat)->K 0 0 30 w)
  (aY:1<=n->n<=64-> ∀i,GJ S.has i n.toNat->(∀j,GJ S.has j n.toNat->i<=j)->i+n.toNat<=64-> ∀w',Sat (VR q ty A D (S.alloc i n.toNat)::Z) w'->
   K (S.base+i) (cN (fun k=>S.rel k&&(decide (i<=k)&&decide (k<i+n.toNat))) 64) 0 w'):F.C4 E (some ⟨q,A.length,none⟩) n K w:=by
 obtain⟨B,u,g,O,H⟩:=Sat.hZ.1 H;unfold F.C4;refine Ax (AE (fun h j=>Ao rfl (aO (.inl h))) fun g1 j=>AE (fun h=>aO (.inr h)) fun g2=> ?_);simp only[AI];generalize hN:n.toNat=N at *
 have bG:n=(N:Int):=by omega
 refine AM (fun st w'=> ∃i run:Nat,st.2.1=i/\st.1=run/\i<=64/\run<=i/\run<N/\(∀k,i-run<=k->k<i->S.has k=true)/\(∀j,GJ S.has j N->i<j+N)/\(run=i∨S.has (i-run-1)=false)/\w'=w) (fun st _=>(64-st.2.1).toNat)
  ⟨0,0,rfl,rfl,by decide,by decide,by omega,fun k _ h=>by omega,fun j _=>by omega,.inl rfl,rfl⟩ ?_
 rintro⟨r',i',v⟩ _ w5 ⟨i,run,hi,hr,a3,a8,bH,aE,Y,aF,rfl⟩;dsimp only at hi hr⊢;subst hi;subst hr;refine AE (fun bK=> ?_) fun bD=> ?_
 ·rw[AN (n:=(run:Int)+1),AN (n:=(i:Int)+1)];have aL:=O.hs i (by omega);refine Ax ⟨⟨by omega,by omega⟩,_,YN H (by omega) (by omega),AR (fun e j=> ?_) fun e j=> ?_⟩
  ·have e:S.has i=false:=by rw[aL]at e;simpa using e
   refine Ao (by simp;omega) ⟨⟨i+1,0,by omega,rfl,by omega,by omega,by omega,fun k h1 h2=>by omega,fun j d=> ?_,.inr (by simpa using e),by trivial⟩,by omega⟩;have:=Y j d;rcases Nat.lt_or_ge (i+1) (j+N)with q|q
   ·exact q
   ·have:=d (i-j) (by omega);rw[show j+(i-j)=i by omega,e]at this;cases this
  ·have e:S.has i=true:=by rw[aL]at e;simpa using e
   have C: ∀k,i-run<=k->k<i+1->S.has k=true:=fun k h1 h2=>by
    rcases Nat.lt_or_eq_of_le (Nat.le_of_lt_succ h2)with q|q
    ·exact aE k h1 q
    ·subst q;exact e
   refine AE (fun a6=>⟨⟨i+1,run+1,by omega,by omega,by omega,by omega,by omega,fun k h1 h2=>C k (by omega) h2,fun j d=> ?_,?_,by trivial⟩,by omega⟩) fun a1=>AY fun a0 J=> ?_
   ·have:=Y j d;rcases Nat.lt_or_ge (i+1) (j+N)with q|q
    ·exact q
    ·rcases aF with h|h
     ·omega
     ·have:=d (i-run-1-j) (by omega);rw[show j+(i-run-1-j)=i-run-1 by omega,h]at this;cases this
   ·rcases aF with h|h
    ·exact .inl (by omega)
    ·exact .inr (by rw[show i+1-(run+1)-1=i-run-1 by omega];exact h)
   ·have a5:run+1=N:=by omega
    have J:a0=((i+1-N:Nat):Int):=by
     rw[AN (n:=(i:Int)-n),AN]at J;omega
    generalize ha:i+1-N=a at J;have aN:GJ S.has a N:=fun k hk=>C _ (by omega) (by omega);subst J;have aK: ¬S.empty:=fun h=>by rw[h i]at e;cases e
    refine AM (fun st w'=> ∃k:Nat,st.2.1=k/\a<=k/\k<=i+1/\st.1=cN (fun j=>S.rel j&&(decide (a<=j)&&decide (j<k))) 64/\Sat (Cells q ty (qW A D B (fun j=>if(a:Int)<=j/\j<k then false else u j) g)::Z) w') (fun st _=>((i:Int)+1-st.2.1).toNat)
     ⟨a,rfl,Nat.le_refl _,by omega,?_,?_⟩ ?_
    ·show(0:Int)=_;rw[aP _ _ fun j d=> ?_];rfl;by_cases q:a<=j
     ·simp[q]
     ·simp[q]
    ·have:(fun j:Int=>if(a:Int)<=j/\j<(a:Int)then false else u j)=u:=by funext j;rw[if_neg (by omega)]
     rw[this];exact H
    rintro⟨cn,k',v⟩ _ aG ⟨k,hk,aV,bC,aJ,T⟩;dsimp only at hk aJ⊢;subst hk;refine AE (fun hle=> ?_) fun bB=> ?_
    ·have aZ:=C k (by omega) (by omega);have aA:=O.rl k (by omega);rw[aZ,Bool.true_and]at aA;have aD:=Sk S.rel a k aV 64 (by omega);have a9:=Us (fun j=>S.rel j&&(decide (a<=j)&&decide (j<k))) 64;rw[AN (n:=cn+1),AN (n:=(k:Int)+1)];have fin: ∀aB:Int,aB=cN (fun j=>S.rel j&&(decide (a<=j)&&decide (j<k+1))) 64->
       ((0:Int)<=(k:Int)/\(k:Int)<(64:Nat))/\stCells (((Addr.mk q A.length none).add 1).add (Int.toNat (k:Int)*1)) 0 [.bool false] aG fun aI=>
        (∃m:Nat,(k:Int)+1=m/\a<=m/\m<=i+1/\aB=cN (fun j=>S.rel j&&(decide (a<=j)&&decide (j<m))) 64/\Sat (Cells q ty (qW A D B (fun j=>if(a:Int)<=j/\j<m then false else u j) g)::Z) aI)/\((i:Int)+1-((k:Int)+1)).toNat<((i:Int)+1-(k:Int)).toNat:=fun aB aM=>by
      refine⟨⟨by omega,by omega⟩,bL T (by omega) (by omega) fun aI aS=>⟨⟨k+1,by omega,by omega,by omega,aM,?_⟩,by omega⟩⟩;have:(fun j:Int=>if(a:Int)<=j/\j<((k+1:Nat):Int)then false else u j)=fun j=>if j=(k:Int)then false else if(a:Int)<=j/\j<(k:Int)then false else u j:=by
       funext j;by_cases q:j=(k:Int)
       ·rw[if_pos (by omega),if_pos q]
       ·rw[if_neg q];by_cases q2:(a:Int)<=j/\j<(k:Int)
        ·rw[if_pos q2,if_pos (by omega)]
        ·rw[if_neg q2,if_neg (by omega)]
      rw[this];exact aS
     refine Ax ⟨⟨by omega,by omega⟩,_,YO T (by omega) (by omega),AR (fun e1 j=>fin _ ?_) fun e1 j=>fin _ ?_⟩
     ·rw[aD,aA,e1,if_pos rfl];omega
     ·rw[aD,aA,e1,if_neg (by decide)];omega
    ·have aH:k=i+1:=by omega
     have CC:=UT T;refine⟨B,CC,AY fun t25 ht=> ?_⟩;have bI:=O.b0;have bE:=O.b1;rw[AN (n:=(i:Int)-n),AN (n:=(i:Int)-n+1),AG (n:=(i:Int)-n+1),AG]at ht;have aU:a+N=i+1:=by omega
     have:=aY (by omega) (by omega) a aN (fun j d=>by have:=Y j d;omega) (by omega) aG (Sat.hZ.2 ⟨B,_,g,⟨O.b0,O.b1,fun _=>O.bs aK,fun j d=> ?_,fun j d=> ?_,fun j d=> ?_⟩,T⟩)
     ·rw[<-O.bs aK,aU,<-aH]at this;rw[ht,aJ,show B+((i:Int)-n+1)=B+(a:Int) by omega];exact this
     ·show(if(a:Int)<=(j:Int)/\(j:Int)<(k:Int)then false else u j)=(S.has j&& !(decide (a<=j)&&decide (j<a+N)));rw[O.hs j d];by_cases q:a<=j/\j<k
      ·have q1:a<=j:=q.1;have q2:j<a+N:=by omega
       rw[if_pos (by omega)];simp[q1,q2]
      ·rw[if_neg (by omega)];have:(decide (a<=j)&&decide (j<a+N))=false:=by
        by_cases q1:a<=j
        ·have: ¬j<a+N:=by omega
         simp[this]
        ·simp[q1]
       rw[this];simp
     ·show(S.rel j&& !(decide (a<=j)&&decide (j<a+N)))=((S.has j&& !(decide (a<=j)&&decide (j<a+N)))&&g j);rw[O.rl j d];cases S.has j<;>cases g j<;>simp
     ·show(S.has j&& !(decide (a<=j)&&decide (j<a+N)))=false;rw[O.hz j d];rfl
 ·refine aR (by omega) (by omega) fun j d=> ?_;have h1:=Y j d;have h2:=d (N-1) (by omega);rw[O.hz _ (by omega)]at h2;cases h2
theorem Sl(H:Sat (VR q ty A D S::IV E r V::Z) w)(aC: ∀p,V.fr p=true->V.Fb p=true)(aA: ∀p,V.rl p=true->V.fr p=true)(aE: ∀p,V.Fb p=true->0<=p/\p<34359738368){K:Int->World->Prop}
  (aU: ¬S.empty-> ∀w',Sat (VR q ty A D S::IV E r V::Z) w'->K 33 w')(aI:S.empty->(∀p,V.fr p=false)-> ∀w',Sat (VR q ty A D S::IV E r V::Z) w'->K 30 w')
  (aQ:S.empty-> ∀p,Eh V 1 p-> ∀w',Sat (VR q ty A D ⟨p/64*64,fun i=>decide (i<64)&&V.fr (p/64*64+i),fun i=>decide (i<64)&&V.rl (p/64*64+i)⟩::IV E r (V.take (p/64*64) 64)::Z) w'->K 0 w'):
  F.BX E (some ⟨q,A.length,none⟩) (some ⟨r,0,none⟩) K w:=by
 unfold F.BX T0.BX;have sw: ∀{P1 P2:Pr} {w'},Sat (P1::P2::Z) w'->Sat (P2::P1::Z) w':=fun h=>h.perm (.swap _ _ _);refine L8 H (fun he=>Ab rfl ?_) fun he=>Ao rfl (aU he w H);refine Qu (sw H) (fun p hp=>aE p (aC p hp)) (fun aR w' H'=>Ao rfl (aI he aR w' (sw H'))) fun p hp w5 H5=>Ab rfl ⟨by decide,?_⟩;have aP:=hp.1;have a0:=hp.2.1;obtain⟨B0,u,g,hI,H6⟩:=Sat.hZ.1 (sw H5);rw[Int.tmod_eq_emod_of_nonneg aP,AG (n:=p-p %64),show p-p %64=p/64*64 by omega];simp only[AI];have N:=aQ he p hp;generalize hB:p/64*64=B at N⊢;have aD:0<=B/\B+64<=34359738368/\B %64=0:=by omega
 refine mC H6 fun w7 H7=> ?_;have H7:Sat (Cells q ty (qW A D B u g)::IV E r V::Z) w7:=H7;have C:V.take B ((0:Nat):Int)=V:=by
  have e: ∀q,inr B ((0:Nat):Int) q=false:=fun q=>Ey.2 (by omega);unfold TV.take;simp only[e];simp
 have T: ∀i:Nat,(V.take B i).take (B+i) 1=V.take B ((i+1:Nat):Int):=fun i=>by
  have e: ∀x,(!inr B ((i+1:Nat):Int) x)=(!inr B i x&& !inr (B+i) 1 x):=fun x=>by
   rw[<-Bool.not_or];congr 1;apply Bool.eq_iff_iff.2;rw[Bool.or_eq_true,AU,AU,AU];omega
  unfold TV.take;simp only[e,Bool.and_assoc]
 refine AM (fun st w'=> ∃i:Nat,st.1=(i:Int)/\i<=64/\Sat (Cells q ty (qW A D B (fun j=>if j<(i:Int)then V.fr (B+j)else u j) (fun j=>if j<(i:Int)then V.rl (B+j)else g j))::IV E r (V.take B i)::Z) w') (fun st _=>(64-st.1).toNat)
  ⟨0,rfl,by decide,?_⟩ ?_
 ·rw[C]
  skip
  have e:qW A D B (fun j=>if j<((0:Nat):Int)then V.fr (B+j)else u j) (fun j=>if j<((0:Nat):Int)then V.rl (B+j)else g j)=qW A D B u g:=by
   have f1:flags 64 (fun j=>if j<((0:Nat):Int)then V.fr (B+j)else u j)=flags 64 u:=Dz fun k h0 h1=>if_neg (by omega);have f2:flags 64 (fun j=>if j<((0:Nat):Int)then V.rl (B+j)else g j)=flags 64 g:=Dz fun k h0 h1=>if_neg (by omega);unfold qW FQ;rw[f1,f2]
  show Sat (Cells q ty (qW A D B (fun j=>if j<((0:Nat):Int)then _ else _) _)::_) w7;rw[e];exact H7
 rintro⟨i',v⟩ _ w9 ⟨i,hi,aX,H9⟩;dsimp only at hi⊢;subst hi;refine AE (fun aF=> ?_) fun a3=> ?_
 ·refine⟨B,UT H9,?_⟩;rw[AG (n:=(i:Int)),AG (n:=B+(i:Int)),AN (n:=(i:Int)+1)];refine Qt (sw H9) (by omega) (by omega) fun a6 aM=>⟨⟨by omega,by omega⟩,bL (sw aM) (by omega) aF fun a5 aK=>⟨⟨by omega,by omega⟩,mD aK (by omega) aF fun bA d=> ?_⟩⟩;have J:inr B (i:Int) (B+i)=false:=Ey.2 (by omega);have Y:(V.take B i).fr (B+i)=V.fr (B+i):=by show(V.fr (B+i)&& !inr B i (B+i))=_;rw[J];simp
  have aG:(V.take B i).rl (B+i)=V.rl (B+i):=by show(V.rl (B+i)&& !inr B i (B+i))=_;rw[J];simp
  rw[Y,aG]at d;have aO:(fun j:Int=>if j=(i:Int)then V.fr (B+i)else if j<(i:Int)then V.fr (B+j)else u j)=fun j=>if j<((i+1:Nat):Int)then V.fr (B+j)else u j:=by
   funext j;by_cases e:j=(i:Int)
   ·rw[if_pos e,if_pos (by omega),e]
   ·rw[if_neg e];by_cases O:j<(i:Int)
    ·rw[if_pos O,if_pos (by omega)]
    ·rw[if_neg O,if_neg (by omega)]
  have aL:(fun j:Int=>if j=(i:Int)then V.rl (B+i)else if j<(i:Int)then V.rl (B+j)else g j)=fun j=>if j<((i+1:Nat):Int)then V.rl (B+j)else g j:=by
   funext j;by_cases e:j=(i:Int)
   ·rw[if_pos e,if_pos (by omega),e]
   ·rw[if_neg e];by_cases O:j<(i:Int)
    ·rw[if_pos O,if_pos (by omega)]
    ·rw[if_neg O,if_neg (by omega)]
  rw[aO,aL]at d;rw[Y];refine AR (fun e=> ?_) fun e=> ?_
  ·refine⟨B,UT d,?_⟩;rw[AG (n:=B+(i:Int))];refine Qv (sw d) (by omega) (by omega) (aC _ e) (by rw[Y];exact e) ?_;intro _ _ a2 aB;refine⟨⟨i+1,by omega,by omega,?_⟩,by omega⟩;rw[T]at aB;exact sw aB
  ·refine⟨⟨i+1,by omega,by omega,?_⟩,by omega⟩;have aH:V.rl (B+i)=false:=by
    cases er:V.rl (B+i)with
    | false=>rfl
    | true=>rw[aA _ er]at e;cases e
   have:V.take B ((i+1:Nat):Int)=V.take B i:=by
    have e1: ∀x,(V.fr x&& !inr B ((i+1:Nat):Int) x)=(V.fr x&& !inr B i x):=fun x=>by
     by_cases hx:x=B+i
     ·rw[hx,e];rfl
     ·have:inr B ((i+1:Nat):Int) x=inr B i x:=Bool.eq_iff_iff.2 (by rw[AU,AU];omega);rw[this]
    have O: ∀x,(V.rl x&& !inr B ((i+1:Nat):Int) x)=(V.rl x&& !inr B i x):=fun x=>by
     by_cases hx:x=B+i
     ·rw[hx,aH];rfl
     ·have:inr B ((i+1:Nat):Int) x=inr B i x:=Bool.eq_iff_iff.2 (by rw[AU,AU];omega);rw[this]
    unfold TV.take;simp only[e1,O]
   rw[this];exact d
 ·have aJ:i=64:=by omega
  subst aJ;refine N w9 (Sat.hZ.2 ⟨B,_,_,⟨aD.1,aD.2.1,fun _=>rfl,fun k hk=> ?_,fun k hk=> ?_,fun k hk=> ?_⟩,H9⟩)
  ·show(if(k:Int)<((64:Nat):Int)then V.fr (B+k)else u k)=(decide (k<64)&&V.fr (B+k));rw[if_pos (by omega)];simp[hk]
  ·show(decide (k<64)&&V.rl (B+k))=((decide (k<64)&&V.fr (B+k))&&(if(k:Int)<((64:Nat):Int)then V.rl (B+k)else g k));rw[if_pos (by omega)];cases er:V.rl (B+k)with
   | false=>simp
   | true=>simp[aA _ er]
  ·show(decide (k<64)&&_)=false;rw[decide_eq_false (by omega)];rfl
end
end Go.Sh
set_option linter.all false
set_option maxRecDepth 4000
set_option maxHeartbeats 1000000
namespace Go.Sh
theorem Sat.aQ{F:List Pr}{w:World}{t:Nat}{s:AZ}{vs us:List Value}(H:Sat (Row t 1 s (vs++us)::F) w):Sat (Row t 1 ⟨s.base,vs.length,s.cap⟩ vs::F) w:=by
 obtain⟨D,h,hs⟩:=H.step;have d:=h.2;have N:vs.length+us.length=s.len:=by have:=d.len;rw[List.length_append]at this;simpa using this
 refine hs w D _ (Ext.refl _ _) ⟨h.1,⟨by simp,by have:=d.cap;simp only;omega,d.top,?_⟩⟩ fun _ K=>.inl K;rcases d.row with h1|⟨b,cs,h1,C,v,J,j⟩
 ·exact .inl h1
 ·refine .inr ⟨b,cs,h1,C,v,J,?_⟩;simp only[Nat.mul_one]at j⊢;rw[show vs.length=min vs.length s.len by omega,<-List.take_take,j,List.take_left'];rfl
def JK(X:FX):List Bool:=(List.range X.n).map fun i=>decide (i∉X.bk)
def HK(X:FX):List Int:=X.bk.reverse.map fun a:Nat=>(a:Int)+1
theorem Fp(X:FX):(JK X).length=X.n:=by simp[JK]
theorem Hp{X:FX}{i:Nat}(h:i<X.n):(JK X)[i]? =some (decide (i∉X.bk)):=by simp[JK,h]
theorem Md(X:FX):(HK X).length=X.bk.length:=by simp[HK]
def bM(E:Env)(b:Nat)(X:FX)(s1 s2:AZ):List Pr:=[Cells b E.GF [.int .i64 64,.int .i64 (X.n:Int),HU s1,HU s2],Row E.Ai 1 s1 (BS (JK X)),Row E.PZ 1 s2 (ints .i64 (HK X))]
def GR(E:Env)(b:Nat)(X:FX):Pr:=Ex fun x:AZ×AZ=>ID (SQ X) (N9 (bM E b X x.1 x.2))
section
variable{E:Env}{b:Nat}{X:FX}{Z:List Pr}{w:World}
theorem Sat.Wc:Sat (GR E b X::Z) w↔ ∃s1 s2,SQ X/\Sat (bM E b X s1 s2++Z) w:=by
 unfold GR;rw[Sat.ex];constructor
 ·rintro⟨⟨s1,s2⟩,h⟩;rw[Sat.where,Sat.star]at h;exact⟨s1,s2,h.1,h.2⟩
 ·rintro⟨s1,s2,h1,d⟩;refine⟨⟨s1,s2⟩,?_⟩;rw[Sat.where,Sat.star];exact⟨h1,d⟩
theorem UU(H:Sat Z w){K:Option Addr->Int->World->Prop}(d: ∀b w',Sat (GR E b ⟨0,[]⟩::Z) w'->K (some ⟨b,0,none⟩) 0 w'):F.Eu E 64 K w:=by
 unfold F.Eu;refine Ax (Ab (by decide) fun j=>Ab (by decide) ?_);refine Am (vs:=[.int .i64 64,.int .i64 0,.slice none 0 0,.slice none 0 0]) H fun b w' v _=>d b w' (Sat.Wc.2 ⟨⟨none,0,0⟩,⟨none,0,0⟩,⟨.nil,fun i h=>(by cases h),by decide⟩,?_⟩);exact((v.nil E.Ai 1).nil E.PZ 1).perm ((List.reverse_perm [_,_,_]).symm.append_right Z)|>.perm (.cons _ (.refl _))
theorem We{X:FX}{a:Nat}{r:List Nat}(C:SQ X)(v:X.bk=a::r):(JK X).set a true=JK ⟨X.n,r⟩:=by
 have d:=C.nd;rw[v,List.nodup_cons]at d;apply List.ext_getElem?;intro i;have J:a<X.n:=C.lt a (by rw[v];simp);rw[List.getElem?_set];by_cases e:a=i
 ·subst e;rw[if_pos rfl,if_pos (by rw[Fp];exact J)];have:=Hp (X:=⟨X.n,r⟩) (i:=a) J;rw[this,decide_eq_true d.1]
 ·rw[if_neg e];by_cases g:i<X.n
  ·rw[Hp g,Hp (X:=⟨X.n,r⟩) g,v];congr 1;rw[decide_eq_decide,List.mem_cons];exact⟨fun h1 j=>h1 (.inr j),fun h1 j=>j.elim (fun q=>e q.symm) h1⟩
  ·rw[List.getElem?_eq_none (by rw[Fp];omega),List.getElem?_eq_none (by rw[Fp];show X.n<=i;omega)]
theorem Wf{X:FX}{a:Nat}(j:a<X.n):(JK X).set a false=JK ⟨X.n,a::X.bk⟩:=by
 apply List.ext_getElem?;intro i;rw[List.getElem?_set];by_cases e:a=i
 ·subst e;rw[if_pos rfl,if_pos (by rw[Fp];exact j)];have:=Hp (X:=⟨X.n,a::X.bk⟩) (i:=a) j;rw[this,decide_eq_false (fun h=>h (by simp))]
 ·rw[if_neg e];by_cases g:i<X.n
  ·rw[Hp g,Hp (X:=⟨X.n,a::X.bk⟩) g];congr 1;rw[decide_eq_decide,List.mem_cons];exact⟨fun h1 d=>d.elim (fun q=>e q.symm) h1,fun h1 d=>h1 (.inr d)⟩
  ·rw[List.getElem?_eq_none (by rw[Fp];omega),List.getElem?_eq_none (by rw[Fp];show X.n<=i;omega)]
theorem YP{X:FX}(d:X.bk=[]):JK X++[true]=JK ⟨X.n+1,[]⟩:=by
 unfold JK;rw[d,List.range_succ];simp
theorem Sm(H:Sat (GR E b X::Z) w)(aN:X.n<1099511627776){K:Int->World->Prop}
  (aG:X.bk=[]-> ∀w',Sat (GR E b ⟨X.n+1,[]⟩::Z) w'->K ((X.n:Int)+1) w')
  (aH: ∀a r,X.bk=a::r-> ∀w',Sat (GR E b ⟨X.n,r⟩::Z) w'->K ((a:Int)+1) w'):F.Dh E (some ⟨b,0,none⟩) K w:=by
 obtain⟨s1,s2,N,H⟩:=Sat.Wc.1 H;have aL:=(H.front 1 rfl).GA;have d:=(H.front 2 rfl).GA;rw[BS,List.length_map,Fp,Nat.mul_one]at aL;rw[ints,List.length_map,Md,Nat.mul_one]at d;unfold F.Dh;simp only[AI];refine⟨s2,H.cell rfl,?_⟩;cases hb:X.bk with
 | nil=>
  rw[hb]at d;simp at d;refine Ab (decide_eq_false (by omega)) ⟨(X.n:Int),H.cell rfl,?_⟩;rw[AN (n:=(X.n:Int)+1)];refine Aj H (o:=0) (m:=1) rfl (by simp) fun aZ Y=>⟨s1,Y.cell rfl,?_⟩;refine Am (vs:=[.bool true]) Y fun aT aW aI _=> ?_;refine IE (news:=[.bool true]) (aI.DF 1 rfl) rfl rfl (by simp[Value.oneCell']) (by omega) (by omega) fun aJ aU aD _=> ?_;refine Aj (aD.front 1 rfl) (o:=0) (m:=2) rfl (by simp) fun aK v=>⟨_,v.cell rfl,aG hb aK (Sat.Wc.2 ⟨aJ,s2,⟨.nil,fun i h=>(by cases h),by show X.n+1<=_;omega⟩,?_⟩)⟩;have e1:BS (JK X)++[.bool true]=BS (JK ⟨X.n+1,[]⟩):=by rw[<-YP hb];simp[BS]
  have e2:HK X=HK ⟨X.n+1,[]⟩:=by unfold HK;rw[hb]
  rw[e1,e2]at v;exact v
 | cons a r=>
  have O:HK X=HK ⟨X.n,r⟩++[(a:Int)+1]:=by unfold HK;rw[hb];simp
  have hlen:(HK ⟨X.n,r⟩).length=r.length:=Md _;rw[hb,List.length_cons]at d;have ha:a<X.n:=N.lt a (by rw[hb];simp);obtain⟨x2,aA⟩:=(H.front 2 rfl).own.HM (by omega);obtain⟨x1,T⟩:=(H.front 1 rfl).own.HM (by omega);have aP:=(H.front 2 rfl).own.cap;have aO:=(H.front 2 rfl).own.top;refine Ao (decide_eq_true (by omega)) ⟨s2,H.cell rfl,?_⟩;rw[AN (n:=((s2.len:Nat):Int)-1),show Int.toNat (((s2.len:Nat):Int)-1)=r.length by omega,aA];simp only[AI];have c6:w.cell? ((Addr.mk x2 0 none).add (r.length*1))=some (.int .i64 ((a:Int)+1)):=by
   refine(H.front 2 rfl).own.cell aA ?_;rw[Nat.mul_one];refine Rn ?_;rw[O,List.getElem?_append_right (by omega),hlen,Nat.sub_self];rfl
  refine⟨⟨by omega,by omega⟩,_,c6,s2,H.cell rfl,⟨by omega,by omega⟩,?_⟩;rw[Jb,AN (n:=(a:Int)+1-1),show Int.toNat ((a:Int)+1-1)=a by omega];refine Aj H (o:=0) (m:=3) rfl (by simp) fun a0 C=>⟨s1,C.cell rfl,?_⟩;rw[T];simp only[AI,Nat.mul_one];refine⟨⟨by omega,by omega⟩,?_⟩;refine Hc (C.front 1 rfl) (j:=a) rfl (by rw[BS,List.length_map,Fp];exact ha) T fun aF J=>aH a r hb aF (Sat.Wc.2 ⟨s1,⟨s2.base,r.length,s2.cap⟩,⟨?_,fun i hi=>N.lt i (by rw[hb];exact .tail _ hi),N.TH⟩,?_⟩)
  ·have:=N.nd;rw[hb,List.nodup_cons]at this;exact this.2
  ·have e1:(BS (JK X)).set a (.bool true)=BS (JK ⟨X.n,r⟩):=by rw[<-We N hb];unfold BS;rw[List.map_set]
   rw[e1]at J;have aB:=J.front 2 rfl;have e2:ints .i64 (HK X)=ints .i64 (HK ⟨X.n,r⟩)++[.int .i64 ((a:Int)+1)]:=by rw[O];simp[ints]
   rw[e2]at aB;have aC:=aB.aQ;have e3:(ints .i64 (HK ⟨X.n,r⟩)).length=r.length:=by rw[ints,List.length_map,hlen]
   rw[e3]at aC;exact aC.front 2 rfl|>.perm (.cons _ (.swap _ _ _))
theorem Sn(H:Sat (GR E b X::Z) w){a:Nat}(O:a<X.n)(J:a∉X.bk)(aE:X.bk.length<1099511627776){K:Int->World->Prop}(hK: ∀w',Sat (GR E b ⟨X.n,a::X.bk⟩::Z) w'->K 0 w'):F.By E (some ⟨b,0,none⟩) ((a:Int)+1) K w:=by
 obtain⟨s1,s2,N,H⟩:=Sat.Wc.1 H;have aC:=(H.front 1 rfl).GA;have aB:=(H.front 2 rfl).GA;have hf:=N.TH;rw[BS,List.length_map,Fp,Nat.mul_one]at aC;rw[ints,List.length_map,Md,Nat.mul_one]at aB;obtain⟨x1,d⟩:=(H.front 1 rfl).own.HM (by omega);have v:w.cell? ((Addr.mk x1 0 none).add (a*1))=some (.bool true):=by
  refine(H.front 1 rfl).own.cell d ?_;rw[Nat.mul_one];refine MR ?_;rw[Hp O,decide_eq_true J]
 unfold F.By T0.By F.EY;simp only[AI];refine Ao (decide_eq_true (by omega)) ⟨(X.n:Int),H.cell rfl,Ao (decide_eq_true (by omega)) ⟨s1,H.cell rfl,?_⟩⟩;rw[AN (n:=(a:Int)+1-1),show Int.toNat ((a:Int)+1-1)=a by omega,d];simp only[AI];refine⟨⟨by omega,by omega⟩,true,v,Ab rfl ⟨s1,H.cell rfl,?_⟩⟩;rw[d];simp only[AI,Nat.mul_one];refine⟨⟨by omega,by omega⟩,Hc (H.front 1 rfl) (j:=a) rfl (by rw[BS,List.length_map,Fp];exact O) d fun w6 H6=>⟨s2,(H6.front 1 rfl).cell rfl,?_⟩⟩;refine Am (vs:=[.int .i64 ((a:Int)+1)]) H6 fun b9 aL T _=> ?_;refine IE (news:=[.int .i64 ((a:Int)+1)]) (T.DF 2 rfl) rfl rfl (by simp[Value.oneCell']) (by omega) (by omega) fun aD aI aA _=> ?_;refine Aj (aA.front 2 rfl) (o:=0) (m:=3) rfl (by simp) fun Y C=>hK Y (Sat.Wc.2 ⟨s1,aD,⟨List.nodup_cons.2 ⟨J,N.nd⟩,fun i hi=>by
  rcases List.mem_cons.1 hi with e|e
  ·rw[e];exact O
  ·exact N.lt i e,N.TH⟩,?_⟩)
 have e1:(BS (JK X)).set a (.bool false)=BS (JK ⟨X.n,a::X.bk⟩):=by rw[<-Wf O];unfold BS;rw[List.map_set]
 have e2:ints .i64 (HK X)++[.int .i64 ((a:Int)+1)]=ints .i64 (HK ⟨X.n,a::X.bk⟩):=by simp[ints,HK]
 rw[e1,e2]at C;exact C.perm (.cons _ (.swap _ _ _))
end
end Go.Sh
set_option linter.all false
set_option maxRecDepth 4000
set_option maxHeartbeats 2000000
namespace Go.Sh
def powL:Nat->Int->Bool
 | 0,n=>n==1
 | k+1,n=>if n>1 then(if Int.tmod n 2=0 then powL k (u64 (Int.tdiv n 2))else n==1)else n==1
def Lt.YQ(s:Lt):Bool:=decide (1<s.l.length)&&(s.last.2.1==i64 (Int.tdiv (bytesF s.size 16 8192) 8192)&&(i64 (Int.tdiv (bytesF s.size 16 8192) s.last.1)==i64 (Int.tdiv (bytesF s.size 16 8192) s.size)))
def Lt.mE(s:Lt):Bool:=(s.YQ==s.same)&&(powL 64 (u64 s.size)==Qk (u64 s.size))
def allOk5:Nat->Lt->Bool
 | 0,_=>true
 | n+1,s=>match s.mE with
  | true=>allOk5 n s.next
  | false=>false
theorem aR:allOk5 rounds (Ki 0)=true:=by decide+kernel
theorem M7: ∀(n k:Nat),allOk5 n (Ki k)=true-> ∀j,j<n->(Ki (k+j)).mE=true
 | 0,k,h,j,hj=>by omega
 | n+1,k,h,j,hj=>by
  unfold allOk5 at h;split at h
  ·rename_i hg;cases j with
   | zero=>exact hg
   | succ j=>have:=M7 n (k+1) h j (by omega);rwa[show k+1+j=k+(j+1) by omega]at this
  ·cases h
theorem mE{k:Nat}(h:k<rounds):(Ki k).YQ=(Ki k).same/\powL 64 (u64 (Ki k).size)=Qk (u64 (Ki k).size):=by
 have:=M7 rounds 0 aR k h;rw[Nat.zero_add]at this;unfold Lt.mE at this;simp only[Bool.and_eq_true,beq_iff_eq]at this;exact this
section
variable{E:Env}{w:World}{Z:List Pr}
theorem Me{n:Int}(O:0<=n)(C:n<18446744073709551616){K:Bool->World->Prop}(d:K (powL 64 n) w):F.FI E n K w:=by
 unfold F.FI;refine AM (fun st w'=>w'=w/\ ∃i:Nat,i<=64/\0<=st.1/\st.1<(2:Int)^(64-i)/\powL (64-i) st.1=powL 64 n) (fun st _=>st.1.toNat) ⟨rfl,0,by decide,O,C,rfl⟩ ?_;rintro⟨m,u⟩ _ N ⟨rfl,i,Y,m0,m1,hm⟩;dsimp only at m0 m1 hm⊢;have j:(m>1->Int.tmod m 2≠0)->K (m==1) N:=fun h=>by
  rw[<-hm]at d;cases hk:64-i with
  | zero=>rw[hk]at d;exact d
  | succ k=>
   rw[hk]at d;unfold powL at d;by_cases g:m>1
   ·rw[if_pos g,if_neg (h g)]at d;exact d
   ·rw[if_neg g]at d;exact d
 refine AE (fun g=>⟨by decide,CO (fun e=>⟨by decide,?_⟩) fun e=>j fun _=>e⟩) fun g=>j fun h=>absurd h g;cases hk:64-i with
 | zero=>rw[hk]at m1;have:(2:Int)^0=1:=rfl;omega
 | succ k=>
  rw[hk]at m1 hm;unfold powL at hm;rw[if_pos g,if_pos e]at hm;have hp:(2:Int)^(k+1)=2^k*2:=Int.pow_succ 2 k;have J:(2:Int)^(k+1)<=2^64:=by
   have:(2:Nat)^(k+1)<=2^64:=Nat.pow_le_pow_right (by decide) (by omega);have v:(((2:Nat)^(k+1):Nat):Int)<=((2^64:Nat):Int):=Int.ofNat_le.2 this;rw[Int.natCast_pow]at v;exact v
  have T:Int.tdiv m 2=m/2:=Int.tdiv_eq_ediv_of_nonneg m0;have he:(2:Int)^64=18446744073709551616:=by decide
  have hu:u64 (Int.tdiv m 2)=m/2:=by rw[T,AG]
  rw[hu]at hm⊢;exact⟨⟨rfl,i+1,by omega,by show 0<=m/2;omega,by show m/2<_;rw[show 64-(i+1)=k by omega];omega,by show powL (64-(i+1)) (m/2)=_;rw[show 64-(i+1)=k by omega];exact hm⟩,by show(m/2).toNat<m.toNat;omega⟩
theorem So{n:Int}(v:n<2∨n≠0){K:Int->World->Prop}(d:K (if n<2 then 0 else IntKind.wrap .u32 (IntKind.wrap .u32 (Int.tdiv 4294967295 n)+1)) w):F.Ef E n K w:=by
 unfold F.Ef;refine AE (fun h=> ?_) fun h=>⟨by omega,AY fun x j=> ?_⟩
 ·rw[if_pos h]at d;exact d
 ·rw[if_neg h]at d;rw[j];exact d
theorem Sp(H:Sat Z w){K:AZ->Int->World->Prop}(hK: ∀s w',Sat (Row E.Al 4 s (BV Fk KA)::Z) w'->K s 0 w'):F.DP E 8192 32768 K w:=by
 unfold F.DP T0.DP;have p1:powL 64 (u64 8192)=true:=by decide+kernel
 have p2:powL 64 (u64 32768)=true:=by decide+kernel
 refine Ax (Ab (by decide) (Ab (by decide) (Me (by decide+kernel) (by decide+kernel) ?_)));rw[p1];refine Ab rfl (Ab (by decide) (Ab (by decide+kernel) (Me (by decide+kernel) (by decide+kernel) ?_)));rw[p2];refine fun j=>Ab rfl ?_;obtain⟨aC,aM⟩:=runs;refine GB (n:=1) (z:=4) H rfl (by decide) fun b8 w9 H9=> ?_;refine AM (fun st w'=> ∃k:Nat,k<=rounds/\st.2.1=(Ki k).IX/\st.2.2.1=(Ki k).size/\Sat (Row E.Al 4 st.1 (BV Fk (Ki k).l)::Z) w') (fun st _=>(40000-st.2.2.1).toNat)
  ⟨0,Nat.zero_le _,rfl,rfl,H9⟩ ?_
 rintro⟨J,IX,size,v⟩ _ bJ ⟨k,hk,aN,aF,O⟩;dsimp only at aN aF O⊢;have hl:=O.Gd (by decide) Af;refine AE (fun hle=> ?_) fun aB=> ?_
 ·have aK:k<rounds:=by
   rcases Nat.lt_or_eq_of_le hk with g|g
   ·exact g
   ·subst g;rw[aM]at aF;have:=VJ;omega
  have hg:=Lv (aC k aK);obtain⟨o1,o2⟩:=mE aK;rw[aN,aF];generalize hS:Ki k=S at hg aF aN O hl o1 o2⊢;have aA:Ki (k+1)=S.next:=by rw[<-hS];rfl
  have cJ:=hg.s0;have b7:=hg.s1;have a1:=hg.l0;have bQ:=hg.l1;have bP:=hg.sV;have bT:=hg.sX;refine Ak (fun st w'=>st.1=F2 S.size S.IX/\w'=bJ) ?_ ?_
  ·refine Me (by rw[AG];omega) (by rw[AG];omega) ?_;rw[o2];unfold F2;cases hp:Qk (u64 S.size)
   ·refine Ab rfl ⟨?_,rfl⟩;rw[if_pos rfl]
   ·rw[if_neg (by decide)];refine Ao rfl (AE (fun h=>⟨?_,rfl⟩) fun h=>AE (fun h2=>⟨by decide,AY fun x hx=>⟨?_,rfl⟩⟩) fun h2=>AE (fun h3=>⟨?_,rfl⟩) fun h3=>⟨?_,rfl⟩)
    ·rw[if_pos h]
    ·rw[if_neg h,if_pos h2];exact hx
    ·rw[if_neg h,if_neg h2,if_pos h3]
    ·rw[if_neg h,if_neg h2,if_neg h3]
  rintro⟨step,v⟩ _ bK ⟨aD,rfl⟩;dsimp only at aD⊢;subst aD;refine AM (fun st w'=>w'=bK/\ ∃i:Nat,i<=16/\st.1=8192+i*8192/\bytesF S.size (16-i) st.1=bytesF S.size 16 8192) (fun st _=>(200000-st.1).toNat) ⟨rfl,0,by decide,by show(8192:Int)=_;omega,rfl⟩ ?_;rintro⟨n,v⟩ _ cI ⟨rfl,i,hi,hn,C⟩;dsimp only at hn C⊢;refine⟨by omega,by decide,AE (fun aB=> ?_) fun hle=> ?_⟩
  ·rcases Nat.lt_or_ge i 16 with h8|h8
   ·obtain⟨k,hk⟩: ∃k,16-i=k+1:=⟨15-i,by omega⟩;rw[hk]at C;rw[AN (n:=n+8192)];refine⟨⟨rfl,i+1,by omega,by omega,?_⟩,by omega⟩;rw[<-C,show 16-(i+1)=k by omega];unfold bytesF;rw[if_pos aB,AN (n:=n+8192)];cases k<;>rfl
   ·have:i=16:=by omega
    subst this;have:bytesF S.size 0 n=n:=rfl;rw[show 16-16=0 from rfl,this]at C;have BH:=hg.IX;rw[<-C]at BH;exact absurd aB (by omega)
  have aW:n=bytesF S.size 16 8192:=by
   rw[<-C];cases h:16-i with
   | zero=>rfl
   | succ k=>unfold bytesF;rw[if_neg (by omega)]
  rw[aW];clear aW C hn hi hle;have N:=SW a1;obtain⟨b,C⟩:=O.FF (by decide) Af (i:=S.l.length-1) (by omega);rw[AN (n:=((J.len:Nat):Int)-1),C];simp only[AI];refine AY fun last a6=> ?_;have et:Int.toNat last=S.l.length-1:=by omega
  rw[et];have Hd:=O.drew;have c0:=Hd.B5 Af C N (j:=0) rfl;have c1:=Hd.B5 Af C N (j:=1) rfl;have aO:S.l.getLastD (0,0,0,0)=S.last:=rfl;rw[aO]at c0 c1 N;rw[Nat.add_zero]at c0;rw[AN (n:=S.size+F2 S.size S.IX)];have aL:S.next.size=S.size+F2 S.size S.IX:=AN;have d:(0:Int)<=last/\last<(J.len:Nat):=⟨by omega,by omega⟩;refine Ak (fun st w'=>st.1=S.same/\Sat (Row E.Al 4 J (BV Fk S.l)::Z) w') ?_ ?_
  ·rw[<-o1];unfold Lt.YQ;refine AE (fun h1=>⟨d,S.last.2.1,by rw[add_add];exact c1,by decide,CO (fun e1=> ?_) fun e1=> ?_⟩) fun h1=> ?_
   ·have d1:decide (1<S.l.length)=true:=decide_eq_true (by omega);have bH:=c0;refine⟨d,S.last.1,bH,hg.nz (by omega),by omega,?_,Hd⟩;rw[d1,e1,beq_self_eq_true,Bool.true_and,Bool.true_and]
   ·refine⟨?_,Hd⟩;rw[show(S.last.2.1==i64 (Int.tdiv (bytesF S.size 16 8192) 8192))=false by simpa using e1];simp
   ·refine⟨?_,Hd⟩;rw[decide_eq_false (by omega)];rfl
  rintro⟨x,v⟩ _ bW ⟨hx,a2⟩;dsimp only at hx;subst hx;refine AR (fun e=>⟨d,?_⟩) fun e=>⟨by decide,?_⟩
  ·have hs:=Hc a2 (j:=(S.l.length-1)*4) (v:=.int .i64 S.size) (K:=fun a3=>(∃k:Nat,k<=rounds/\F2 S.size S.IX=(Ki k).IX/\S.size+F2 S.size S.IX=(Ki k).size/\Sat (Row E.Al 4 J (BV Fk (Ki k).l)::Z) a3)/\(40000-(S.size+F2 S.size S.IX)).toNat<(40000-S.size).toNat) rfl (by rw[DJ Af];omega) C fun a3 aR=>⟨⟨k+1,by omega,by rw[aA];rfl,by rw[aA];exact aL.symm,?_⟩,by omega⟩
   ·exact hs
   ·have:=GL Af N (j:=0) (y:=(S.size,S.last.2)) (v:=.int .i64 S.size) (by decide) rfl;rw[Nat.add_zero]at this;rw[this,SV a1]at aR;rw[aA];unfold Lt.next;rw[if_pos e];exact aR
  ·refine Am a2 fun cF b0 bL _=> ?_;refine IE (news:=Fk (S.size,i64 (Int.tdiv (bytesF S.size 16 8192) 8192),0,0)) bL rfl rfl (SR _) (by omega) (by omega) fun bY b2 aV _=>⟨⟨k+1,by omega,by rw[aA];rfl,by rw[aA];exact aL.symm,?_⟩,by omega⟩;have e1:BV Fk S.l++Fk (S.size,i64 (Int.tdiv (bytesF S.size 16 8192) 8192),0,0)=BV Fk (S.l++[(S.size,i64 (Int.tdiv (bytesF S.size 16 8192) 8192),0,0)]):=by rw[HB];simp[BV]
   rw[e1]at aV;rw[aA];unfold Lt.next;rw[if_neg (show ¬S.same=true from fun h=>by have e':S.same=false:=e;rw[e']at h;cases h)];exact aV
 ·have aK:k=rounds:=by
   rcases Nat.lt_or_eq_of_le hk with g|g
   ·have:=(Lv (aC k g)).s1;omega
   ·exact g
  subst aK;rw[aM]at O hl;have hlen:=VK;cases hL:SU.l with
  | nil=>rw[hL]at hlen;cases hlen
  | cons c0 T=>
   rw[hL]at O hl hlen;have hT:T.length=67:=by simpa using hlen
   have a4: ∀i c,T[i]? =some c->SS c=true:=fun i c hc=>by
    have:=VL;rw[hL]at this;exact List.all_eq_true.1 this c (List.mem_of_getElem? hc)
   have aX:KA=c0::T.map Cw:=by unfold KA;rw[hL]
   refine AM (fun st w'=> ∃i:Nat,st.1=(i:Int)+1/\i<=67/\Sat (Row E.Al 4 J (BV Fk (c0::((T.take i).map Cw++T.drop i)))::Z) w') (fun st _=>(68-st.1).toNat) ⟨0,rfl,by decide,O⟩ ?_;rintro⟨i',v⟩ _ bI ⟨i,hi,bU,Y⟩;dsimp only at hi⊢;subst hi;refine AE (fun cH=> ?_) fun bZ=> ?_
   ·have b3:i<67:=by omega
    obtain⟨c,hc⟩: ∃c,T[i]? =some c:=⟨_,List.getElem?_eq_getElem (by omega)⟩;have BH:=a4 i c hc;unfold SS at BH;simp only[Bool.and_eq_true,Bool.or_eq_true,decide_eq_true_eq,bne_iff_ne]at BH;obtain⟨o1,o2,o3,o4⟩:=BH;have et:Int.toNat ((i:Int)+1)=i+1:=by omega
    rw[et,AN (n:=(i:Int)+1+1)];generalize hF:(c0::((T.take i).map Cw++T.drop i))=FX at Y;have cB:FX.length=68:=by rw[<-hF];simp[List.length_take,List.length_drop];omega
    have aH:FX[i+1]? =some c:=by
     rw[<-hF,List.getElem?_cons_succ,List.getElem?_append_right (by rw[List.length_map,List.length_take];omega),List.length_map,List.length_take,Nat.min_eq_left (by omega),Nat.sub_self,List.getElem?_drop,Nat.add_zero];exact hc
    have bG:FX.set (i+1) (Cw c)=c0::((T.take (i+1)).map Cw++T.drop (i+1)):=by
     rw[<-hF,List.set_cons_succ];congr 1;have bN:c=T[i]:=by rw[List.getElem?_eq_getElem (by omega)]at hc;exact(Option.some.inj hc).symm
     rw[List.set_append_right _ _ (by rw[List.length_map,List.length_take];omega),List.length_map,List.length_take,Nat.min_eq_left (by omega),Nat.sub_self,List.take_succ_eq_append_getElem (by omega),List.map_append,List.drop_eq_getElem_cons (by omega),List.set_cons_zero,List.append_assoc,bN];rfl
    obtain⟨b,C⟩:=Y.FF (by decide) Af (i:=i+1) (by omega);rw[C];simp only[AI];have d0:=Y.B5 Af C aH (j:=0) rfl;have d1:=Y.B5 Af C aH (j:=1) rfl;rw[Nat.add_zero]at d0;have d:(0:Int)<=(i:Int)+1/\(i:Int)+1<(J.len:Nat):=⟨by omega,by omega⟩;refine⟨d,c.2.1,by rw[add_add];exact d1,d,c.1,d0,o1,o2,by decide,AY fun wide aE=> ?_⟩;refine Ak (fun _ w'=>Sat (Row E.Al 4 J (BV Fk (FX.set (i+1) ((Cw c).1,c.2)))::Z) w') ?_ ?_
    ·refine⟨d,c.1,d0,AE (fun aB=>⟨d,?_⟩) fun bO=> ?_⟩
     ·have e1:(Cw c).1=wide:=by unfold Cw;dsimp only;rw[<-aE,if_pos aB]
      refine Hc Y (j:=(i+1)*4) rfl (by rw[DJ Af];omega) C fun bE a0=> ?_;have:=GL Af aH (j:=0) (y:=(wide,c.2)) (v:=.int .i64 wide) (by decide) rfl;rw[Nat.add_zero]at this;rw[this]at a0;show Sat (Row E.Al 4 J (BV Fk (FX.set (i+1) ((Cw c).1,c.2)))::Z) bE;rw[e1];exact a0
     ·have e1:(Cw c).1=c.1:=by unfold Cw;dsimp only;rw[<-aE,if_neg bO]
      show Sat (Row E.Al 4 J (BV Fk (FX.set (i+1) ((Cw c).1,c.2)))::Z) bI;rw[e1];have:FX.set (i+1) (c.1,c.2)=FX:=by
       have:=List.getElem?_eq_some_iff.1 aH;rw[show(c.1,c.2)=FX[i+1]from this.2.symm,List.set_getElem_self]
      rw[this];exact Y
    rintro _ _ cG aY;have g1:(FX.set (i+1) ((Cw c).1,c.2))[i+1]? =some ((Cw c).1,c.2):=by rw[List.getElem?_set_self (by omega)]
    have f0:=aY.B5 Af C g1 (j:=0) rfl;rw[Nat.add_zero]at f0;have aG:i64 (Int.tdiv (i64 (c.2.1*8192)) (Cw c).1)=(Cw c).2.2.1:=rfl;refine⟨d,(Cw c).1,f0,o3,d,?_⟩;rw[aG,add_add];refine Hc aY (j:=(i+1)*4+2) rfl (by rw[DJ Af,List.length_set];omega) C fun cD aP=> ?_;have:=GL Af g1 (j:=2) (y:=((Cw c).1,c.2.1,(Cw c).2.2.1,c.2.2.2)) (v:=.int .i64 (Cw c).2.2.1) (by decide) rfl;rw[this,List.set_set]at aP;have g2:(FX.set (i+1) ((Cw c).1,c.2.1,(Cw c).2.2.1,c.2.2.2))[i+1]? =some ((Cw c).1,c.2.1,(Cw c).2.2.1,c.2.2.2):=by rw[List.getElem?_set_self (by omega)]
    have aZ:=aP.B5 Af C g2 (j:=0) rfl;rw[Nat.add_zero]at aZ;refine⟨d,(Cw c).1,aZ,So o4 ⟨d,?_⟩⟩;have a5:(if IntKind.wrap .u32 (Cw c).1<2 then(0:Int)else IntKind.wrap .u32 (IntKind.wrap .u32 (Int.tdiv 4294967295 (IntKind.wrap .u32 (Cw c).1))+1))=(Cw c).2.2.2:=rfl;rw[a5,add_add];refine Hc aP (j:=(i+1)*4+3) rfl (by rw[DJ Af,List.length_set];omega) C fun cC aS=>⟨⟨i+1,by omega,by omega,?_⟩,by omega⟩;have h3:=GL Af g2 (j:=3) (y:=Cw c) (v:=.int .u32 (Cw c).2.2.2) (by decide) rfl;rw[h3,List.set_set,bG]at aS;exact aS
   ·have bF:i=67:=by omega
    subst bF;rw[<-hT,List.take_length,List.drop_length,List.append_nil,<-aX]at Y;exact hK _ _ Y
end
end Go.Sh
set_option linter.all false
set_option maxRecDepth 8000
set_option maxHeartbeats 2000000
namespace Go.Sh
theorem BD{a:Addr}{K:Addr->Prop}(h:K a):NC (some a) K:=by rw[AI];exact h
def iA(U:Nat->Bool)(k:Nat):Int:=W fun i=>U (64*k+i)
def iB(U:Nat->Bool)(n:Nat):List Int:=(List.range n).map (iA U)
def YR(uw:List Int)(U:Nat->Bool):Prop:=uw=iB U uw.length/\ ∀i,64*uw.length<=i->U i=false
theorem P7{U:Nat->Bool}(h: ∀i,U i=false):YR [] U:=⟨rfl,fun i _=>h i⟩
section
variable{E:Env}{w:World}{Z:List Pr}{s:AZ}{uw:List Int}{U:Nat->Bool}
end
end Go.Sh
set_option linter.all false
set_option maxRecDepth 8000
set_option maxHeartbeats 2000000
namespace Go.Sh
theorem Qy{U:Nat->Bool}{n:Nat}(h: ∀i,n<=i->U i=false): ∀m,cN U (n+m)=cN U n
 | 0=>rfl
 | m+1=>by
  show cN U (n+m)+(U (n+m)).toNat=_;rw[Qy h m,h _ (by omega)];rfl
structure nJ(S:SI)(U M:Nat->Bool):Prop where
 uw:YR S.uw U
 mw:YR S.mw M
 lu:(S.uw.length:Int)*64<=S.Bs+63
 lm:(S.mw.length:Int)*64<=S.Bs+63
 Gc: ∀i:Nat,U i=true->(i:Int)<S.Bs
 wL: ∀i:Nat,M i=true->(i:Int)<S.Bs
 sl:0<=S.Bs/\S.Bs<=137438953472
 cnt:S.used=(cN U S.Bs.toNat:Nat)
 look:0<=S.look/\S.look<=S.Bs/\ ∀i:Nat,(i:Int)<S.look->U i=true
section
variable{E:Env}{w:World}{Z:List Pr}{b:Nat}{S:SI}{U M:Nat->Bool}
end
end Go.Sh
set_option linter.all false
set_option maxRecDepth 8000
set_option maxHeartbeats 2000000
namespace Go.Sh
section
variable{E:Env}{w:World}{Z:List Pr}{b:Nat}{S:SI}{U M:Nat->Bool}
end
end Go.Sh
set_option linter.all false
set_option maxRecDepth 4000
set_option maxHeartbeats 2000000
namespace Go.Sh
def tr(l:List Bool)(i:Nat):Bool:=l.getD i false
theorem mF{l:List Bool}{i:Nat}(h:i<l.length):l[i]? =some (tr l i):=by
 unfold tr;rw[List.getD_eq_getElem?_getD,List.getElem?_eq_getElem h];rfl
theorem bN{l:List Bool}{i:Nat}(h:l.length<=i):tr l i=false:=by
 unfold tr;rw[List.getD_eq_getElem?_getD,List.getElem?_eq_none h];rfl
theorem iC{l:List Bool}{j n:Nat}:tr (l++List.replicate n false) j=tr l j:=by
 by_cases h:j<l.length
 ·unfold tr;rw[List.getD_eq_getElem?_getD,List.getD_eq_getElem?_getD,List.getElem?_append_left h]
 ·rw[bN (l:=l) (by omega)];unfold tr;rw[List.getD_eq_getElem?_getD,List.getElem?_append_right (by omega),List.getElem?_replicate];split<;>rfl
structure VU(S:SI)(U M:Nat->Bool)(ul ml:List Bool)(lk:Int):Prop where
 u: ∀i,U i=tr ul i
 m: ∀i,M i=tr ml i
 lu:(ul.length:Int)<=S.Bs
 lm:(ml.length:Int)<=S.Bs
 Gc:S.Bs<=137438953472
 sZ:0<=lk/\lk<=S.Bs
 tA: ∀i:Nat,(i:Int)<lk->U i=true
def Gk(S:SI)(s1 s2:AZ)(d:Int):List Value:=[.int .u64 (S.base/8192),.int .u64 S.AA,.int .i64 S.state,.int .i64 S.cls,.bool S.Hl,.int .i64 S.elem,.int .i64 S.Bs,HU s1,HU s2,.int .i64 d]
def Oy(E:Env)(q:Nat)(S:SI)(ul ml:List Bool)(s1 s2:AZ)(d:Int):List Pr:=[Cells q E.Da (Gk S s1 s2 d),Row E.Ai 1 s1 (BS ul),Row E.Ai 1 s2 (BS ml)]
def Dy(E:Env)(q:Nat)(S:SI)(U M:Nat->Bool):Pr:=Ex fun x:List Bool×List Bool×AZ×AZ×Int=>ID (VU S U M x.1 x.2.1 x.2.2.2.2) (N9 (Oy E q S x.1 x.2.1 x.2.2.1 x.2.2.2.1 x.2.2.2.2))
section
variable{E:Env}{q:Nat}{S:SI}{U M:Nat->Bool}{Z:List Pr}{w:World}
theorem Sat.P8:Sat (Dy E q S U M::Z) w↔ ∃ul ml s1 s2 d,VU S U M ul ml d/\Sat (Oy E q S ul ml s1 s2 d++Z) w:=by
 unfold Dy;rw[Sat.ex];constructor
 ·rintro⟨⟨ul,ml,s1,s2,d⟩,h⟩;rw[Sat.where,Sat.star]at h;exact⟨ul,ml,s1,s2,d,h.1,h.2⟩
 ·rintro⟨ul,ml,s1,s2,d,h1,j⟩;refine⟨⟨ul,ml,s1,s2,d⟩,?_⟩;rw[Sat.where,Sat.star];exact⟨h1,j⟩
theorem UW{s:AZ}{l:List Bool}(H:Sat (Row E.Ai 1 s (BS l)::Z) w):l.length=s.len:=by
 have:=H.GA;rw[BS,List.length_map,Nat.mul_one]at this;exact this
theorem mG(ul:List Bool){U:Nat->Bool}(h: ∀i,U i=tr ul i){n:Nat}(d:ul.length<=n):cN U ul.length=cN U n:=by
 obtain⟨k,rfl⟩:=Nat.exists_eq_add_of_le d;exact(Qy (fun i j=>by rw[h,bN j]) k).symm
theorem Qz(H:Sat (Dy E q S U M::Z) w){K:Int->World->Prop}(O:K (cN U S.Bs.toNat:Nat) w):F.DG E (some ⟨q,0,none⟩) K w:=by
 obtain⟨ul,ml,s1,s2,lk,d,H⟩:=Sat.P8.1 H;unfold F.DG;have hl:=UW (H.front 1 rfl);have Y:=d.lu;have C:=d.Gc;refine AM (fun st w'=>w'=w/\ ∃i:Nat,st.2.1=(i:Int)/\i<=ul.length/\st.1=(cN U i:Nat)) (fun st _=>((ul.length:Int)-st.2.1).toNat) ⟨rfl,0,rfl,Nat.zero_le _,rfl⟩ ?_;rintro⟨c,i',u⟩ _ w2 ⟨rfl,i,v,N,J⟩;dsimp only at v J⊢;subst v;subst J;have T:=Us U i;refine BD ⟨s1,H.cell rfl,AE (fun h=>BD ⟨s1,H.cell rfl,?_⟩) fun h=> ?_⟩
 ·obtain⟨b,j⟩:=(H.front 1 rfl).own.HM (by omega);rw[j];refine BD ⟨⟨by omega,h⟩,tr ul i,?_,?_⟩
  ·rw[Int.toNat_natCast,Nat.mul_one];exact(H.front 1 rfl).own.cell j (MR (mF (by omega)))
  ·rw[<-d.u i,AN (n:=(i:Int)+1),AN (n:=((cN U i:Nat):Int)+1)];have e:cN U (i+1)=cN U i+(U i).toNat:=rfl;refine AR (fun g=>⟨⟨rfl,i+1,by omega,by omega,?_⟩,by omega⟩) fun g=>⟨⟨rfl,i+1,by omega,by omega,?_⟩,by omega⟩
   ·show((cN U i:Nat):Int)+1=(cN U (i+1):Nat);rw[e,g];rfl
   ·show((cN U i:Nat):Int)=(cN U (i+1):Nat);rw[e,g];rfl
 ·obtain rfl:i=ul.length:=by omega
  rw[mG ul d.u (n:=S.Bs.toNat) (by omega)];exact O
theorem UX(H:Sat (Dy E q S U M::Z) w)(v:S.state≠0){K:Int->World->Prop}(O:0<cN U S.Bs.toNat->K 33 w)
  (J:cN U S.Bs.toNat=0-> ∀w',w'.cell? (Addr.mk q 0 none)=some (.int .u64 (S.base/8192))->w'.cell? ((Addr.mk q 0 none).add 1)=some (.int .u64 S.AA)->Sat Z w'->K 0 w'):F.Bx E (some ⟨q,0,none⟩) K w:=by
 obtain⟨ul,ml,s1,s2,lk,hI,H1⟩:=Sat.P8.1 H;unfold F.Bx T0.Bx;refine Ax (BD ⟨_,H1.cell rfl,CO (fun e=>absurd e v) fun _=>Qz H fun j=>AE (fun g=>O (by omega)) fun g=> ?_⟩);exact BD (Aj H1 (o:=0) (m:=2) rfl (by simp[Gk]) fun w9 Y=>BD (Aj Y (o:=0) (m:=7) rfl (by simp[Gk]) fun T C=>BD (Aj C (o:=0) (m:=8) rfl (by simp[Gk]) fun N d=>J (by omega) N (d.BI rfl) (d.cell rfl) d.tail.tail.tail)))
theorem L9(n:Nat):Fu #[.bool false] n=⟨BS (List.replicate n false)⟩:=by
 rw[QX];congr 1;apply List.ext_getElem?;intro i;by_cases hi:i<n
 ·rw[E4 hi];simp[BS,hi]
 ·rw[List.getElem?_eq_none (by rw[As];omega),List.getElem?_eq_none (by simp[BS];omega)]
instance iX(AA elem:Int):Decidable (YG AA elem):=by unfold YG;exact inferInstance
def PH:Nat->Bool:=fun _=>false
theorem Wg:(KA.all fun c=>decide (0<=c.2.2.1)&&decide (c.2.2.1<=1024))=true:=by decide+kernel
theorem Sq{c:Int}(h0:0<=c)(h1:c<68):0<=(Dp c).2.2.1/\(Dp c).2.2.1<=1024:=by
 have:=List.all_eq_true.1 Wg _ (List.mem_of_getElem? (K9 h0 h1));simpa using this
theorem Q2{page AA:Int}(h0:0<=page)(J:0<=AA){K:Bool->World->Prop}(d:K (decide (0<AA/\AA<=134217728/\page<=34359738368/\AA<=34359738368-page)) w):F.EW E page AA K w:=by
 unfold F.EW;refine AE (fun v=>AE (fun j=>AE (fun C=> ?_) fun C=> ?_) fun j=> ?_) fun v=> ?_
 ·rw[AG (n:=34359738368-page)];have e:decide (AA<=34359738368-page)=decide (0<AA/\AA<=134217728/\page<=34359738368/\AA<=34359738368-page):=decide_eq_decide.2 ⟨fun h=>⟨v,j,C,h⟩,fun h=>h.2.2.2⟩;rw[e];exact d
 ·rw[decide_eq_false (fun h=>C h.2.2.1)]at d;exact d
 ·rw[decide_eq_false (fun h=>j h.2.1)]at d;exact d
 ·rw[decide_eq_false (fun h=>v h.1)]at d;exact d
theorem M8{q:Nat}{S:SI}(hs:0<=S.Bs/\S.Bs<=137438953472)(H:Sat (Cells q E.Da (Gk S ⟨none,0,0⟩ ⟨none,0,0⟩ 0)::Z) w){K:World->Prop}(hK: ∀w',Sat (Dy E q S PH PH::Z) w'->K w'):
  ∃d:Int,w.cell? ((Addr.mk q 0 none).add 6)=some (.int .i64 d)/\
    ((0:Int)<=d/\(d:Int)<=d/\(d:Int)<9223372036854775808/\((1:Nat):Int)*d<=140737488355328)/\
    AL (.cells (Fu #[.bool false] (Int.toNat d*1)) E.Ai) w fun J Y=>
    stCells ((Addr.mk q 0 none).add 7) 0 [.slice (some (Addr.mk J 0 none)) (Int.toNat d) (Int.toNat d)] Y fun C=>
    ∃v:Int,C.cell? ((Addr.mk q 0 none).add 6)=some (.int .i64 v)/\
    ((0:Int)<=v/\(v:Int)<=v/\(v:Int)<9223372036854775808/\((1:Nat):Int)*v<=140737488355328)/\
    AL (.cells (Fu #[.bool false] (Int.toNat v*1)) E.Ai) C fun N T=>
    stCells ((Addr.mk q 0 none).add 8) 0 [.slice (some (Addr.mk N 0 none)) (Int.toNat v) (Int.toNat v)] T K:=by
 have hb:(0:Int)<=S.Bs/\S.Bs<=S.Bs/\S.Bs<9223372036854775808/\((1:Nat):Int)*S.Bs<=140737488355328:=⟨hs.1,Int.le_refl _,by omega,by omega⟩;have hn:(BS (List.replicate (Int.toNat S.Bs) false)).length=Int.toNat S.Bs*1:=by simp[BS]
 refine⟨S.Bs,H.cell rfl,hb,?_⟩;rw[Nat.mul_one,L9];refine GB (n:=Int.toNat S.Bs) (z:=1) H hn (by omega) fun J Y aA=> ?_;refine Aj (aA.front 1 rfl) (o:=0) (m:=7) rfl (by simp[Gk]) fun C O=>⟨S.Bs,O.cell rfl,hb,?_⟩;rw[Nat.mul_one,L9];refine GB (n:=Int.toNat S.Bs) (z:=1) O hn (by omega) fun N T aB=> ?_;refine Aj (aB.front 1 rfl) (o:=0) (m:=8) rfl (by simp[Gk]) fun aD aC=> ?_;have tz: ∀i,PH i=tr (List.replicate (Int.toNat S.Bs) false) i:=fun i=>by
  have:=iC (l:=[]) (j:=i) (n:=Int.toNat S.Bs);rw[List.nil_append]at this;rw[this];rfl
 refine hK aD (Sat.P8.2 ⟨List.replicate (Int.toNat S.Bs) false,List.replicate (Int.toNat S.Bs) false,⟨some ⟨J,0,none⟩,Int.toNat S.Bs,Int.toNat S.Bs⟩,⟨some ⟨N,0,none⟩,Int.toNat S.Bs,Int.toNat S.Bs⟩,0,⟨tz,tz,?_,?_,hs.2,⟨Int.le_refl _,hs.1⟩,fun i hi=>by omega⟩,?_⟩)
 ·rw[List.length_replicate];omega
 ·rw[List.length_replicate];omega
 ·exact aC.perm (.cons _ (.swap _ _ _))
theorem Oz(H:Sat Z w){page AA c:Int}{N:Bool}(h0:0<=page)(p0:0<=AA)(p1:AA<18446744073709551616){K:Option Addr->Int->World->Prop}
  (aB:D5 page AA c-> ∀w',Sat Z w'->K none 1 w')(T: ¬D5 page AA c-> ∀b w',Sat (Dy E b (K8 page AA c N) PH PH::Z) w'->K (some ⟨b,0,none⟩) 0 w'):F.DQ E page AA c N K w:=by
 unfold F.DQ T0.DQ;refine Ak (fun st w'=>st.1= !decide ((0<AA/\AA<=134217728/\page<=34359738368/\AA<=34359738368-page)/\0<=c/\c<68)/\w'=w) (Q2 h0 p0 ?_) ?_
 ·refine LX (AE (fun g=>AE (fun g2=>⟨?_,rfl⟩) fun g2=>⟨?_,rfl⟩) fun g=>⟨?_,rfl⟩)
  ·rw[decide_eq_false (by omega)];rfl
  ·by_cases g3:c>67
   ·rw[decide_eq_true g3,decide_eq_false (by omega)];rfl
   ·rw[decide_eq_false g3,decide_eq_true ⟨g,by omega,by omega⟩];rfl
  ·rw[decide_eq_false (fun h=>g h.1)];rfl
 rintro⟨t,u⟩ _ w3 ⟨ht,rfl⟩;dsimp only at ht⊢;subst ht;refine LX (AE (fun g=> ?_) fun g=> ?_)
 rotate_left
 ·refine aB ?_ w3 H;unfold D5;by_cases e:c<=0∨68<=c
  ·omega
  ·have hb:=I4 (c:=c) (by omega) (by omega);omega
 obtain⟨⟨g1,g2,g3,g4⟩,c0,c1⟩:=g;rw[AN (n:=AA),AN (n:=AA*8192)];refine Am (vs:=[.int .u64 page,.int .u64 AA,.int .i64 1,.int .i64 c,.bool N,.int .i64 (AA*8192),.int .i64 1,.slice none 0 0,.slice none 0 0,.int .i64 0]) H fun b6 w7 H7 _=> ?_;have C:page*8192/8192=page:=Int.mul_ediv_cancel _ (by decide);by_cases hc:c=0
 ·refine Ax (Ab (decide_eq_false (by omega)) fun j=> ?_);refine M8 (S:=K8 page AA c N) ?_ ?_ fun w' H'=>T (by unfold D5;omega) b6 w' H'
  ·show 0<=(if c=0 then(1:Int)else _)/\(if c=0 then(1:Int)else _)<=_;rw[if_pos hc];decide
  ·show Sat (Cells b6 E.Da [.int .u64 (page*8192/8192),.int .u64 AA,.int .i64 1,.int .i64 c,.bool N,.int .i64 (if c=0 then AA*8192 else(Dp c).1),.int .i64 (if c=0 then 1 else(Dp c).2.2.1),.slice none 0 0,.slice none 0 0,.int .i64 0]::Z) w7;rw[C,if_pos hc,if_pos hc];exact H7
 ·refine Ax (Ao (decide_eq_true (by omega)) (Sp H7 fun J aG d=> ?_));have hl:=d.Gd (by decide) Af;rw[Lu]at hl;obtain⟨x,hx⟩:=d.FF (by decide) Af (i:=c.toNat) (by rw[Lu];omega);have O:=K9 c0 c1;have aO:=I4 c0 c1;have aT:=Sq c0 c1;have v:(0:Int)<=c/\c<(J.len:Nat):=⟨c0,by omega⟩;have ct: ∀{w'} {Y:List Pr},Sat (Row E.Al 4 J (BV Fk KA)::Y) w'->w'.cell? ((Addr.mk x 0 none).add (Int.toNat c*4))=some (.int .i64 (Dp c).1)/\w'.cell? (((Addr.mk x 0 none).add (Int.toNat c*4)).add 1)=some (.int .i64 (Dp c).2.1)/\
    w'.cell? (((Addr.mk x 0 none).add (Int.toNat c*4)).add 2)=some (.int .i64 (Dp c).2.2.1):=fun h=>by
   refine⟨?_,?_,?_⟩
   ·have:=h.B5 Af hx O (j:=0) rfl;rwa[Nat.add_zero]at this
   ·rw[add_add];exact h.B5 Af hx O (j:=1) rfl
   ·rw[add_add];exact h.B5 Af hx O (j:=2) rfl
  rw[hx];refine BD ⟨v,_,(ct d).2.1,?_⟩;rw[AG (n:=(Dp c).2.1)];refine DE (fun e=>aB (by unfold D5;omega) aG d.tail.tail) fun e=>BD ⟨v,_,(ct d).1,?_⟩;refine Aj (d.front 1 rfl) (o:=0) (m:=5) rfl (by simp) fun aR aA=>BD ⟨v,_,(ct (aA.front 1 rfl)).2.2,?_⟩;refine Aj aA (o:=0) (m:=6) rfl (by simp) fun aF aH j=> ?_;refine M8 (S:=K8 page AA c N) (Z:=Row E.Al 4 J (BV Fk KA)::Z) ?_ ?_ fun w' H'=>T (by unfold D5;omega) b6 w' (H'.perm (.swap _ _ _)).tail
  ·show 0<=(if c=0 then(1:Int)else(Dp c).2.2.1)/\(if c=0 then(1:Int)else(Dp c).2.2.1)<=_;rw[if_neg hc];omega
  ·show Sat (Cells b6 E.Da [.int .u64 (page*8192/8192),.int .u64 AA,.int .i64 1,.int .i64 c,.bool N,.int .i64 (if c=0 then AA*8192 else(Dp c).1),.int .i64 (if c=0 then 1 else(Dp c).2.2.1),.slice none 0 0,.slice none 0 0,.int .i64 0]::Row E.Al 4 J (BV Fk KA)::Z) aF;rw[C,if_neg hc,if_neg hc];exact aH
end
end Go.Sh
set_option linter.all false
set_option maxRecDepth 8000
set_option maxHeartbeats 4000000
namespace Go.Sh
def HS.at(S:HS)(id:Int):Int:=match S.sp id with
 | some x=>x.2.base
 | none=>0
theorem HS.VV{S:HS}{id:Int}{x:Nat×SI}(h:S.sp id=some x):S.at id=x.2.base:=by unfold HS.at;rw[h]
theorem Ag.TH{S:HS}{fl:Int->Bool}(v:Ag S fl)(l:List Int)(j:l.Nodup)(d: ∀n∈l,S.sp n≠none):l.length<1099511627776:=by
 have h:=Qn S.fx.n l j fun n C=>by
  obtain⟨a,e,h1,_⟩:=(v.sf n).1 (d n C);omega
 have:=v.fb;omega
end Go.Sh
set_option linter.all false
set_option maxRecDepth 40000
set_option maxHeartbeats 4000000
namespace Go.Sh
theorem Nl(k:IntKind)(l:List Int): ∀v∈ints k l,v.oneCell'=true:=by intro v d;simp[ints]at d;obtain⟨x,_,rfl⟩:=d;rfl
theorem YS(l:List Bool): ∀v∈BS l,v.oneCell'=true:=by intro v d;simp[BS]at d;rcases d with ⟨_,rfl⟩|⟨_,rfl⟩<;>rfl
section
variable{E:Env}(hE:EnvS E){w:World}
include hE
end
end Go.Sh
set_option linter.all false
set_option maxRecDepth 40000
set_option maxHeartbeats 4000000
namespace Go.Sh
section
variable{E:Env}(hE:EnvS E){w:World}
include hE
end
end Go.Sh
set_option linter.all false
set_option maxRecDepth 40000
set_option maxHeartbeats 4000000
namespace Go.Sh
section
variable{E:Env}(hE:EnvS E){w:World}{Rs:List Pr}{b:Nat}{V:VS}
include hE
end
end Go.Sh
set_option linter.all false
set_option maxRecDepth 40000
set_option maxHeartbeats 4000000
namespace Go.Sh
section
variable{E:Env}(hE:EnvS E){w:World}
include hE
end
end Go.Sh
set_option linter.all false
set_option maxRecDepth 40000
set_option maxHeartbeats 4000000
namespace Go.Sh
section
variable{E:Env}(hE:EnvS E){w:World}
include hE
end
end Go.Sh
set_option linter.all false
set_option maxRecDepth 40000
set_option maxHeartbeats 4000000
namespace Go.Sh
def Q3(V:VS)(p:Int):Int:=if Ik V.laid p then if Ik V.ready p then 2 else if Ik V.rel p then 3 else 1 else 0
theorem HW{V:VS}(h:MX V)(p:Int):(Q3 V p=0/\ ¬mem V.laid p/\ ¬mem V.ready p/\ ¬mem V.rel p)∨(Q3 V p=1/\mem V.laid p/\ ¬mem V.ready p/\ ¬mem V.rel p)∨(Q3 V p=2/\mem V.laid p/\mem V.ready p/\ ¬mem V.rel p)∨(Q3 V p=3/\mem V.laid p/\ ¬mem V.ready p/\mem V.rel p):=by
 unfold Q3;by_cases h1:mem V.laid p
 ·rw[if_pos (A9.2 h1)];by_cases h2:mem V.ready p
  ·rw[if_pos (A9.2 h2)];exact .inr (.inr (.inl ⟨rfl,h1,h2,h.re p h2⟩))
  ·rw[if_neg (fun e=>h2 (A9.1 e))];by_cases h3:mem V.rel p
   ·rw[if_pos (A9.2 h3)];exact .inr (.inr (.inr ⟨rfl,h1,h2,h3⟩))
   ·rw[if_neg (fun e=>h3 (A9.1 e))];exact .inr (.inl ⟨rfl,h1,h2,h3⟩)
 ·rw[if_neg (fun e=>h1 (A9.1 e))];exact .inl ⟨rfl,h1,fun e=>h1 (h.rl p e),fun e=>h1 (h.el p e)⟩
section
variable{E:Env}(hE:EnvS E){w:World}
include hE
end
end Go.Sh
set_option linter.all false
set_option maxRecDepth 4000
set_option maxHeartbeats 1000000
namespace Go.Sh
abbrev Wh:=List (Int×Int×Int)
abbrev YT:=List (Int×Int)
def Wi(e:Int×Int×Int):List Value:=[.int .u64 e.1,.int .i64 e.2.1,.int .u64 e.2.2]
def bO(e:Int×Int):List Value:=[.int .u64 e.1,.int .u64 e.2]
def kP(e:Int×Int×Int):Int:=e.1
def kW(e:Int×Int):Int:=e.1
theorem Fa(e:Int×Int×Int):(Wi e).length=3:=rfl
theorem HP(e:Int×Int):(bO e).length=2:=rfl
theorem MA(e:Int×Int×Int): ∀v∈Wi e,v.oneCell'=true:=by intro v d;simp[Wi]at d;rcases d with rfl|rfl|rfl<;>rfl
theorem VW(e:Int×Int): ∀v∈bO e,v.oneCell'=true:=by intro v d;simp[bO]at d;rcases d with rfl|rfl<;>rfl
structure MG where
 s0:AZ
 s1:AZ
 s2:AZ
 s3:AZ
 s4:AZ
def KD(g:MG):List Value:=[HU g.s0,HU g.s1,HU g.s2,HU g.s3,HU g.s4]
def Dr(E:Env)(c:Nat)(V:VS)(g:MG)(P:Wh)(W:YT):List Pr:=
 [Cells c E.Ac (KD g),F4 g.s0 (ints .u64 V.pl),F4 g.s1 (BS V.rf),F4 g.s2 (ints .u64 V.fl),Row E.AX 3 g.s3 (BV Wi P),Row E.Cm 2 g.s4 (BV bO W)]
structure Em(V:VS)(P:Wh)(W:YT):Prop where
 ok:MX V
 F6:HJ kP P
 iD:HJ kW W
 hp: ∀p,mem V.laid p↔ ∃e∈P,kP e=p
 hs: ∀e∈P,e.2.1=Q3 V e.1
 hw: ∀e∈W,e.1 %8=0/\mem V.ready (e.1/8192)/\V.wd (e.1/8192) (e.1 %8192/8)=e.2
 hf: ∀e∈P,mem V.ready e.1-> ∀i,0<=i->i<1024->(∀x∈W,x.1≠e.1*8192+i*8)->V.wd e.1 i=e.2.2
 R7: ∀x∈V.pl,0<=x/\x<18446744073709551616
def Db(E:Env)(c:Nat)(V:VS):Pr:=Ex fun x:MG×Wh×YT=>ID (Em V x.2.1 x.2.2) (N9 (Dr E c V x.1 x.2.1 x.2.2))
section
variable{E:Env}{c:Nat}{V:VS}{Z:List Pr}{w:World}{g:MG}{P:Wh}{W:YT}
theorem Sat.LD:Sat (Db E c V::Z) w↔ ∃g P W,Em V P W/\Sat (Dr E c V g P W++Z) w:=by
 unfold Db;rw[Sat.ex];constructor
 ·rintro⟨⟨g,P,W⟩,h⟩;rw[Sat.where,Sat.star]at h;exact⟨g,P,W,h.1,h.2⟩
 ·rintro⟨g,P,W,h1,d⟩;refine⟨⟨g,P,W⟩,?_⟩;rw[Sat.where,Sat.star];exact⟨h1,d⟩
theorem Em.iE(h:Em V P W){e:Int×Int×Int}(he:e∈P):mem V.laid e.1:=(h.hp _).2 ⟨e,he,rfl⟩
theorem Em.Oo(h:Em V P W){e:Int×Int×Int}(he:e∈P):512<=e.1/\e.1<34359738368:=h.ok.Gc _ (h.iE he)
theorem Em.mH(h:Em V P W):(P.length:Int)=CK V.laid:=
 Nf h.F6 h.ok.Gz h.hp (a:=0) (n:=34359738368) fun p hp=>by have:=h.ok.Gc p hp;omega
theorem Em.YU(h:Em V P W):P.length<=34359738368:=by
 have:=h.F6.TH (a:=0) (b:=34359738368) (by decide) fun e he=>by have:=h.Oo he;unfold kP;omega
 omega
theorem P9: ∀{P:Wh} {W:YT},HJ kP P->HJ kW W->(∀x∈W,x.1 %8=0/\ ∃e∈P,e.1=x.1/8192)->W.length<=1024*P.length
 | [],[],_,_,_=>Nat.le_refl _
 | [],x::r,_,_,h=>by obtain⟨_,e,he,_⟩:=h x (by simp);cases he
 | e::r,W,hP,hW,h=>by
  have h1:=List.pairwise_cons.1 hP;have C: ∀x∈W,e.1<=x.1/8192:=fun x j=>by
   obtain⟨_,d,K,he⟩:=h x j;rcases List.mem_cons.1 K with g|g
   ·subst g;omega
   ·have:=h1.1 d g;unfold kP at this;omega
  have hk:(W.take (pos kW W ((e.1+1)*8192))).length<=1024:=by
   have hs:HJ (fun x:Int×Int=>x.1/8) (W.take (pos kW W ((e.1+1)*8192))):=by
    have:=hW.take (pos kW W ((e.1+1)*8192));refine List.Pairwise.imp_of_mem ?_ this;intro a b T hb J;have e1:=(h a (Eb T).1).1;have e2:=(h b (Eb hb).1).1;unfold kW at J;show a.1/8<b.1/8;omega
   have:=hs.TH (a:=e.1*1024) (b:=(e.1+1)*1024) (by omega) fun x j=>by
    have v:=Eb j;have N:=C x v.1;have Y:=v.2;unfold kW at Y;show e.1*1024<=x.1/8/\x.1/8<(e.1+1)*1024;omega
   omega
  have hr:=P9 (P:=r) (W:=W.drop (pos kW W ((e.1+1)*8192))) h1.2 (hW.drop _) fun x j=>by
   have v:=FZ hW j;obtain⟨N,d,K,he⟩:=h x v.1;refine⟨N,d,?_,he⟩;rcases List.mem_cons.1 K with g|g
   ·subst g;have:=v.2;unfold kW at this;omega
   ·exact g
  have O:=congrArg List.length (List.take_append_drop (pos kW W ((e.1+1)*8192)) W);rw[List.length_append]at O;rw[List.length_cons];omega
theorem Em.sC(h:Em V P W):W.length<=1024*P.length:=
 P9 h.F6 h.iD fun x d=>by
  obtain⟨h1,j,_⟩:=h.hw x d;obtain⟨e,he,v⟩:=(h.hp _).1 (h.ok.rl _ j);exact⟨h1,e,he,v⟩
theorem Kk(H:Sat (Dr E c V g P W++Z) w):P.length=g.s3.len/\g.s3.len<=g.s3.cap/\g.s3.cap<9223372036854775808:=(H.front 4 rfl).Gd (by decide) Fa
theorem bP(H:Sat (Dr E c V g P W++Z) w):W.length=g.s4.len/\g.s4.len<=g.s4.cap/\g.s4.cap<9223372036854775808:=(H.front 5 rfl).Gd (by decide) HP
theorem MB(H:Sat (Dr E c V g P W++Z) w){i:Nat}{e:Int×Int×Int}(d:P[i]? =some e): ∃b,g.s3.base=some ⟨b,0,none⟩/\
  w.cell? ((Addr.mk b 0 none).add (i*3))=some (.int .u64 e.1)/\w.cell? (((Addr.mk b 0 none).add (i*3)).add 0)=some (.int .u64 e.1)/\w.cell? (((Addr.mk b 0 none).add (i*3)).add 1)=some (.int .i64 e.2.1)/\w.cell? (((Addr.mk b 0 none).add (i*3)).add 2)=some (.int .u64 e.2.2):=by
 have h:=H.front 4 rfl;obtain⟨b,v⟩:=h.FF (by decide) Fa (List.getElem?_eq_some_iff.1 d).1;refine⟨b,v,?_,?_,?_,?_⟩
 ·exact h.B5 Fa v d (j:=0) rfl
 ·rw[add_add];exact h.B5 Fa v d (j:=0) rfl
 ·rw[add_add];exact h.B5 Fa v d (j:=1) rfl
 ·rw[add_add];exact h.B5 Fa v d (j:=2) rfl
theorem mI(H:Sat (Dr E c V g P W++Z) w){i:Nat}{e:Int×Int}(d:W[i]? =some e): ∃b,g.s4.base=some ⟨b,0,none⟩/\
  w.cell? ((Addr.mk b 0 none).add (i*2))=some (.int .u64 e.1)/\w.cell? (((Addr.mk b 0 none).add (i*2)).add 1)=some (.int .u64 e.2):=by
 have h:=H.front 5 rfl;obtain⟨b,v⟩:=h.FF (by decide) HP (List.getElem?_eq_some_iff.1 d).1;refine⟨b,v,?_,?_⟩
 ·exact h.B5 HP v d (j:=0) rfl
 ·rw[add_add];exact h.B5 HP v d (j:=1) rfl
theorem Kl(H:Sat (Dr E c V g P W++Z) w){K:Bool->World->Prop}(h0:V.rf=[]->K false w)
  (h1: ∀x r,V.rf=x::r-> ∀s w',Sat (Dr E c {V with rf:=r} {g with s1:=s} P W++Z) w'->K x w'):F.Cf E (some ⟨c,0,none⟩) K w:=by
 unfold F.Cf;have J:=(H.front 2 rfl).Iy;have d:=H.cell (o:=0) (m:=1) rfl;simp only[AI];refine⟨g.s1,d,CO (fun e=>h0 ?_) fun e=> ?_⟩
 ·have:(BS V.rf).length=0:=by omega
  simpa[BS]using this
 ·cases hr:V.rf with
  | nil=>have:=J.1;rw[hr]at this;simp[BS]at this;omega
  | cons x r=>
   obtain⟨a,N,T⟩:=(H.front 2 rfl).Ji (j:=0) (v:=.bool x) (by rw[hr];rfl);refine⟨g.s1,d,?_⟩;rw[N];simp only[AI];refine⟨⟨by decide,by omega⟩,x,T,g.s1,d,⟨by decide,by omega⟩,?_⟩;have C:=Sat.back 2 ((H.front 2 rfl).Jj (n:=1) (by omega)) (by simp[Dr]);rw[hr]at C;exact Aj C (o:=0) (m:=1) rfl (by simp[KD]) fun w' O=>h1 x r hr ⟨Fe g.s1.base g.s1.cap (Int.toNat 1) 1,g.s1.len-Int.toNat 1,g.s1.cap-Int.toNat 1⟩ w' O
theorem KE{page AA:Int}(h0:0<=page)(v:0<=AA){K:Bool->World->Prop}(d: ∀b,(b=true↔EI page AA)->K b w):F.C5 E page AA K w:=by
 unfold F.C5 EI at *
 refine AE (fun h1=>AE (fun j=> ?_) fun j=> ?_) fun h1=> ?_
 ·rw[AG (n:=34359738368-page)];exact d _ (by simp only[decide_eq_true_eq];omega)
 ·exact d _ (by simp;omega)
 ·exact d _ (by simp;omega)
theorem Hs(J:Em V P W)(H:Sat (Dr E c V g P W++Z) w){n:Int}{K:Int->Bool->World->Prop}
  (C: ∀b,(b=true↔ ∃e,P[pos kP P n]? =some e/\e.1=n)-> ∀w',Sat (Dr E c V g P W++Z) w'->K (pos kP P n:Nat) b w'):F.BP E (some ⟨c,0,none⟩) n K w:=by
 unfold F.BP;have j:=H.drew;have Y:=Kk H;have hf:=J.YU;simp only[AI];refine⟨g.s3,j.cell rfl,?_⟩;refine bsearch (key:=kP) (by decide) Fa (fun _=>rfl) J.F6 (j.front 4 rfl) (j.cell rfl) (by omega) n fun st v=> ?_;have j:=j.drew;have hp:=Hk (key:=kP) P n;rw[v];refine⟨g.s3,j.cell rfl,AE (fun T=> ?_) fun O=>C _ ⟨fun h=>by(cases h),fun⟨e,he,_⟩=>by have:=(List.getElem?_eq_some_iff.1 he).1;omega⟩ _ j⟩;obtain⟨e,he⟩: ∃e,P[pos kP P n]? =some e:=⟨_,List.getElem?_eq_getElem (by omega)⟩;obtain⟨b,N,h0,_⟩:=MB j he;refine⟨g.s3,j.cell rfl,?_⟩;rw[N];refine⟨⟨by omega,by omega⟩,e.1,h0,C _ ?_ _ j⟩;rw[beq_iff_eq];exact⟨fun h=>⟨e,he,h⟩,fun⟨d,hd,h⟩=>by rw[he]at hd;cases hd;exact h⟩
theorem Wj(d:Em V P W){n:Int}:(∃e,P[pos kP P n]? =some e/\e.1=n)↔mem V.laid n:=by
 rw[d.hp];exact⟨fun⟨e,he,h⟩=>⟨e,List.mem_of_getElem? he,h⟩,fun⟨e,he,h⟩=>⟨e,Ls d.F6 he h,h⟩⟩
theorem M9(J:Em V P W)(H:Sat (Dr E c V g P W++Z) w){page AA:Int}(h0:0<=page)(p0:0<=AA)(h1:page+AA<18446744073709551616){K:Int->Bool->World->Prop}
  (T:(∀m,page<=m->m<page+AA-> ¬mem V.laid m)-> ∀w',Sat (Dr E c V g P W++Z) w'->K 0 true w')
  (aB: ∀m,mem V.laid m->page<=m->m<page+AA->m<34359738368-> ∀w',Sat (Dr E c V g P W++Z) w'->K (m+1) false w'):
  F.Ay E (some ⟨c,0,none⟩) page AA K w:=by
 unfold F.Ay T0.Ay;refine Hs J H fun b _ w3 v=> ?_;have hl:=Kk v;have hp:=Hk (key:=kP) P page;simp only[AI];rw[AG (n:=page+AA) (by omega) h1];refine Ax ⟨g.s3,v.cell rfl,AE (fun aI=> ?_) fun aH j=>Ab rfl (T (fun m h1 h2 h3=> ?_) _ v)⟩
 ·obtain⟨e,he⟩: ∃e,P[pos kP P page]? =some e:=⟨_,List.getElem?_eq_getElem (by omega)⟩;obtain⟨b,hb,N,_⟩:=MB v he;have O:=pos_at he;have hr:=J.Oo (List.mem_of_getElem? he);unfold kP at O;refine⟨g.s3,v.cell rfl,?_⟩;rw[hb];refine⟨⟨by omega,by omega⟩,e.1,by simpa using N,fun j=>AE (fun g1=> ?_) fun g1=>T (fun m h1 h2 h3=> ?_) _ v⟩
  ·refine⟨g.s3,v.cell rfl,?_⟩;rw[hb];refine⟨⟨by omega,by omega⟩,e.1,by simpa using N,?_⟩;rw[AG (n:=e.1+1)];exact aB e.1 (J.iE (List.mem_of_getElem? he)) O g1 hr.2 _ v
  ·obtain⟨d,hd,Y⟩:=(J.hp m).1 h3;obtain⟨j,C⟩:=List.mem_iff_getElem?.1 hd;rcases Nat.lt_or_ge j (pos kP P page)with q|q
   ·have:=FM (key:=kP) C q;unfold kP at this Y;omega
   ·rcases Nat.lt_or_eq_of_le q with q|q
    ·have:=J.F6.lt he C q;unfold kP at this Y;omega
    ·subst q;rw[he]at C;cases C;unfold kP at Y;omega
 ·obtain⟨d,hd,Y⟩:=(J.hp m).1 h3;obtain⟨j,C⟩:=List.mem_iff_getElem?.1 hd;have:=(List.getElem?_eq_some_iff.1 C).1;have:=FM (key:=kP) C (n:=page) (by omega);omega
theorem least(p:Nat->Prop): ∀n,p n-> ∃n,p n/\ ∀m,m<n-> ¬p m:=by
 intro n
 induction n using Nat.strongRecOn with
 | ind n ih=>
  intro h;rcases Classical.em (∃m,m<n/\p m)with ⟨m,h1,j⟩|d
  ·exact ih m h1 j
  ·exact⟨n,h,fun m h1 j=>d ⟨m,h1,j⟩⟩
theorem Wk{l:Iv}(K: ∀p,mem l p->p<34359738368)(d AA:Int)(hf:d<=34359738368): ∃a,IS l d AA a:=by
 have hex: ∃n:Nat,(512*(n:Int)) %512=0/\512<=512*(n:Int)/\d<=512*(n:Int)/\ ∀m,512*(n:Int)<=m->m<512*(n:Int)+AA-> ¬mem l m:=
  ⟨67108864,by decide,by decide,by omega,fun m h1 _ J=>by have:=K m J;omega⟩
 obtain⟨Y,C⟩:=hex;obtain⟨n,hs,j⟩:=least (fun n:Nat=>(512*(n:Int)) %512=0/\512<=512*(n:Int)/\d<=512*(n:Int)/\ ∀m,512*(n:Int)<=m->m<512*(n:Int)+AA-> ¬mem l m) Y C;refine⟨512*(n:Int),hs.1,hs.2.1,hs.2.2.1,hs.2.2.2,fun a O h1 h2 J=> ?_⟩;have:=j (a/512).toNat (by omega);have e:512*(((a/512).toNat:Nat):Int)=a:=by omega
 rw[e]at this;exact Classical.byContradiction fun v=>this ⟨O,h1,h2,fun m g1 N T=>v ⟨m,g1,N,T⟩⟩
theorem NA(hI:Em V P W)(H:Sat (Dr E c V g P W++Z) w){d AA:Int}(h0:0<=d)(h1:d<18446744073709551616)(p0:0<AA)(p1:AA<=134217728){K:Int->Bool->World->Prop}
  (aH:HI V.laid d AA-> ∀w',Sat (Dr E c V g P W++Z) w'->K 0 false w')
  (aO: ∀at_,Qg V.laid d AA at_-> ∀w',Sat (Dr E c V g P W++Z) w'->K at_ true w'):
  F.BF E (some ⟨c,0,none⟩) d AA K w:=by
 unfold F.BF T0.BF;have main: ∀page:Int,0<page->page<18446744073709551616->d<=page->(∀a,a %512=0->512<=a->d<=a->a<page-> ∃m,a<=m/\m<a+AA/\mem V.laid m)->
   Be (Int×Unit) (page,()) w fun s4 _ w5 aE=>
   CND (decide ((s4.1:Int)≥34359738368)) (
    K 0 false w5
   ) (
    Av (Int×Unit) (fun J7=>
     512≠(0:Int)/\
     CND (((Int.tmod s4.1 512):Int) !=0) (
      512≠(0:Int)/\
      Gl (u64 ((u64 (s4.1+512))-(Int.tmod s4.1 512)):Int) fun aC=>
      J7 (aC,()) w5
     ) (
      J7 (s4.1,()) w5
     )
    ) fun s8 _ w9=>
     Av (Bool×Unit) (fun aA=>
      CND (decide ((s8.1:Int)≥34359738368)) (
       aA (true,()) w9
      ) (
       aA (decide ((AA:Int)>(u64 (34359738368-s8.1))),()) w9
      )
     ) fun aF _ Y=>
      CND (aF.1) (
       K 0 false Y
      ) (
       F.Ay E (some ⟨c,0,none⟩) s8.1 AA (fun J aG aB=>
       CND (aG) (
        K s8.1 true aB
       ) (
        aE (J,()) aB
       )
       ) Y
      )
   ):=by
  intro page N aD T C;refine AM (fun st w'=>0<st.1/\st.1<18446744073709551616/\d<=st.1/\(∀a,a %512=0->512<=a->d<=a->a<st.1-> ∃m,a<=m/\m<a+AA/\mem V.laid m)/\Sat (Dr E c V g P W++Z) w') (fun st _=>(34359738368+1-st.1).toNat) ⟨N,aD,T,C,H⟩ ?_;clear N aD T C H page;rintro⟨page,v⟩ _ w5 ⟨N,aD,T,C,H⟩;dsimp only at N aD T C⊢;have aK: ∀p,mem V.laid p->p<34359738368:=fun p hp=>(hI.ok.Gc p hp).2;have none: ∀page:Int,d<=page->(∀a,a %512=0->512<=a->d<=a->a<page-> ∃m,a<=m/\m<a+AA/\mem V.laid m)->34359738368<page+AA->HI V.laid d AA:=fun page T C aY=>by
   rcases Int.lt_or_le 34359738368 d with g|g
   ·exact .inl g
   ·obtain⟨a,ha⟩:=Wk aK d AA g;refine .inr ⟨a,ha,fun h=> ?_⟩;rcases Int.lt_or_le a page with q|q
    ·obtain⟨m,m1,m2,m3⟩:=C a ha.mul ha.low ha.fr q;exact ha.free m m1 m2 m3
    ·omega
  refine AE (fun aZ=>aH (none page T C (by omega)) _ H) fun aW=> ?_;have cont: ∀q:Int,page<=q->q<page+512->q %512=0-> ∀j:Nat->Value,
    Av (Bool×Unit) (fun aA=>
      CND (decide ((q:Int)≥34359738368)) (
       aA (true,()) w5
      ) (
       aA (decide ((AA:Int)>(u64 (34359738368-q))),()) w5
      )
     ) fun aF _ Y=>
      CND (aF.1) (
       K 0 false Y
      ) (
       F.Ay E (some ⟨c,0,Option.none⟩) q AA (fun J aG aB=>
       CND (aG) (
        K q true aB
       ) (
        ((0<J/\J<18446744073709551616/\d<=J/\(∀a,a %512=0->512<=a->d<=a->a<J-> ∃m,a<=m/\m<a+AA/\mem V.laid m)/\Sat (Dr E c V g P W++Z) aB)/\(34359738368+1-J).toNat<(34359738368+1-page).toNat)
       )
       ) Y
      ):=by
   intro q q0 q1 q8 j;have O: ∀a,a %512=0->512<=a->d<=a->a<q-> ∃m,a<=m/\m<a+AA/\mem V.laid m:=fun a a1 a2 a3 a4=>C a a1 a2 a3 (by omega);refine Ax (AE (fun g1 j=>Ao rfl (aH (none q (by omega) O (by omega)) _ H)) fun g1=> ?_);rw[AG (n:=34359738368-q)];refine fun j=>AE (fun g2=>aH (none q (by omega) O (by omega)) _ H) fun g2=> ?_;refine M9 hI H (by omega) (by omega) (by omega) (fun aN w' H'=>Ao rfl (aO q ⟨by omega,⟨q8,by omega,by omega,aN,O⟩,by omega⟩ _ H')) fun m m0 m1 m2 m3 w' H'=>Ab rfl ⟨⟨by omega,by omega,by omega,fun a a1 a2 a3 a4=> ?_,H'⟩,by omega⟩;rcases Int.lt_or_le a q with g|g
   ·exact O a a1 a2 a3 g
   ·exact⟨m,by omega,by omega,m0⟩
  rw[Int.tmod_eq_emod_of_nonneg (by omega)];refine Ax ⟨by decide,DE (fun hm=>⟨by decide,AY fun q hq=> ?_⟩) fun hm=>cont page (Int.le_refl _) (by omega) hm⟩;rw[AG (n:=page+512),AG]at hq;exact cont q (by omega) (by omega) (by omega)
 refine Ax (CO (fun e j=>main 512 (by decide) (by decide) (by omega) fun a _ a2 _ a4=>by omega) fun e j=>main d (by omega) h1 (Int.le_refl _) fun a _ _ a3 a4=>by omega)
theorem Sr(H:Sat (Db E c V::Z) w){n:Int}{K:Int->World->Prop}(C: ∀w',Sat (Db E c V::Z) w'->K (Q3 V n) w'):F.Bv E (some ⟨c,0,none⟩) n K w:=by
 obtain⟨g,P,W,v,H⟩:=Sat.LD.1 H;unfold F.Bv T0.Bv;refine Hs v H fun b j J d=> ?_;have fin:=C J (Sat.LD.2 ⟨g,P,W,v,d⟩);have T:=Kk d;cases b
 ·refine Ao rfl ?_;have: ¬mem V.laid n:=fun h=>by have:=j.2 ((Wj v).2 h);cases this
  have e:Q3 V n=0:=by unfold Q3;rw[if_neg fun h=>this (A9.1 h)]
  rw[e]at fin;exact fin
 ·refine Ab rfl ?_;obtain⟨e,he,N⟩:=j.1 rfl;obtain⟨b,j,_,_,h1,_⟩:=MB d he;have O:=(List.getElem?_eq_some_iff.1 he).1;simp only[AI];refine⟨g.s3,d.cell rfl,?_⟩;rw[j];refine⟨⟨by omega,by omega⟩,e.2.1,by simpa using h1,?_⟩;rw[v.hs e (List.mem_of_getElem? he),N];exact fin
def YV(V:VS)(k:Int):Int:=if k=2 then CK V.ready else if k=3 then CK V.rel else if k=1 then CK V.laid-CK V.ready-CK V.rel else 0
theorem Ss: ∀(P:Wh),(∀e∈P,e.2.1=1∨e.2.1=2∨e.2.1=3)->P.length=(P.filter fun e=>e.2.1==1).length+(P.filter fun e=>e.2.1==2).length+(P.filter fun e=>e.2.1==3).length
 | [],_=>rfl
 | e::r,h=>by
  have j:=Ss r fun d v=>h d (by simp[v]);rcases h e (by simp)with g|g|g<;>simp[List.filter_cons,g,j]<;>omega
theorem Su(j:Em V P W){k:Int}(d:k≠0):((P.filter fun e=>e.2.1==k).length:Int)=YV V k:=by
 have v: ∀e∈P,(e.2.1=1/\ ¬mem V.ready e.1/\ ¬mem V.rel e.1)∨(e.2.1=2/\mem V.ready e.1/\ ¬mem V.rel e.1)∨(e.2.1=3/\ ¬mem V.ready e.1/\mem V.rel e.1):=fun e he=>by
  have h:=j.hs e he;have hm:=j.iE he;rcases HW j.ok e.1 with ⟨_,g,_⟩|⟨N,_,J,K⟩|⟨N,_,J,K⟩|⟨N,_,J,K⟩
  ·exact absurd hm g
  ·exact .inl ⟨h.trans N,J,K⟩
  ·exact .inr (.inl ⟨h.trans N,J,K⟩)
  ·exact .inr (.inr ⟨h.trans N,J,K⟩)
 have C:((P.filter fun e=>e.2.1==2).length:Int)=CK V.ready:=by
  refine Nf (j.F6.filter _) j.ok.IT (fun p=> ?_) (a:=0) (n:=34359738368) fun p hp=>by have:=j.ok.Gc p (j.ok.rl p hp);omega
  constructor
  ·intro hp;obtain⟨e,he,d⟩:=(j.hp p).1 (j.ok.rl p hp);refine⟨e,List.mem_filter.2 ⟨he,?_⟩,d⟩;rcases v e he with ⟨_,g,_⟩|⟨g,_,_⟩|⟨_,g,_⟩
   ·unfold kP at d;rw[d]at g;exact absurd hp g
   ·simp[g]
   ·unfold kP at d;rw[d]at g;exact absurd hp g
  ·rintro⟨e,he,d⟩;obtain⟨he,C⟩:=List.mem_filter.1 he;unfold kP at d;rcases v e he with ⟨g,_,_⟩|⟨_,g,_⟩|⟨g,_,_⟩
   ·rw[g]at C;cases C
   ·rw[d]at g;exact g
   ·rw[g]at C;cases C
 have O:((P.filter fun e=>e.2.1==3).length:Int)=CK V.rel:=by
  refine Nf (j.F6.filter _) j.ok.JM (fun p=> ?_) (a:=0) (n:=34359738368) fun p hp=>by have:=j.ok.Gc p (j.ok.el p hp);omega
  constructor
  ·intro hp;obtain⟨e,he,d⟩:=(j.hp p).1 (j.ok.el p hp);refine⟨e,List.mem_filter.2 ⟨he,?_⟩,d⟩;unfold kP at d;rcases v e he with ⟨_,_,g⟩|⟨_,_,g⟩|⟨g,_,_⟩
   ·rw[d]at g;exact absurd hp g
   ·rw[d]at g;exact absurd hp g
   ·simp[g]
  ·rintro⟨e,he,d⟩;obtain⟨he,C⟩:=List.mem_filter.1 he;unfold kP at d;rcases v e he with ⟨g,_,_⟩|⟨g,_,_⟩|⟨_,_,g⟩
   ·rw[g]at C;cases C
   ·rw[g]at C;cases C
   ·rw[d]at g;exact g
 have h1:=Ss P fun e he=>(v e he).elim (fun g=>.inl g.1) fun g=>g.elim (fun g=>.inr (.inl g.1)) fun g=>.inr (.inr g.1);have T:=j.mH;unfold YV;by_cases e2:k=2
 ·subst e2;rw[if_pos rfl];exact C
 rw[if_neg e2];by_cases e3:k=3
 ·subst e3;rw[if_pos rfl];exact O
 rw[if_neg e3];by_cases e1:k=1
 ·subst e1;rw[if_pos rfl];omega
 rw[if_neg e1];have:(P.filter fun e=>e.2.1==k)=[]:=by
  rw[List.filter_eq_nil_iff];intro e he;rcases v e he with ⟨g,_⟩|⟨g,_⟩|⟨g,_⟩<;>rw[g]<;>simp<;>omega
 rw[this];rfl
def UY(P:Wh)(k:Int)(i:Nat):Int:=if k=0 then 0 else(((P.take i).filter fun e=>e.2.1==k).length:Int)
theorem Sv(H:Sat (Db E c V::Z) w){k:Int}{K:Int->World->Prop}(hK: ∀w',Sat (Db E c V::Z) w'->K (YV V k) w'):F.Dj E (some ⟨c,0,none⟩) k K w:=by
 have H0:=H;obtain⟨g,P,W,T,H⟩:=Sat.LD.1 H;have hl:=Kk H;have hf:=T.YU;unfold F.Dj;refine AM (fun st w'=>w'=w/\ ∃i:Nat,st.2.1=i/\i<=P.length/\st.1=UY P k i) (fun st _=>(P.length-st.2.1).toNat) ⟨rfl,0,rfl,Nat.zero_le _,by simp[UY]⟩ ?_;rintro⟨n,i',v⟩ _ w' ⟨N,i,hi,Y,d⟩;subst N;dsimp only at hi d⊢;subst hi;simp only[AI];refine⟨g.s3,H.cell rfl,AE (fun aG=> ?_) fun aE=> ?_⟩
 ·obtain⟨e,he⟩: ∃e,P[i]? =some e:=⟨_,List.getElem?_eq_getElem (by omega)⟩;obtain⟨b,hb,_,_,h1,_⟩:=MB H he;have O:i<P.length:=by omega
  have C:P.take (i+1)=P.take i++[e]:=by rw[List.take_succ,he];rfl
  have aB:((P.take i).filter fun e=>e.2.1==k).length<=i:=Nat.le_trans (List.length_filter_le _ _) (by rw[List.length_take];omega);rw[AN (n:=(i:Int)+1)];refine Ax ⟨g.s3,H.cell rfl,?_⟩;rw[hb];refine⟨⟨by omega,by omega⟩,e.2.1,by simpa using h1,CO (fun J j=>DE (fun k0=> ?_) fun k0=> ?_) fun J j=>Ab rfl ?_⟩
  ·unfold UY at d;rw[if_neg k0]at d;rw[d,AG];refine⟨⟨by trivial,i+1,by omega,by omega,?_⟩,by omega⟩;unfold UY;rw[if_neg k0,C,List.filter_append,List.length_append];simp[List.filter_cons,J]
  ·refine⟨⟨by trivial,i+1,by omega,by omega,?_⟩,by omega⟩;rw[d];unfold UY;rw[if_pos k0,if_pos k0]
  ·refine⟨⟨by trivial,i+1,by omega,by omega,?_⟩,by omega⟩;rw[d];unfold UY;rw[C,List.filter_append,List.length_append];simp[List.filter_cons,J]
 ·have:=hK w' H0;have e:n=YV V k:=by
   rw[d];unfold UY;rw[List.take_of_length_le (by omega)];by_cases k0:k=0
   ·rw[if_pos k0,k0];rfl
   ·rw[if_neg k0];exact Su T k0
  rw[e];exact this
end
end Go.Sh
set_option linter.all false
set_option maxRecDepth 4000
set_option maxHeartbeats 1000000
namespace Go.Sh
section
variable{V V':VS}{P:Wh}{W W':YT}{p:Int}
theorem YW(h:MX V)(d:mem V.ready p):Q3 V p=2:=by
 rcases HW h p with ⟨_,_,g,_⟩|⟨_,_,g,_⟩|⟨g,_⟩|⟨_,_,g,_⟩
 ·exact absurd d g
 ·exact absurd d g
 ·exact g
 ·exact absurd d g
theorem mJ(h:MX V)(d:mem V.rel p):Q3 V p=3:=by
 rcases HW h p with ⟨_,_,_,g⟩|⟨_,_,_,g⟩|⟨_,_,_,g⟩|⟨g,_⟩
 ·exact absurd d g
 ·exact absurd d g
 ·exact absurd d g
 ·exact g
theorem mK(h:MX V)(h1:mem V.laid p)(j: ¬mem V.ready p)(d: ¬mem V.rel p):Q3 V p=1:=by
 rcases HW h p with ⟨_,g,_⟩|⟨g,_⟩|⟨_,_,g,_⟩|⟨_,_,_,g⟩
 ·exact absurd h1 g
 ·exact g
 ·exact absurd g j
 ·exact absurd g d
theorem KW(h1:mem V'.laid p↔mem V.laid p)(v:mem V'.ready p↔mem V.ready p)(d:mem V'.rel p↔mem V.rel p):Q3 V' p=Q3 V p:=by
 have J:Ik V'.laid p=Ik V.laid p:=Bool.eq_iff_iff.2 (by rw[A9,A9];exact h1);have j:Ik V'.ready p=Ik V.ready p:=Bool.eq_iff_iff.2 (by rw[A9,A9];exact v);have C:Ik V'.rel p=Ik V.rel p:=Bool.eq_iff_iff.2 (by rw[A9,A9];exact d);unfold Q3;rw[J,j,C]
theorem Em.st(C:Em V P W){e:Int×Int×Int}(he:e∈P):(e.2.1=1/\ ¬mem V.ready e.1/\ ¬mem V.rel e.1)∨(e.2.1=2/\mem V.ready e.1/\ ¬mem V.rel e.1)∨(e.2.1=3/\ ¬mem V.ready e.1/\mem V.rel e.1):=by
 have h:=C.hs e he;have hm:=C.iE he;rcases HW C.ok e.1 with ⟨_,g,_⟩|⟨d,_,j,v⟩|⟨d,_,j,v⟩|⟨d,_,j,v⟩
 ·exact absurd hm g
 ·exact .inl ⟨h.trans d,j,v⟩
 ·exact .inr (.inl ⟨h.trans d,j,v⟩)
 ·exact .inr (.inr ⟨h.trans d,j,v⟩)
theorem Em.iY(d:Em V P W){e:Int×Int×Int}(he:e∈P):e.2.1=2↔mem V.ready e.1:=by
 rcases d.st he with ⟨g,h,_⟩|⟨g,h,_⟩|⟨g,h,_⟩
 ·exact⟨fun k=>by omega,fun k=>absurd k h⟩
 ·exact⟨fun _=>h,fun _=>g⟩
 ·exact⟨fun k=>by omega,fun k=>absurd k h⟩
theorem Em.tB(d:Em V P W){e:Int×Int×Int}(he:e∈P):e.2.1=3↔mem V.rel e.1:=by
 rcases d.st he with ⟨g,_,h⟩|⟨g,_,h⟩|⟨g,_,h⟩
 ·exact⟨fun k=>by omega,fun k=>absurd k h⟩
 ·exact⟨fun k=>by omega,fun k=>absurd k h⟩
 ·exact⟨fun _=>h,fun _=>g⟩
theorem VX{F:Int×Int×Int->Int×Int×Int}(d: ∀e,kP (F e)=kP e)(hs:HJ kP P):HJ kP (P.map F):=by
 unfold HJ;rw[List.pairwise_map];exact List.Pairwise.imp (fun h=>by rw[d,d];exact h) hs
theorem map_set{F C:Int×Int×Int->Int×Int×Int}(hs:HJ kP P){j:Nat}{e:Int×Int×Int}(v:P[j]? =some e)(h: ∀d∈P,d.1≠e.1->C d=F d):(P.map F).set j (C e)=P.map C:=by
 apply List.ext_getElem?;intro i;rw[List.getElem?_set,List.getElem?_map,List.getElem?_map,List.length_map];by_cases J:j=i
 ·subst J;rw[if_pos rfl,if_pos (List.getElem?_eq_some_iff.1 v).1,v];rfl
 ·rw[if_neg J];cases hd:P[i]? with
  | none=>rfl
  | some d=>
   have:d.1≠e.1:=by
    rcases Nat.lt_or_gt_of_ne J with q|q
    ·have:=hs.lt v hd q;unfold kP at this;omega
    ·have:=hs.lt hd v q;unfold kP at this;omega
   show some (F d)=some (C d);rw[h d (List.mem_of_getElem? hd) this]
theorem Em.full(d:Em V P W){a:Int}{n:Nat}(hf: ∀m,a<=m->m<a+n->mem V.laid m){k:Nat}(J:k<n): ∃e,P[pos kP P a+k]? =some e/\e.1=a+k:=by
 obtain⟨e,he,j⟩:=(d.hp (a+k)).1 (hf _ (by omega) (by omega));have h1:=Ls d.F6 he j;have v:=Qj d.F6 d.ok.Gz d.hp a k;rw[(Ci d.ok.Gz (by omega)).2 fun m m1 C=>hf m m1 (by omega)]at v;rw[show pos kP P (a+(k:Int))=pos kP P a+k by omega]at h1;exact⟨e,h1,j⟩
theorem Em.Q4(v:Em V P W)(BH:MX V'){a:Int}{n:Nat}(T:V'.ready=V.ready)(hl:V'.rel=V.rel)(N:V'.wd=V.wd)(Y: ∀x∈V'.pl,x∈V.pl)
  (hm: ∀p,mem V'.laid p↔mem V.laid p∨(a<=p/\p<a+n))(C: ∀p,a<=p->p<a+n-> ¬mem V.laid p):
  Em V' (P.take (pos kP P a)++((List.range n).map fun i:Nat=>(a+(i:Int),(1:Int),(0:Int)))++P.drop (pos kP P a)) W:=by
 have d: ∀e,e∈P.take (pos kP P a)++((List.range n).map fun i:Nat=>(a+(i:Int),(1:Int),(0:Int)))++P.drop (pos kP P a)↔e∈P∨ ∃i:Nat,i<n/\e=(a+(i:Int),1,0):=fun e=>by
  rw[List.mem_append,List.mem_append,List.mem_map];constructor
  ·rintro((h|⟨i,h,rfl⟩)|h)
   ·exact .inl (Eb h).1
   ·exact .inr ⟨i,List.mem_range.1 h,rfl⟩
   ·exact .inl (FZ v.F6 h).1
  ·rintro(h|⟨i,h,rfl⟩)
   ·rcases Int.lt_or_le (kP e) a with g|g
    ·exact .inl (.inl (Po v.F6 h g))
    ·exact .inr (Pp h g)
   ·exact .inl (.inr ⟨i,List.mem_range.2 h,rfl⟩)
 have K: ∀p,a<=p->p<a+n-> ¬mem V.ready p/\ ¬mem V.rel p:=fun p h1 h2=>⟨fun h=>C p h1 h2 (v.ok.rl p h),fun h=>C p h1 h2 (v.ok.el p h)⟩;refine⟨BH,?_,v.iD,fun p=> ?_,fun e he=> ?_,fun e he=> ?_,fun e he J i h0 h1 hx=> ?_,fun x hx=>v.R7 x (Y x hx)⟩
 ·refine HJ.aF (v.F6.take _) ?_ (v.F6.drop _) (a:=a) (b:=a+n) (by omega) (fun e he=>(Eb he).2) (fun e he=> ?_) fun e he=> ?_
  ·unfold HJ;rw[List.pairwise_map];exact List.Pairwise.imp (fun h=>by unfold kP;dsimp only;omega) List.pairwise_lt_range
  ·obtain⟨i,hi,rfl⟩:=List.mem_map.1 he;have:=List.mem_range.1 hi;unfold kP;dsimp only;omega
  ·have h1:=FZ v.F6 he;rcases Int.lt_or_le (kP e) (a+n)with g|g
   ·exact absurd (v.iE h1.1) (C _ h1.2 g)
   ·exact g
 ·rw[hm,v.hp];constructor
  ·rintro(⟨e,he,O⟩|⟨h1,h2⟩)
   ·exact⟨e,(d e).2 (.inl he),O⟩
   ·refine⟨(p,1,0),(d _).2 (.inr ⟨(p-a).toNat,by omega,?_⟩),rfl⟩;rw[show a+((p-a).toNat:Int)=p by omega]
  ·rintro⟨e,he,O⟩;rcases(d e).1 he with h|⟨i,hi,rfl⟩
   ·exact .inl ⟨e,h,O⟩
   ·unfold kP at O;dsimp only at O;exact .inr (by omega)
 ·rcases(d e).1 he with h|⟨i,hi,rfl⟩
  ·rw[v.hs e h];refine(KW ⟨fun g=> ?_,fun g=>(hm _).2 (.inl g)⟩ (by rw[T]) (by rw[hl])).symm;exact v.iE h
  ·have:=K (a+(i:Int)) (by omega) (by omega);exact(mK BH ((hm _).2 (.inr ⟨by dsimp only;omega,by dsimp only;omega⟩)) (by rw[T];exact this.1) (by rw[hl];exact this.2)).symm
 ·rw[T,N];exact v.hw e he
 ·rw[T]at J;rcases(d e).1 he with h|⟨j,hj,rfl⟩
  ·rw[N];exact v.hf e h J i h0 h1 hx
  ·exact absurd J (K (a+(j:Int)) (by omega) (by omega)).1
def cF(V:VS)(page x:Int)(e:Int×Int×Int):Int×Int×Int:=if page<=e.1/\e.1<x/\e.2.1≠2 then(e.1,2,if e.2.1=3 then Ei V page e.1 else 0)else e
theorem O0(V:VS)(page x:Int)(e:Int×Int×Int):kP (cF V page x e)=kP e:=by unfold cF;split<;>rfl
theorem Em.LB(j:Em V P W){page AA:Int}(BH:MX V')(h1:V'.laid=V.laid)(O: ∀p,mem V'.ready p↔mem V.ready p∨(page<=p/\p<page+AA))(h3: ∀p,mem V'.rel p↔mem V.rel p/\ ¬(page<=p/\p<page+AA))
  (T: ∀p i,V'.wd p i=if page<=p/\p<page+AA/\Ik V.rel p=true then Ei V page p else V.wd p i)(aA: ∀x∈V'.pl,x∈V.pl):Em V' (P.map (cF V page (page+AA))) W:=by
 refine⟨BH,VX (O0 V page _) j.F6,j.iD,fun p=> ?_,fun e' v=> ?_,fun x K=> ?_,fun e' v C i i0 i1 K=> ?_,fun x K=>j.R7 x (aA x K)⟩
 ·rw[h1,j.hp];constructor
  ·rintro⟨e,he,J⟩;exact⟨_,List.mem_map_of_mem he,(O0 V page _ e).trans J⟩
  ·rintro⟨e',v,J⟩;obtain⟨e,he,rfl⟩:=List.mem_map.1 v;exact⟨e,he,(O0 V page _ e).symm.trans J⟩
 ·obtain⟨e,he,rfl⟩:=List.mem_map.1 v;have J:(cF V page (page+AA) e).1=e.1:=O0 V page _ e;rw[J];unfold cF;by_cases c:page<=e.1/\e.1<page+AA/\e.2.1≠2
  ·rw[if_pos c];exact(YW BH ((O _).2 (.inr ⟨c.1,c.2.1⟩))).symm
  ·rw[if_neg c];by_cases c2:mem V.ready e.1
   ·rw[(j.iY he).2 c2];exact(YW BH ((O _).2 (.inl c2))).symm
   ·have c3: ¬(page<=e.1/\e.1<page+AA):=fun g=>c ⟨g.1,g.2,fun k=>c2 ((j.iY he).1 k)⟩;rw[j.hs e he];refine(KW (by rw[h1]) ?_ ?_).symm
    ·rw[O];exact⟨fun g=>g.elim id fun g=>absurd g c3,.inl⟩
    ·rw[h3];exact⟨fun g=>g.1,fun g=>⟨g,c3⟩⟩
 ·obtain⟨g1,g2,g3⟩:=j.hw x K;refine⟨g1,(O _).2 (.inl g2),?_⟩;rw[T,if_neg fun g=>j.ok.re _ g2 (A9.1 g.2.2)];exact g3
 ·obtain⟨e,he,rfl⟩:=List.mem_map.1 v;have J:(cF V page (page+AA) e).1=e.1:=O0 V page _ e;rw[J]at C K⊢;rw[T];rcases j.st he with ⟨s,N,Y⟩|⟨s,N,Y⟩|⟨s,N,Y⟩
  ·have d:=((O _).1 C).resolve_left N;rw[if_neg fun g=>Y (A9.1 g.2.2)];unfold cF;rw[if_pos ⟨d.1,d.2,by omega⟩];dsimp only;rw[if_neg (by omega)];exact j.ok.clean _ _ i0 i1 N
  ·rw[if_neg fun g=>Y (A9.1 g.2.2)];unfold cF;rw[if_neg fun g=>g.2.2 s];exact j.hf e he N i i0 i1 K
  ·have d:=((O _).1 C).resolve_left N;rw[if_pos ⟨d.1,d.2,A9.2 Y⟩];unfold cF;rw[if_pos ⟨d.1,d.2,by omega⟩];dsimp only;rw[if_pos s]
def rF(page x:Int)(e:Int×Int×Int):Int×Int×Int:=if page<=e.1/\e.1<x then(e.1,3,0)else e
theorem O1(page x:Int)(e:Int×Int×Int):kP (rF page x e)=kP e:=by unfold rF;split<;>rfl
theorem Em.release(C:Em V P W){page AA:Int}(BH:MX V')(h1:V'.laid=V.laid)(T: ∀p,mem V'.ready p↔mem V.ready p/\ ¬(page<=p/\p<page+AA))(h3: ∀p,mem V'.rel p↔mem V.rel p∨(page<=p/\p<page+AA))
  (J: ∀p i,V'.wd p i=if page<=p/\p<page+AA then 0 else V.wd p i)(O: ∀x∈V'.pl,x∈V.pl)(N:HJ kW W')(hw: ∀x,x∈W'↔x∈W/\ ¬(page*8192<=x.1/\x.1<page*8192+AA*8192)):Em V' (P.map (rF page (page+AA))) W':=by
 refine⟨BH,VX (O1 page _) C.F6,N,fun p=> ?_,fun e' d=> ?_,fun x j=> ?_,fun e' d K i i0 i1 j=> ?_,fun x j=>C.R7 x (O x j)⟩
 ·rw[h1,C.hp];constructor
  ·rintro⟨e,he,v⟩;exact⟨_,List.mem_map_of_mem he,(O1 page _ e).trans v⟩
  ·rintro⟨e',d,v⟩;obtain⟨e,he,rfl⟩:=List.mem_map.1 d;exact⟨e,he,(O1 page _ e).symm.trans v⟩
 ·obtain⟨e,he,rfl⟩:=List.mem_map.1 d;have v:(rF page (page+AA) e).1=e.1:=O1 page _ e;rw[v];unfold rF;by_cases c:page<=e.1/\e.1<page+AA
  ·rw[if_pos c];exact(mJ BH ((h3 _).2 (.inr c))).symm
  ·rw[if_neg c,C.hs e he];refine(KW (by rw[h1]) ?_ ?_).symm
   ·rw[T];exact⟨fun g=>g.1,fun g=>⟨g,c⟩⟩
   ·rw[h3];exact⟨fun g=>g.elim id fun g=>absurd g c,.inl⟩
 ·obtain⟨j,aC⟩:=(hw x).1 j;obtain⟨g1,g2,g3⟩:=C.hw x j;have c: ¬(page<=x.1/8192/\x.1/8192<page+AA):=by omega
  refine⟨g1,(T _).2 ⟨g2,c⟩,?_⟩;rw[J,if_neg c];exact g3
 ·obtain⟨e,he,rfl⟩:=List.mem_map.1 d;have v:(rF page (page+AA) e).1=e.1:=O1 page _ e;rw[v]at K j⊢;obtain⟨r1,c⟩:=(T _).1 K;rw[J,if_neg c];unfold rF;rw[if_neg c];refine C.hf e he r1 i i0 i1 fun x Y aA=>j x ((hw x).2 ⟨Y,by omega⟩) aA
theorem YX(hs:HJ kW W){a b:Int}(d:a<=b)(x:Int×Int):x∈W.take (pos kW W a)++W.drop (pos kW W b)↔x∈W/\ ¬(a<=x.1/\x.1<b):=by
 rw[List.mem_append];constructor
 ·rintro(h|h)
  ·have:=Eb h;unfold kW at this;exact⟨this.1,by omega⟩
  ·have:=FZ hs h;unfold kW at this;exact⟨this.1,by omega⟩
 ·rintro⟨h,g⟩;rcases Int.lt_or_le x.1 a with q|q
  ·exact .inl (Po hs h q)
  ·exact .inr (Pp h (by unfold kW;omega))
theorem YY(hs:HJ kW W){a b:Int}(j:a<=b):HJ kW (W.take (pos kW W a)++W.drop (pos kW W b)):=by
 unfold HJ;rw[List.pairwise_append];refine⟨hs.take _,hs.drop _,fun x d y v=> ?_⟩;have:=(Eb d).2;have:=(FZ hs v).2;omega
theorem MX.congr(h:MX V)(h1:V'.laid=V.laid)(d:V'.ready=V.ready)(j:V'.rel=V.rel)(hw: ∀p i,0<=i->i<1024-> ¬mem V.ready p->V'.wd p i=0):MX V':=
 ⟨by rw[h1];exact h.Gz,by rw[d];exact h.IT,by rw[j];exact h.JM,by rw[h1,d];exact h.rl,by rw[h1,j];exact h.el,by rw[d,j];exact h.re,by rw[h1];exact h.Gc,by rw[d];exact hw,by rw[h1,d,j];exact h.Xz⟩
theorem Em.congr(d:Em V P W)(h1:V'.laid=V.laid)(C:V'.ready=V.ready)(N:V'.rel=V.rel)(J: ∀x∈V'.pl,x∈V.pl)(j: ∀p i,0<=i->i<1024->V'.wd p i=V.wd p i):Em V' P W:=by
 refine⟨d.ok.congr h1 C N fun p i i0 i1 h=>by rw[j p i i0 i1];exact d.ok.clean p i i0 i1 h,d.F6,d.iD,fun p=>by rw[h1];exact d.hp p,fun e he=> ?_,fun y K=> ?_,fun e he v i i0 i1 Y=> ?_,fun y K=>d.R7 y (J y K)⟩
 ·rw[d.hs e he];exact(KW (by rw[h1]) (by rw[C]) (by rw[N])).symm
 ·obtain⟨g1,O,T⟩:=d.hw y K;exact⟨g1,by rw[C];exact O,by rw[j _ _ (by omega) (by omega)];exact T⟩
 ·rw[C]at v;rw[j _ _ i0 i1];exact d.hf e he v i i0 i1 Y
end
end Go.Sh
set_option linter.all false
set_option maxRecDepth 4000
set_option maxHeartbeats 2000000
namespace Go.Sh
theorem YZ{F:List Pr}{w:World}{t:Nat}{x y z:Int}(H:Sat F w){K:Nat->World->Prop}(C: ∀b w',Sat (Cells b t [.int .u64 x,.int .i64 y,.int .u64 z]::F) w'->K b w'):
  AL (.cells #[.int .u64 0,.int .i64 0,.int .u64 0] t) w fun b w1=>stCells (Addr.mk b 0 none) 0 [.int .u64 x,.int .i64 y,.int .u64 z] w1 fun d=>K b d:=by
 refine Am (vs:=[.int .u64 0,.int .i64 0,.int .u64 0]) H fun b w1 H1 _=> ?_;exact Jg (news:=[.int .u64 x,.int .i64 y,.int .u64 z]) H1 rfl (by intro v j;simp at j;rcases j with rfl|rfl|rfl<;>rfl) fun d J=>C b d J
section
variable{E:Env}{c:Nat}{V:VS}{Z:List Pr}{w:World}{g:MG}{P:Wh}{W:YT}
theorem mL{s:AZ}{P':Wh}(H:Sat (Row E.AX 3 s (BV Wi P')::(Dr E c V g P W++Z)) w){K:World->Prop}(d: ∀w',Sat (Dr E c V {g with s3:=s} P' W++Z) w'->K w'):
  stCells ((Addr.mk c 0 none).add 3) 0 [.slice s.base s.len s.cap] w K:=by
 refine Aj (H.front 1 rfl) (o:=0) (m:=3) rfl (by simp[KD]) fun w' j=>d w' ?_;have h1:=(j.front 5 rfl).tail;exact Sat.Jz [Cells c E.Ac (KD {g with s3:=s}),F4 g.s0 (ints .u64 V.pl),F4 g.s1 (BS V.rf),F4 g.s2 (ints .u64 V.fl)] (T:=Row E.Cm 2 g.s4 (BV bO W)::Z) (h1.front 1 rfl)
theorem mM{s:AZ}{W':YT}(H:Sat (Row E.Cm 2 s (BV bO W')::(Dr E c V g P W++Z)) w){K:World->Prop}(d: ∀w',Sat (Dr E c V {g with s4:=s} P W'++Z) w'->K w'):
  stCells ((Addr.mk c 0 none).add 4) 0 [.slice s.base s.len s.cap] w K:=by
 refine Aj (H.front 1 rfl) (o:=0) (m:=4) rfl (by simp[KD]) fun w' j=>d w' ?_;have h1:=(j.front 6 rfl).tail;exact Sat.Jz [Cells c E.Ac (KD {g with s4:=s}),F4 g.s0 (ints .u64 V.pl),F4 g.s1 (BS V.rf),F4 g.s2 (ints .u64 V.fl),Row E.AX 3 g.s3 (BV Wi P)] (T:=Z) (h1.front 1 rfl)
theorem NB(hs:HJ kW W)(hf:W.length<=4398046511104)(H:Sat (Dr E c V g P W++Z) w){n:Int}{K:Int->Bool->World->Prop}
  (C: ∀b,(b=true↔ ∃e,W[pos kW W n]? =some e/\e.1=n)-> ∀w',Sat (Dr E c V g P W++Z) w'->K (pos kW W n:Nat) b w'):F.Dv E (some ⟨c,0,none⟩) n K w:=by
 unfold F.Dv;have j:=H.drew;have T:=bP H;simp only[AI];refine⟨g.s4,j.cell rfl,?_⟩;refine bsearch (key:=kW) (by decide) HP (fun _=>rfl) hs (j.front 5 rfl) (j.cell rfl) (by omega) n fun st v=> ?_;have j:=j.drew;have hp:=Hk (key:=kW) W n;rw[v];refine⟨g.s4,j.cell rfl,AE (fun O=> ?_) fun N=>C _ ⟨fun h=>by(cases h),fun⟨e,he,_⟩=>by have:=(List.getElem?_eq_some_iff.1 he).1;omega⟩ _ j⟩;obtain⟨e,he⟩: ∃e,W[pos kW W n]? =some e:=⟨_,List.getElem?_eq_getElem (by omega)⟩;obtain⟨b,J,h0,_⟩:=mI j he;refine⟨g.s4,j.cell rfl,?_⟩;rw[J];refine⟨⟨by omega,by omega⟩,e.1,h0,C _ ?_ _ j⟩;rw[beq_iff_eq];exact⟨fun h=>⟨e,he,h⟩,fun⟨d,hd,h⟩=>by rw[he]at hd;cases hd;exact h⟩
theorem Q5(hs:HJ kW W)(hf:W.length<=4398046511104)(H:Sat (Dr E c V g P W++Z) w){x y:Int}(hx:0<=x)(hy:0<=y)(N:x+y<18446744073709551616){K:World->Prop}
  (hK: ∀s w',Sat (Dr E c V {g with s4:=s} P (W.take (pos kW W x)++W.drop (pos kW W (x+y)))++Z) w'->K w'):F.Bj E (some ⟨c,0,none⟩) x y K w:=by
 unfold F.Bj T0.Bj;refine NB hs hf H fun b1 _ w3 Y=> ?_;rw[AG (n:=x+y) (by omega) N];refine NB hs hf Y fun b2 _ w6 H6=> ?_;refine GB (n:=0) (z:=2) H6 rfl (by decide) fun b7 w8 C=> ?_;have T:=bP C.tail;have O:=Hk (key:=kW) W x;have p2:=Hk (key:=kW) W (x+y);simp only[AI];refine⟨g.s4,(C.front 1 rfl).cell rfl,⟨by omega,by omega⟩,?_⟩;refine FD (x:=⟨Fe g.s4.base g.s4.cap 0 2,pos kW W x,g.s4.cap⟩) (news:=BV bO (W.take (pos kW W x))) C rfl ((C.front 6 rfl).Ng (by decide) HP O) (by rw[DJ HP,List.length_take];dsimp only;rw[Nat.min_eq_left O]) (HC VW _) (by dsimp only;omega) (by dsimp only;omega) fun aG aE d j=> ?_;rw[List.nil_append]at d;refine⟨g.s4,(d.front 1 rfl).cell rfl,⟨by omega,by omega⟩,?_⟩;refine FD (x:=⟨Fe g.s4.base g.s4.cap (pos kW W (x+y)) 2,g.s4.len-pos kW W (x+y),g.s4.cap-pos kW W (x+y)⟩) (news:=BV bO (W.drop (pos kW W (x+y)))) d rfl ((d.front 6 rfl).Nh (by decide) HP p2) (by rw[DJ HP,List.length_drop];dsimp only;rw[T.1]) (HC VW _) (by dsimp only at j⊢;omega) (by dsimp only at j⊢;omega) fun J aA v _=> ?_;rw[<-HB]at v;exact mM v fun w' H'=>hK J w' H'
theorem Em.mN(d:Em V P W)(j:CK V.laid<=1000000):W.length<=1024000000:=by
 have:=d.sC;have:=d.mH;omega
theorem Q6(H:Sat (Db E c V::Z) w){page AA:Int}(h0:0<=page)(h1:page<18446744073709551616)(p0:0<=AA)(p1:AA<18446744073709551616){K:Int->World->Prop}
  (cM: ¬EI page AA-> ∀w',Sat (Db E c V::Z) w'->K 1 w')
  (bM:EI page AA->cnt V.laid page (page+AA)≠AA-> ∀w',Sat (Db E c V::Z) w'->K 33 w')
  (cZ:EI page AA->cnt V.laid page (page+AA)=AA->cnt V.ready page (page+AA)=AA-> ∀w',Sat (Db E c V::Z) w'->K 0 w')
  (cU:EI page AA->cnt V.laid page (page+AA)=AA->cnt V.ready page (page+AA)≠AA-> ∀r,V.rf=true::r-> ∀w',Sat (Db E c {V with rf:=r}::Z) w'->K 13 w')
  (b8:EI page AA->cnt V.laid page (page+AA)=AA->cnt V.ready page (page+AA)≠AA->(∀r,V.rf≠true::r)-> ∀w',(MX (FY V page AA)->Sat (Db E c (FY V page AA)::Z) w')->K 0 w'):
  F.Bh E (some ⟨c,0,none⟩) page AA K w:=by
 have H0:=H;obtain⟨g,P,W,T,H⟩:=Sat.LD.1 H;have back: ∀w',Sat (Dr E c V g P W++Z) w'->Sat (Db E c V::Z) w':=fun w' H'=>Sat.LD.2 ⟨g,P,W,T,H'⟩;unfold F.Bh T0.Bh;refine KE h0 p0 fun br bX=> ?_;cases br
 ·exact Ao rfl (cM (fun h=>by cases bX.2 h) _ H0)
 have C:=bX.1 rfl;have cO:=C;unfold EI at cO;have hA:page<page+AA:=by omega
 have hB:page+AA<18446744073709551616:=by omega
 refine Ab rfl (Hs T H fun b3 dC w5 H5=> ?_);have hl:=Kk H5;have dE:=T.YU;have hp:=Hk (key:=kP) P page;simp only[AI];refine⟨g.s3,H5.cell rfl,?_⟩;rw[AN (n:=((g.s3.len:Nat):Int)-(pos kP P page:Nat)),AG (n:=((g.s3.len:Nat):Int)-(pos kP P page:Nat))];have aO:cnt V.laid page (page+AA)=AA↔ ∀m,page<=m->m<page+AA->mem V.laid m:=by
  have:=Ci T.ok.Gz (a:=page) (b:=page+AA) (by omega);rw[show page+AA-page=AA by omega]at this;exact this
 have aG:cnt V.ready page (page+AA)=AA↔ ∀m,page<=m->m<page+AA->mem V.ready m:=by
  have:=Ci T.ok.IT (a:=page) (b:=page+AA) (by omega);rw[show page+AA-page=AA by omega]at this;exact this
 have aP:cnt V.laid page (page+AA)=AA-> ∀k:Nat,(k:Int)<AA-> ∃e,P[pos kP P page+k]? =some e/\e.1=page+k:=fun hc k hk=>by
  have:=T.full (a:=page) (n:=AA.toNat) (fun m m1 m2=>aO.1 hc m m1 (by omega)) (k:=k) (by omega);exact this
 refine AE (fun dA=>bM C (fun hc=> ?_) _ (back _ H5)) fun hle=> ?_
 ·obtain⟨e,he,_⟩:=aP hc (AA.toNat-1) (by omega);have:=(List.getElem?_eq_some_iff.1 he).1;omega
 refine AM (fun st w'=>Sat (Dr E c V g P W++Z) w'/\ ∃i:Nat,st.2.1=i/\(i:Int)<=AA/\(∀k:Nat,k<i-> ∃e,P[pos kP P page+k]? =some e/\e.1=page+k)/\(st.1=true↔ ∀m,page<=m->m<page+i->mem V.ready m)) (fun st _=>(AA-st.2.1).toNat)
  ⟨H5,0,rfl,by show(0:Int)<=AA;omega,fun k hk=>by omega,⟨fun _ m m1 m2=>by omega,fun _=>rfl⟩⟩ ?_
 rintro⟨rd,i',v⟩ _ w9 ⟨H9,i,hi,bP,a1,aQ⟩;dsimp only at hi aQ⊢;subst hi;refine AE (fun bB=> ?_) fun cR=> ?_
 ·obtain⟨e,he⟩: ∃e,P[pos kP P page+i]? =some e:=⟨_,List.getElem?_eq_getElem (by omega)⟩;obtain⟨b,hb,_,c0,c1,c2⟩:=MB H9 he;have aB:=List.mem_of_getElem? he;have cP:=T.Oo aB;rw[AN (n:=(i:Int)),AN (n:=(pos kP P page:Nat)+(i:Int)),AG (n:=page+(i:Int)),AG (n:=(i:Int)+1)];refine⟨g.s3,H9.cell rfl,?_⟩;rw[hb];have et:Int.toNat ((pos kP P page:Nat)+(i:Int))=pos kP P page+i:=by omega
  rw[et];refine⟨⟨by omega,by omega⟩,e.1,c0,e.2.1,c1,e.2.2,c2,YZ H9 fun dJ dG aN=>⟨e.1,aN.BI rfl,DE (fun cV=>bM C (fun hc=> ?_) _ (back _ aN.tail)) fun heq=> ?_⟩⟩
  ·obtain⟨d,hd,cC⟩:=aP hc i bB;rw[he]at hd;cases hd;exact cV cC
  ·have aL: ∀k:Nat,k<i+1-> ∃e,P[pos kP P page+k]? =some e/\e.1=page+k:=fun k hk=>by
    rcases Nat.lt_or_eq_of_le (Nat.le_of_lt_succ hk)with q|q
    ·exact a1 k q
    ·subst q;exact⟨e,he,heq⟩
   refine AR (fun ht=>⟨e.2.1,aN.cell rfl,⟨aN.tail,i+1,by omega,by omega,aL,?_⟩,by omega⟩) fun hf=>⟨⟨aN.tail,i+1,by omega,by omega,aL,?_⟩,by omega⟩
   ·rw[beq_iff_eq,T.iY aB];have:=aQ.1 ht;constructor
    ·intro h m m1 m2;rcases Int.lt_or_le m (page+i)with q|q
     ·exact this m m1 q
     ·rw[show m=e.1 by omega];exact h
    ·intro h;exact h e.1 (by omega) (by omega)
   ·refine⟨fun h=>(by cases h),fun h=> ?_⟩;have:=aQ.2 fun m m1 m2=>h m m1 (by omega);rw[hf]at this;cases this
 ·have bW:(i:Int)=AA:=by omega
  have hc:cnt V.laid page (page+AA)=AA:=aO.2 fun m m1 m2=>by
   obtain⟨e,he,hk⟩:=a1 (m-page).toNat (by omega);have:=T.iE (List.mem_of_getElem? he);rw[show m=e.1 by omega];exact this
  refine AR (fun ht=>cZ C hc (aG.2 fun m m1 m2=>aQ.1 ht m m1 (by omega)) _ (back _ H9)) fun hf=> ?_;have aH:cnt V.ready page (page+AA)≠AA:=fun h=>by
   have:=aQ.2 fun m m1 m2=>aG.1 h m m1 (by omega);rw[hf]at this;cases this
  have main:(∀r,V.rf≠true::r)-> ∀(s1:AZ) (a8:World),Sat (Dr E c {V with rf:=V.rf.tail} {g with s1:=s1} P W++Z) a8->
    Be (Int×Unit) (0,()) a8 fun O _ aD aF=>
     CND (decide ((O.1:Int)<(i64 (AA)))) (
      NC (some (Addr.mk c 0 none)) fun cI=>
      ∃aR:AZ,aD.cell? (cI.add 3)=some (.slice aR.base aR.len aR.cap)/\
      NC aR.base fun a7=>
      ((0:Int)<=(i64 ((pos kP P page:Nat)+O.1))/\((i64 ((pos kP P page:Nat)+O.1)):Int)<(aR.len:Nat))/\
      ∃bG:Int,aD.cell? ((a7.add (Int.toNat (i64 ((pos kP P page:Nat)+O.1))*3)).add 0)=some (.int .u64 bG)/\
      ∃bI:Int,aD.cell? ((a7.add (Int.toNat (i64 ((pos kP P page:Nat)+O.1))*3)).add 1)=some (.int .i64 bI)/\
      ∃bQ:Int,aD.cell? ((a7.add (Int.toNat (i64 ((pos kP P page:Nat)+O.1))*3)).add 2)=some (.int .u64 bQ)/\
      AL (.cells #[.int .u64 0,.int .i64 0,.int .u64 0] E.AX) aD fun aE cH=>
      stCells (Addr.mk aE 0 none) 0 [.int .u64 bG,.int .i64 bI,.int .u64 bQ] cH fun aA=>
      ∃bN:Int,aA.cell? ((Addr.mk aE 0 none).add 1)=some (.int .i64 bN)/\
      CND ((bN:Int)==2) (
       aF (i64 (O.1+1),()) aA
      ) (
       Av (Int×Unit) (fun bJ=>
        Av (Bool×Unit) (fun bF=>
         ∃bR:Int,aA.cell? ((Addr.mk aE 0 none).add 1)=some (.int .i64 bR)/\
         CND ((bR:Int)==3) (
          NC (some (Addr.mk c 0 none)) fun cQ=>
          ∃aX:AZ,aA.cell? (cQ.add 2)=some (.slice aX.base aX.len aX.cap)/\
          bF (decide ((((aX.len:Nat):Int):Int)>0),()) aA
         ) (
          bF (false,()) aA
         )
        ) fun c4 _ aU=>
         CND (c4.1) (
          NC (some (Addr.mk c 0 none)) fun b9=>
          ∃aT:AZ,aU.cell? (b9.add 2)=some (.slice aT.base aT.len aT.cap)/\
          NC aT.base fun b7=>
          ((0:Int)<=0/\(0:Int)<(aT.len:Nat))/\
          ∃bO:Int,aU.cell? (b7.add (Int.toNat 0*1))=some (.int .u64 bO)/\
          NC (some (Addr.mk c 0 none)) fun c5=>
          ∃aC:AZ,aU.cell? (c5.add 2)=some (.slice aC.base aC.len aC.cap)/\
          ((0:Int)<=1/\(1:Int)<=(aC.len:Nat))/\
          NC (some (Addr.mk c 0 none)) fun cT=>
          stCells (cT.add 2) 0 [.slice (Fe aC.base aC.cap (Int.toNat 1) 1) (aC.len-(Int.toNat 1)) (aC.cap-(Int.toNat 1))] aU fun a3=>
          bJ (bO,()) a3
         ) (
          bJ (0,()) aU
         )
       ) fun cK _ Y=>
        NC (some (Addr.mk c 0 none)) fun cY=>
        ∃J:AZ,Y.drew.cell? (cY.add 3)=some (.slice J.base J.len J.cap)/\
        ∃aJ:Int,Y.drew.cell? (Addr.mk aE 0 none)=some (.int .u64 aJ)/\
        NC J.base fun bA=>
        ((0:Int)<=(i64 ((pos kP P page:Nat)+O.1))/\((i64 ((pos kP P page:Nat)+O.1)):Int)<(J.len:Nat))/\
        stCells (bA.add (Int.toNat (i64 ((pos kP P page:Nat)+O.1))*3)) 0 [.int .u64 aJ,.int .i64 2,.int .u64 cK.1] Y.drew fun aZ=>
        aF (i64 (O.1+1),()) aZ
      )
     ) (
      K 0 aD
     ):=by
   intro cD s1 a8 cB;have bH:P.map (cF V page (page+((0:Nat):Int)))=P:=by
    rw[show P=P.map id by simp,List.map_map];exact List.map_congr_left fun e _=>by show cF V page (page+((0:Nat):Int)) e=e;unfold cF;rw[if_neg (by omega)]
   have bZ:cnt V.rel page (page+((0:Nat):Int))=0:=(CU T.ok.JM (by omega)).2 fun n n1 n2=>by omega
   rw[AN (n:=AA)];refine AM (fun st w'=> ∃i:Nat,st.1=i/\(i:Int)<=AA/\ ∃s2,Sat (Dr E c {V with rf:=V.rf.tail,fl:=V.fl.drop (cnt V.rel page (page+i)).toNat} {g with s1:=s1,s2:=s2} (P.map (cF V page (page+i))) W++Z) w') (fun st _=>(AA-st.1).toNat)
    ⟨0,rfl,by show(0:Int)<=AA;omega,g.s2,by rw[bH,bZ];exact cB⟩ ?_
   rintro⟨i',v⟩ _ aD ⟨i,hi,bP,s2,aI⟩;dsimp only at hi⊢;subst hi;refine AE (fun bB=> ?_) fun cR=> ?_
   ·obtain⟨e,he,aS⟩:=aP hc i bB;have aB:=List.mem_of_getElem? he;have hlen:=(List.getElem?_eq_some_iff.1 he).1;have cP:=T.Oo aB;have dK:=B1 V.rel page (page+i);have aY:=F9 T.ok.JM (a:=page) (k:=page+i) (by omega);have cN:page+(i:Int)+1=page+((i+1:Nat):Int):=by omega
    rw[cN]at aY;have bS:(P.map (cF V page (page+i)))[pos kP P page+i]? =some e:=by
     rw[List.getElem?_map,he];show some (cF V page (page+i) e)=some e;unfold cF;rw[if_neg (by omega)]
    have a0: ∀d∈P,d.1≠e.1->cF V page (page+((i+1:Nat):Int)) d=cF V page (page+i) d:=fun d _ hd=>by
     unfold cF;by_cases q:page<=d.1/\d.1<page+i/\d.2.1≠2
     ·rw[if_pos q,if_pos ⟨q.1,by omega,q.2.2⟩]
     ·rw[if_neg q,if_neg fun q2=>q ⟨q2.1,by omega,q2.2.2⟩]
    have cA:=Kk aI;rw[List.length_map]at cA;simp only[AI];rw[AN (n:=(pos kP P page:Nat)+(i:Int)),AN (n:=(i:Int)+1)];have et:Int.toNat ((pos kP P page:Nat)+(i:Int))=pos kP P page+i:=by omega
    rw[et];obtain⟨b,hb,_,c0,c1,c2⟩:=MB aI bS;refine⟨_,aI.cell rfl,?_⟩;rw[hb];refine⟨⟨by omega,by dsimp only;omega⟩,e.1,c0,e.2.1,c1,e.2.2,c2,YZ aI fun aE aA N=>⟨e.2.1,N.cell rfl,CO (fun aM=> ?_) fun aM=> ?_⟩⟩
    ·refine⟨⟨i+1,by omega,by omega,s2,?_⟩,by omega⟩;have aH: ¬mem V.rel (page+i):=by rw[<-aS];exact T.ok.re _ ((T.iY aB).1 aM)
     have em:P.map (cF V page (page+((i+1:Nat):Int)))=P.map (cF V page (page+i)):=List.map_congr_left fun d hd=>by
      by_cases q:d.1=e.1
      ·have:d=e:=T.F6.inj hd aB q;subst this;unfold cF;rw[if_neg fun q=>q.2.2 aM,if_neg fun q=>q.2.2 aM]
      ·exact a0 d hd q
     rw[em,aY.2 aH];exact N.tail
    ·-- the page's fill, and what is left of the fills
     have fin: ∀(fill:Int) (a6:AZ) (Y:World),cF V page (page+((i+1:Nat):Int)) e=(e.1,2,fill)->
       Sat (Cells aE E.AX [.int .u64 e.1,.int .i64 e.2.1,.int .u64 e.2.2]::(Dr E c {V with rf:=V.rf.tail,fl:=V.fl.drop (cnt V.rel page (page+((i+1:Nat):Int))).toNat} {g with s1:=s1,s2:=a6} (P.map (cF V page (page+i))) W++Z)) Y->
       ∃J:AZ,Y.drew.cell? ((Addr.mk c 0 none).add 3)=some (.slice J.base J.len J.cap)/\
        ∃aJ:Int,Y.drew.cell? (Addr.mk aE 0 none)=some (.int .u64 aJ)/\
        NC J.base fun bA=>
        ((0:Int)<=((pos kP P page:Nat)+(i:Int))/\((pos kP P page:Nat)+(i:Int))<(J.len:Nat))/\
        stCells (bA.add ((pos kP P page+i)*3)) 0 [.int .u64 aJ,.int .i64 2,.int .u64 fill] Y.drew fun aZ=>
        (∃k:Nat,(i:Int)+1=k/\(k:Int)<=AA/\ ∃s2,Sat (Dr E c {V with rf:=V.rf.tail,fl:=V.fl.drop (cnt V.rel page (page+k)).toNat} {g with s1:=s1,s2:=s2} (P.map (cF V page (page+k))) W++Z) aZ)/\(AA-((i:Int)+1)).toNat<(AA-(i:Int)).toNat:=by
      intro fill a6 Y a5 cL;have Hd:=cL.drew;have b0:=Kk Hd.tail;obtain⟨b',bK,_⟩:=MB Hd.tail bS;refine⟨_,(Hd.front 1 rfl).cell rfl,e.1,Hd.BI rfl,?_⟩;rw[bK];refine⟨⟨by omega,by dsimp only at b0⊢;rw[List.length_map]at b0;omega⟩,?_⟩;refine X5 Fa MA (Hd.front 5 rfl) (i:=pos kP P page+i) (by rw[List.length_map];exact hlen) (e.1,2,fill) bK fun aZ cE=>⟨⟨i+1,by omega,by omega,a6,?_⟩,by omega⟩;have bY:=(Sat.back 5 cE (by simp[Dr])).tail;rw[<-a5,map_set T.F6 he a0]at bY;exact bY
     have hF:cF V page (page+((i+1:Nat):Int)) e=(e.1,2,if e.2.1=3 then Ei V page e.1 else 0):=by
      unfold cF;rw[if_pos ⟨by omega,by omega,aM⟩]
     refine Ax (Ax ⟨e.2.1,N.cell rfl,CO (fun aK=> ?_) fun aK j=>Ab rfl fun j=> ?_⟩)
     ·have bL:mem V.rel (page+i):=by rw[<-aS];exact(T.tB aB).1 aK
      rw[if_pos aK]at hF;have bU:=aY.1 bL;have b1:=(N.front 4 rfl).Iy;refine⟨s2,(N.front 1 rfl).cell rfl,fun j=>AE (fun c6=> ?_) fun hz=> ?_⟩
      ·cases hd:V.fl.drop (cnt V.rel page (page+i)).toNat with
       | nil=>have:=b1.1;dsimp only at this;rw[hd]at this;simp[ints]at this;omega
       | cons x r=>
        obtain⟨a,ha,CC⟩:=(N.front 4 rfl).Ji (j:=0) (v:=.int .u64 x) (by dsimp only;rw[hd];rfl);refine⟨s2,(N.front 1 rfl).cell rfl,?_⟩;rw[ha];refine⟨⟨by decide,by omega⟩,x,CC,s2,(N.front 1 rfl).cell rfl,⟨by decide,by omega⟩,?_⟩;have cS:=Sat.back 4 ((N.front 4 rfl).Jj (n:=1) (show 1<=s2.len by omega)) (by simp[Dr]);have hx:Ei V page e.1=x:=by
         unfold Ei;rw[aS];have:V.fl[(cnt V.rel page (page+i)).toNat]? =some x:=by
          have:=congrArg (fun l=>l[0]?) hd;simpa[List.getElem?_drop]using this
         rw[List.getD_eq_getElem?_getD,this];rfl
        have cW:(V.fl.drop (cnt V.rel page (page+i)).toNat).drop 1=V.fl.drop (cnt V.rel page (page+((i+1:Nat):Int))).toNat:=by
         rw[List.drop_drop,bU];congr 1;omega
        rw[hx]at hF;refine Aj (cS.front 1 rfl) (o:=0) (m:=2) rfl (by simp[KD]) fun a3 cX j=>fin x ⟨Fe s2.base s2.cap (Int.toNat 1) 1,s2.len-Int.toNat 1,s2.cap-Int.toNat 1⟩ a3 hF ?_;have a4:=Sat.back 1 cX (by simp[Dr]);have e1:(ints IntKind.u64 (V.fl.drop (cnt V.rel page (page+i)).toNat)).drop 1=ints .u64 (V.fl.drop (cnt V.rel page (page+((i+1:Nat):Int))).toNat):=by
         rw[<-cW];simp[ints]
        dsimp only at a4;rw[e1]at a4;exact a4
      ·have a2:V.fl.drop (cnt V.rel page (page+i)).toNat=[]:=by
        have:=b1.1;dsimp only at this;have:(ints IntKind.u64 (V.fl.drop (cnt V.rel page (page+i)).toNat)).length=0:=by omega
        rw[ints,List.length_map]at this;exact List.eq_nil_of_length_eq_zero this
       have bV:=List.drop_eq_nil_iff.1 a2;have hx:Ei V page e.1=0:=by
        unfold Ei;rw[aS,List.getD_eq_getElem?_getD,List.getElem?_eq_none bV];rfl
       rw[hx]at hF;refine fun j=>fin 0 s2 aA hF ?_;have:V.fl.drop (cnt V.rel page (page+((i+1:Nat):Int))).toNat=V.fl.drop (cnt V.rel page (page+i)).toNat:=by
        rw[a2,List.drop_eq_nil_iff];omega
       rw[this];exact N
     ·have aH: ¬mem V.rel (page+i):=fun h=>aK ((T.tB aB).2 (by rw[aS];exact h));rw[if_neg aK]at hF;refine fin 0 s2 aA hF ?_;rw[aY.2 aH];exact N
   ·have bW:(i:Int)=AA:=by omega
    refine b8 C hc aH cD aD fun BH=> ?_;rw[bW]at aI;refine Sat.LD.2 ⟨{g with s1:=s1,s2:=s2},P.map (cF V page (page+AA)),W,T.LB BH rfl (fun p=> ?_) (fun p=> ?_) (fun p i=>rfl) (fun x hx=>hx),aI⟩
    ·exact Bo T.ok.IT hA h0 hB p
    ·exact B7 hA
  refine Kl H9 (fun e=>Ab rfl (main (fun r h=>by rw[e]at h;cases h) g.s1 w9 ?_)) fun x r e s w' H'=> ?_
  ·have:V.rf.tail=V.rf:=by rw[e];rfl
   rw[this];exact H9
  ·cases x
   ·refine Ab rfl (main (fun r h=>by rw[e]at h;cases h) s w' ?_);rw[e];exact H'
   ·exact Ao rfl (cU C hc aH r e w' (Sat.LD.2 ⟨_,P,W,T.congr rfl rfl rfl (fun x hx=>hx) fun _ _ _ _=>rfl,H'⟩))
end
end Go.Sh

/- What the law's functions do. No further condition. -/
import Derived.Test.YtcjamkpfbpfeoaaGreatDoorR
import Derived.Test.YtcjamkpfbpfeoaaGreatDoorA
import Derived.Test.YtcjamkpfbpfeoaaGreatDoorC
import Derived.Test.YtcjamkpfbpfeoaaGreatDoorL
import Derived.Test.YtcjamkpfbpfeoaaGreatDoorH
import Derived.Test.YtcjamkpfbpfeoaaGreatDoorQ
set_option linter.all false
set_option maxRecDepth 4000
set_option maxHeartbeats 1000000
namespace Go.Sh
def one(c:Int):TV:=TV.nil.grow c 1
section
variable{E:Env}(hE:EnvS E){w:World}{Z:List Pr}
include hE
end
end Go.Sh
set_option linter.all false
set_option maxRecDepth 4000
namespace Go.Sh
section
variable{l:Iv}{fr md to s m e s' m' e':Int}
end
end Go.Sh
set_option linter.all false
set_option maxRecDepth 4000
set_option maxHeartbeats 1000000
namespace Go.Sh
def Win(vs:List Value)(o:Nat)(u:Int->Bool):Prop:=o+512<=vs.length/\ ∀k:Int,0<=k->k<512->vs[o+k.toNat]? =some (.bool (u k))
section
variable{E:Env}{w:World}{Z:List Pr}{b t o:Nat}{vs:List Value}{u:Int->Bool}
theorem PV{i n:Int}(hi: -9223372036854775808<=i)(y:i<9223372036854775808){K:Bool->World->Prop}
  (j:0<=i->0<=n->i+n<=512->K true w)(d: ¬(0<=i/\0<=n/\i+n<=512)->K false w):F.FP E i n K w:=by
 unfold F.FP;refine AD (fun h1=>AD (fun v=>AD (fun C=> ?_) fun C=>d (by omega)) fun v=>d (by omega)) fun h1=>d (by omega);rw[AH];by_cases g:n<=512-i
 ·rw[decide_eq_true g];exact j h1 v (by omega)
 ·rw[decide_eq_false g];exact d (by omega)
theorem Oz(H:Sat (Cells b t vs::Z) w)(hl:o+512<=vs.length){i n:Int}(h0:0<=i)(h1:0<=n)(O:i+n<=512)(x:Bool){K:Int->World->Prop}
  (hK: ∀w' d,d.length=vs.length->(∀j,d[j]? =if o+i.toNat<=j/\j<o+(i+n).toNat then some (.bool x)else vs[j]?)->Sat (Cells b t d::Z) w'->K 0 w'):
  F.Cj E (some ⟨b,o,none⟩) i n x K w:=by
 unfold F.Cj T0.Cj;refine PV (by omega) (by omega) (fun _ _ _=>Ac rfl ?_) fun h=>absurd ⟨h0,h1,O⟩ h;simp only[AI,Nat.mul_one];rw[AH (n:=i+n)];refine AK (fun st w'=>i<=st.1/\st.1<=i+n/\ ∃d,d.length=vs.length/\(∀j,d[j]? =if o+i.toNat<=j/\j<o+st.1.toNat then some (.bool x)else vs[j]?)/\Sat (Cells b t d::Z) w') (fun st _=>(i+n-st.1).toNat)
  ⟨Int.le_refl _,by show i<=i+n;omega,vs,rfl,fun j=>by dsimp only;rw[if_neg (by omega)],H⟩ ?_
 rintro⟨k,v⟩ _ w4 ⟨k0,k1,d,y,C,J⟩;simp only at k0 k1 C⊢;refine AD (fun Y=>⟨⟨by omega,by omega⟩,?_⟩) fun T=> ?_
 ·rw[AH (n:=k+1)];refine Ak J rfl (by omega) fun w7 H7=>⟨⟨by omega,by omega,_,by simpa using y,fun j=> ?_,H7⟩,by omega⟩;rw[List.getElem?_set,C];by_cases e:o+k.toNat=j
  ·rw[if_pos e,if_pos (by omega),if_pos (by omega)]
  ·rw[if_neg e];by_cases g:o+i.toNat<=j/\j<o+k.toNat
   ·rw[if_pos g,if_pos (by omega)]
   ·rw[if_neg g,if_neg (by omega)]
 ·have e:k=i+n:=by omega
  subst e;exact hK _ _ y C J
theorem Vz(H:Sat (Cells b t vs::Z) w)(hu:Win vs o u){K:Int->World->Prop}(O:K (cu u 512) w):F.Cf E (some ⟨b,o,none⟩) 0 512 K w:=by
 unfold F.Cf T0.Cf;refine PV (by omega) (by omega) (fun _ _ _=>Ac rfl ?_) fun h=>absurd ⟨by omega,by omega,by omega⟩ h;simp only[AI,Nat.mul_one];rw[AH (n:=0+512)];refine AK (fun st w'=> ∃k:Nat,st.2.1=(k:Int)/\k<=512/\st.1=cu u k/\w'=w) (fun st _=>(512-st.2.1).toNat) ⟨0,rfl,by decide,rfl,rfl⟩ ?_;rintro⟨c,i,v⟩ _ Y ⟨k,j,T,d,rfl⟩;simp only at j d⊢;subst j;subst d;have hb:=eF u k;refine AD (fun J=> ?_) fun C=> ?_
 ·have y:=hu.2 k (by omega) (by omega);refine⟨⟨by omega,by omega⟩,u k,H.cell y,?_⟩;rw[AH (n:=cu u k+1),AH (n:=(k:Int)+1)];refine AQ (fun e=>⟨⟨k+1,by omega,by omega,?_,by trivial⟩,by omega⟩) fun e=>⟨⟨k+1,by omega,by omega,?_,by trivial⟩,by omega⟩
  ·simp[cu,e]
  ·simp[cu,e]
 ·have:k=512:=by omega
  subst this;exact O
theorem Xm(H:Sat (Cells b t vs::Z) w)(hu:Win vs o u){n:Int}(aE: -9223372036854775808<=n)(hn:n<9223372036854775808){K:Int->Int->World->Prop}
  (T:n<1∨(∀k,0<=k->k<512->u k=true)->K 0 0 w)
  (C:1<=n-> ∀e i,0<=i->i<=e->e<512->(∀k,e<k->k<512->u k=true)->(∀k,i<=k->k<=e->u k=false)->e-i+1<=n->(e-i+1=n∨i=0∨u (i-1)=true)->K i (e-i+1) w):
  F.FG E (some ⟨b,o,none⟩) n 512 K w:=by
 unfold F.FG;simp only[AI,Nat.mul_one];refine An (Ac (by decide) fun j=> ?_);refine An (Ac (by decide) fun j=>AD (fun h=>T (.inl h)) fun h1=> ?_);rw[AH (n:=512-1)];refine AX (fun st w'=>w'=w/\ -1<=st.1/\st.1<512/\(∀k,st.1<k->k<512->u k=true)/\(0<=st.1->u st.1=false)) ?_ ?_
 ·refine AK (fun st w'=>w'=w/\ -1<=st.1/\st.1<512/\(∀k,st.1<k->k<512->u k=true)) (fun st _=>(st.1+1).toNat) ⟨rfl,by decide,by decide,fun k h1 J=>by simp only at h1;omega⟩ ?_;rintro⟨e,v⟩ _ w4 ⟨rfl,Y,d,he⟩;simp only at Y d he⊢;refine AD (fun O=>⟨⟨by omega,by omega⟩,u e,H.cell (hu.2 e O d),AQ (fun g=> ?_) fun g=>⟨by trivial,Y,d,he,fun _=>g⟩⟩) fun y=>⟨by trivial,Y,d,he,fun h=>absurd h y⟩;rw[AH (n:=e-1)];refine⟨⟨by trivial,by omega,by omega,fun k h1 J=> ?_⟩,by omega⟩;by_cases e2:k=e
  ·rw[e2];exact g
  ·exact he k (by omega) J
 ·rintro⟨e,v⟩ _ w4 ⟨rfl,Y,d,he,hf⟩;simp only at Y d he hf⊢;refine AD (fun y=>T (.inr fun k h1 J=>he k (by omega) J)) fun O=> ?_;refine AK (fun st w'=>w'=w4/\0<=st.1/\st.1<=e/\(∀k,st.1<=k->k<=e->u k=false)/\e-st.1+1<=n) (fun st _=>st.1.toNat) ⟨rfl,by show 0<=e;omega,Int.le_refl _,fun k h1 J=>by
   have:k=e:=by simp only at h1;omega
   rw[this];exact hf (by omega),by show e-e+1<=n;omega⟩ ?_
  rintro⟨i,v⟩ _ w5 ⟨rfl,i0,i1,hi,hle⟩;simp only at i0 i1 hi hle⊢;rw[AH (n:=e-i),AH (n:=e-i+1),AH (n:=i-1)];refine AD (fun aC=>⟨⟨by omega,by omega⟩,u (i-1),H.cell (hu.2 (i-1) (by omega) (by omega)),AQ (fun g=>AD (fun y=> ?_) fun aD=>AU fun x hx=> ?_) fun g=>AU fun x hx=> ?_⟩) fun hz=>AU fun x hx=> ?_
  ·have g:u (i-1)=false:=by simpa using g
   refine⟨⟨by trivial,by omega,by omega,fun k h1 J=> ?_,by omega⟩,by omega⟩;by_cases e2:k=i-1
   ·rw[e2];exact g
   ·exact hi k (by omega) J
  ·subst hx;exact C (by omega) e i i0 i1 d he hi hle (.inl (by omega))
  ·subst hx;have g:u (i-1)=true:=by simpa using g
   exact C (by omega) e i i0 i1 d he hi hle (.inr (.inr g))
  ·subst hx;exact C (by omega) e i i0 i1 d he hi hle (.inr (.inl (by omega)))
end
end Go.Sh
set_option linter.all false
set_option maxRecDepth 4000
set_option maxHeartbeats 1000000
namespace Go.Sh
def sum3(x:Int×Int×Int):List Value:=[.int .i64 x.1,.int .i64 x.2.1,.int .i64 x.2.2]
def l9(L:List (Int×Int×Int)):List Value:=L.flatMap sum3
section
variable{E:Env}{w:World}{Z:List Pr}
variable{a:AZ}{L:List (Int×Int×Int)}{l:Iv}{fr P:Int}
end
end Go.Sh
set_option linter.all false
set_option maxRecDepth 4000
set_option maxHeartbeats 1000000
namespace Go.Sh
abbrev CL:=List (Int×Nat)
def parts(L:CL):List Value:=L.flatMap fun c=>[.int .u64 c.1,.pointer (some ⟨c.2,0,none⟩)]
theorem Mc(L:CL):(parts L).length=L.length*2:=by
 induction L with
 | nil=>rfl
 | cons x r ih=>show(parts r).length+1+1=_;rw[ih,List.length_cons];omega
theorem S7(L M:CL):parts (L++M)=parts L++parts M:=by simp[parts]
theorem Md: ∀(L:CL) {k:Nat} {x:Int×Nat},L[k]? =some x->(parts L)[k*2]? =some (.int .u64 x.1)/\(parts L)[k*2+1]? =some (.pointer (some ⟨x.2,0,none⟩))
 | y::r,0,x,h=>by have h:y=x:=Option.some.inj h;subst h;exact⟨rfl,rfl⟩
 | y::r,k+1,x,h=>by
  have:=Md r h;have e:parts (y::r)= .int .u64 y.1:: .pointer (some ⟨y.2,0,none⟩)::parts r:=rfl;rw[e,show(k+1)*2=k*2+1+1 by omega];exact this
theorem S8(L:CL): ∀v∈parts L,v.oneCell'=true:=by
 intro v j;simp only[parts,List.mem_flatMap]at j;obtain⟨c,_,d⟩:=j;simp at d;rcases d with rfl|rfl<;>rfl
theorem RS: ∀(L:CL) (k:Nat),(parts L).take (k*2)=parts (L.take k)
 | [],k=>by simp[parts]
 | y::r,0=>by simp[parts]
 | y::r,k+1=>by
  have e:parts (y::r)= .int .u64 y.1:: .pointer (some ⟨y.2,0,none⟩)::parts r:=rfl;rw[e,show(k+1)*2=k*2+1+1 by omega,List.take_succ_cons,List.take_succ_cons,RS r k];rfl
theorem RT: ∀(L:CL) (k:Nat),(parts L).drop (k*2)=parts (L.drop k)
 | [],k=>by simp[parts]
 | y::r,0=>by simp
 | y::r,k+1=>by
  have e:parts (y::r)= .int .u64 y.1:: .pointer (some ⟨y.2,0,none⟩)::parts r:=rfl;rw[e,show(k+1)*2=k*2+1+1 by omega,List.drop_succ_cons,List.drop_succ_cons,RT r k];rfl
def posC:CL->Int->Nat
 | [],_=>0
 | c::r,n=>if c.1<n then posC r n+1 else 0
def KG(L:CL):Prop:=L.Pairwise fun a b=>a.1<b.1
theorem QA: ∀(L:CL) (n:Int),posC L n<=L.length
 | [],_=>Nat.le_refl _
 | c::r,n=>by simp only[posC];split;exact Nat.succ_le_succ (QA r n);exact Nat.zero_le _
theorem Gy: ∀{L:CL} {n:Int} {j:Nat} {c:Int×Nat},L[j]? =some c->j<posC L n->c.1<n
 | c::r,n,0,x,h,hj=>by
  have h:c=x:=Option.some.inj h;subst h;simp only[posC]at hj;split at hj
  ·assumption
  ·omega
 | c::r,n,j+1,x,h,hj=>by
  simp only[posC]at hj;split at hj
  ·exact Gy (L:=r) h (by omega)
  ·omega
theorem OC: ∀{L:CL} {n:Int} {c:Int×Nat},L[posC L n]? =some c->n<=c.1
 | c::r,n,x,h=>by
  simp only[posC]at h;split at h
  ·exact OC (L:=r) h
  ·have h:c=x:=Option.some.inj h;subst h;omega
theorem NG{L:CL}(hs:KG L){n:Int}{j:Nat}{c:Int×Nat}(h:L[j]? =some c)(y:posC L n<=j):n<=c.1:=by
 have v:=(List.getElem?_eq_some_iff.1 h).1;have C:=List.getElem?_eq_getElem (show posC L n<L.length by omega);have h1:=OC C;rcases Nat.lt_or_eq_of_le y with d|d
 ·have:=List.pairwise_iff_getElem.1 hs (posC L n) j (by omega) v d;rw[(List.getElem?_eq_some_iff.1 h).2]at this;omega
 ·subst d;exact OC h
theorem OD{L:CL}(hs:KG L){n:Int}{c:Int×Nat}(C:c∈L)(O:c.1=n):L[posC L n]? =some c:=by
 obtain⟨j,d⟩:=List.mem_iff_getElem?.1 C;rcases Nat.lt_or_ge j (posC L n)with h|h
 ·have:=Gy d h;omega
 ·have y:=(List.getElem?_eq_some_iff.1 d).1;rcases Nat.lt_or_eq_of_le h with v|v
  ·have J:=List.getElem?_eq_getElem (show posC L n<L.length by omega);have:=OC J;have K:=List.pairwise_iff_getElem.1 hs (posC L n) j (by omega) y v;rw[(List.getElem?_eq_some_iff.1 d).2]at K;omega
  ·rw[v];exact d
def Me(E:Env)(U G:Int->Bool)(c:Int×Nat):Pr:=Cells c.2 E.Hy (flags 512 (fun k=>U (c.1*512+k))++flags 512 (fun k=>G (c.1*512+k)))
structure RU(l:Nat->Iv)(L:CL)(U G:Int->Bool):Prop where
 IK:KG L
 QB: ∀c∈L,0<=c.1/\c.1<67108864
 XI:Ok (l 0)
 JA:Ok (l 1)
 KT:Ok (l 2)
 l0: ∀p,mem (l 0) p↔ ∃c∈L,c.1=p/512
 l1: ∀p,mem (l 1) p↔mem (l 0) p/\U p=false
 l2: ∀p,mem (l 2) p↔mem (l 0) p/\G p=true
def Io(E:Env)(r:Nat)(s:AZ)(L:CL)(U G:Int->Bool):List Pr:=[Cells r E.CY [.slice s.base s.len s.cap],Row E.Ax 2 s (parts L),Ap (Me E U G) L]
def FM(E:Env)(r:Nat)(l:Nat->Iv):Pr:=Ex fun x:AZ×CL×(Int->Bool)×(Int->Bool)=>Jv (RU l x.2.1 x.2.2.1 x.2.2.2) (Qe (Io E r x.1 x.2.1 x.2.2.1 x.2.2.2))
theorem Sat.HQ{E:Env}{r:Nat}{l:Nat->Iv}{Z:List Pr}{w:World}:Sat (FM E r l::Z) w↔ ∃s L U G,RU l L U G/\Sat (Io E r s L U G++Z) w:=by
 unfold FM;rw[Sat.ex];constructor
 ·rintro⟨x,h⟩;obtain⟨h1,d⟩:=Sat.where.1 h;exact⟨_,_,_,_,h1,Sat.star.1 d⟩
 ·rintro⟨s,L,U,G,h1,d⟩;exact⟨(s,L,U,G),Sat.where.2 ⟨h1,Sat.star.2 d⟩⟩
theorem Jl{L:CL}(hs:KG L)(d: ∀c∈L,0<=c.1/\c.1<67108864):L.length<=67108864:=by
 have key: ∀(L:CL) (B:Int),KG L->(∀c∈L,B<=c.1/\c.1<67108864)->B<=67108864->(L.length:Int)<=67108864-B:=by
  intro L
  induction L with
  | nil=>intro B _ _ h;show(0:Int)<=_;omega
  | cons x r ih=>
   intro B hs d v;have h1:=d x (by simp);have hp:=List.pairwise_cons.1 hs;have:=ih (x.1+1) hp.2 (fun c j=>⟨by have:=hp.1 c j;omega,(d c (by simp[j])).2⟩) (by omega);rw[List.length_cons];omega
 have:=key L 0 hs d (by decide);omega
section
variable{E:Env}{w:World}{Z:List Pr}{r:Nat}{s:AZ}{L:CL}{U G:Int->Bool}{l:Nat->Iv}
theorem Ia(H:Sat (Io E r s L U G++Z) w):s.len=L.length:=by
 have:=(H.front 1 rfl).FH;rw[Mc]at this;omega
theorem Dh(H:Sat (Io E r s L U G++Z) w):w.cell? (Addr.mk r 0 none)=some (.slice s.base s.len s.cap):=H.A2 rfl
theorem Hl(H:Sat (Io E r s L U G++Z) w){k:Nat}{x:Int×Nat}(v:L[k]? =some x): ∃a,s.base=some a/\k<s.len/\w.cell? (a.add (k*2))=some (.int .u64 x.1)/\w.cell? ((a.add (k*2)).add 1)=some (.pointer (some ⟨x.2,0,none⟩)):=by
 have h1:=H.front 1 rfl;have d:=h1.own;obtain⟨y,C⟩:=Md L v;have hlen:=Ia H;have J:=(List.getElem?_eq_some_iff.1 v).1;obtain⟨b,j⟩:=d.Fe (by omega);refine⟨_,j,by omega,d.cell j y,?_⟩;rw[add_add];exact d.cell j C
theorem Jm(H:Sat (Io E r s L U G++Z) w){k:Nat}{x:Int×Nat}(d:L[k]? =some x):
  Sat (Me E U G x::Ap (Me E U G) (L.eraseIdx k)::Cells r E.CY [.slice s.base s.len s.cap]::Row E.Ax 2 s (parts L)::Z) w:=
 (H.front 2 rfl).Hs d
theorem ZA(x:Int×Nat):Win (flags 512 (fun k=>U (x.1*512+k))++flags 512 (fun k=>G (x.1*512+k))) 0 fun k=>U (x.1*512+k):=by
 refine⟨by simp[BA],fun k h0 h1=> ?_⟩;rw[List.getElem?_append_left (by rw[BA];omega)];exact Je (n:=512) (u:=fun k=>U (x.1*512+k)) h0 h1
theorem T8(x:Int×Nat):Win (flags 512 (fun k=>U (x.1*512+k))++flags 512 (fun k=>G (x.1*512+k))) 512 fun k=>G (x.1*512+k):=by
 refine⟨by simp[BA],fun k h0 h1=> ?_⟩;rw[List.getElem?_append_right (by rw[BA];omega),BA,show 512+k.toNat-512=0+k.toNat by omega];exact Je (n:=512) (u:=fun k=>G (x.1*512+k)) h0 h1
theorem S9(H:Sat (Io E r s L U G++Z) w){k:Nat}{x:Int×Nat}(d:L[k]? =some x){i:Int}(h0:0<=i)(h1:i<512):w.cell? ((Addr.mk x.2 0 none).add i.toNat)=some (.bool (U (x.1*512+i))):=
 (Jm H d).cell ((ZA x).2 i h0 h1)
theorem aO(H:Sat (Io E r s L U G++Z) w){k:Nat}{x:Int×Nat}(d:L[k]? =some x){i:Int}(h0:0<=i)(h1:i<512):w.cell? (((Addr.mk x.2 0 none).add 512).add i.toNat)=some (.bool (G (x.1*512+i))):=by
 rw[add_eq,Nat.zero_add];exact(Jm H d).cell (o:=512) ((T8 x).2 i h0 h1)
theorem K8(H:Sat (Io E r s L U G++Z) w){n:Int}{K:Int->Bool->World->Prop}
  (Y: ∀w' ok,(ok=true↔ ∃c,L[posC L n]? =some c/\c.1=n)->Sat (Io E r s L U G++Z) w'->K (posC L n) ok w'):F.Cc E (some ⟨r,0,none⟩) n K w:=by
 unfold F.Cc;simp only[AI];have hlen:=Ia H;have aA:L.length<9223372036854775808:=by have:=(H.front 1 rfl).own;have:=this.cap;have:=(H.front 1 rfl).own.top;omega
 refine AX (fun st w'=>w'=w/\st.1=(posC L n:Nat)) ?_ ?_
 ·refine AK (fun st w'=>w'=w/\ ∃k:Nat,st.1=(k:Int)/\k<=L.length/\posC L n=posC (L.drop k) n+k) (fun st _=>(L.length-st.1).toNat) ⟨rfl,0,rfl,Nat.zero_le _,rfl⟩ ?_;rintro⟨i,v⟩ _ w5 ⟨rfl,k,T,aB,hp⟩;dsimp only at T⊢;subst T;refine⟨s,Dh H,AD (fun C=>⟨s,Dh H,?_⟩) fun y=>⟨rfl,?_⟩⟩
  ·have hl:k<L.length:=by omega
   have d:=List.getElem?_eq_getElem hl;have hd:=Qc d;rw[hd]at hp;obtain⟨a,J,_,c1,_⟩:=Hl H d;generalize L[k]=x at d c1 hp;rw[J];simp only[AI,Int.toNat_natCast];rw[AH (n:=(k:Int)+1)];refine⟨⟨by omega,by omega⟩,_,c1,AD (fun h=>⟨⟨by trivial,k+1,by omega,by omega,?_⟩,by omega⟩) fun h=>⟨by trivial,?_⟩⟩
   ·rw[hp];simp only[posC];rw[if_pos h];omega
   ·rw[hp];simp only[posC];rw[if_neg h];omega
  ·have:k=L.length:=by omega
   subst this;rw[hp,List.drop_length];show _=(((0:Nat)+L.length:Nat):Int);omega
 ·rintro⟨i,v⟩ _ w3 ⟨rfl,hi⟩;dsimp only at hi⊢;subst hi;have j:=H.drew;have O:=QA L n;refine⟨s,Dh j,AD (fun C=>⟨s,Dh j,?_⟩) fun y=>Y _ _ ?_ j⟩
  ·have d:=List.getElem?_eq_getElem (show posC L n<L.length by omega);obtain⟨a,J,_,c1,_⟩:=Hl j d;generalize L[posC L n]=x at d c1;rw[J];simp only[AI,Int.toNat_natCast];refine⟨⟨by omega,by omega⟩,_,c1,Y _ _ ?_ j⟩;rw[beq_iff_eq];exact⟨fun h=>⟨x,d,h⟩,fun⟨c,h1,h2⟩=>by rw[d]at h1;cases h1;exact h2⟩
  ·rw[List.getElem?_eq_none (by omega)];exact⟨fun h=>(by cases h),fun⟨c,h1,_⟩=>(by cases h1)⟩
theorem PW(j:RU l L U G)(H:Sat (Io E r s L U G++Z) w){p:Int}(hp:0<=p)(aF:p<18446744073709551616){K:Bool->Bool->Bool->World->Prop}
  (hK: ∀w' r0 r1 Y,(r0=true↔mem (l 0) p)->(r1=true↔mem (l 1) p)->(Y=true↔mem (l 2) p)->Sat (Io E r s L U G++Z) w'->K r0 r1 Y w'):F.BH E (some ⟨r,0,none⟩) p K w:=by
 unfold F.BH T0.BH;rw[Int.tdiv_eq_ediv_of_nonneg hp,Int.tmod_eq_emod_of_nonneg hp,AM (n:=p/512)];refine⟨by decide,K8 H fun w3 ok Bi J=>AQ (fun e=> ?_) fun e=> ?_⟩
 ·have v: ¬mem (l 0) p:=fun hm=>by
   obtain⟨c,y,d⟩:=(j.l0 p).1 hm;have:ok=true:=Bi.2 ⟨c,OD j.IK y d,d⟩;rw[this]at e;cases e
  exact hK _ _ _ _ ⟨fun h=>(by cases h),fun h=>absurd h v⟩ ⟨fun h=>(by cases h),fun h=>absurd ((j.l1 p).1 h).1 v⟩ ⟨fun h=>(by cases h),fun h=>absurd ((j.l2 p).1 h).1 v⟩ J
 ·have C:ok=true:=by simpa using e
  obtain⟨c,y,d⟩:=Bi.1 C;have hm:mem (l 0) p:=(j.l0 p).2 ⟨c,List.mem_of_getElem? y,d⟩;obtain⟨a,ha,aC,c1,c2⟩:=Hl J y;have O:=J.drew;have hU:=S9 O y (i:=p %512) (by omega) (by omega);have T:=aO O y (i:=p %512) (by omega) (by omega);have e2:c.1*512+p %512=p:=by omega
  rw[e2]at hU T;simp only[AI];refine⟨s,Dh J,?_⟩;rw[ha];simp only[AI,Int.toNat_natCast,Nat.mul_one];refine⟨⟨by omega,by omega⟩,_,c2,by decide,?_⟩;simp only[AI];refine⟨⟨by omega,by omega⟩,_,hU,by decide,⟨by omega,by omega⟩,_,T,hK _ _ _ _ ⟨fun _=>hm,fun _=>rfl⟩ ?_ ?_ O⟩
  ·rw[j.l1 p];cases g:U p
   ·simp[hm]
   ·simp
  ·rw[j.l2 p];simp[hm]
theorem RV(O:RU l L U G)(H:Sat (Io E r s L U G++Z) w){x n:Int}(hx:0<=x)(aV:x<18446744073709551616)(hn:0<=n)(aS:n<18446744073709551616){K:Bool->World->Prop}
  (hK: ∀w' ok,(ok=true↔ ¬(n=0∨34359738368<=x∨34359738368-x<n∨cnt (l 0) x (x+n)≠n))->Sat (Io E r s L U G++Z) w'->K ok w'):F.B2 E (some ⟨r,0,none⟩) x n K w:=by
 unfold F.B2 T0.B2;have h0: ∀{w'} (b:Bool),b=false->(n=0∨34359738368<=x∨34359738368-x<n∨cnt (l 0) x (x+n)≠n)->Sat (Io E r s L U G++Z) w'->K b w':=fun b hb h H'=>hK _ _ ⟨fun e=>(by rw[hb]at e;cases e),fun g=>absurd h g⟩ H';refine An (BW (fun e j=>AV rfl (h0 _ rfl (.inl e) H)) fun e1=>AD (fun e j=>AV rfl (h0 _ rfl (.inr (.inl e)) H)) fun e2=> ?_);rw[AM (n:=34359738368-x)];refine fun j=>AD (fun e=>h0 _ rfl (.inr (.inr (.inl e))) H) fun e3=>⟨by decide,?_⟩;rw[Int.tdiv_eq_ediv_of_nonneg hx,AM (n:=x/512),AM (n:=x+n),AM (n:=x+n-1),Int.tdiv_eq_ediv_of_nonneg (a:=x+n-1) (by omega),AM (n:=(x+n-1)/512)];refine K8 H fun w6 ok Bi H6=>⟨by decide,?_⟩;clear Bi;have hlen:=Ia H;have a2:=Jl O.IK O.QB;have aK:=QA L (x/512);have T:(∀p,x<=p->p<x+n->mem (l 0) p)->cnt (l 0) x (x+n)=n:=fun h=>by
  have:=(DM O.XI (a:=x) (b:=x+n) (by omega)).2 h;omega
 have C: ∀c,x/512<=c->c<=(x+n-1)/512->cnt (l 0) x (x+n)=n->c∈L.map (·.1):=fun c h1 h2 e=>by
  obtain⟨mm,aG,aH,aY⟩: ∃m,x<=m/\m<x+n/\m/512=c:=⟨max x (c*512),by omega,by omega,by omega⟩;obtain⟨y,hy,Y⟩:=(O.l0 mm).1 ((DM O.XI (a:=x) (b:=x+n) (by omega)).1 (by omega) mm aG aH);exact List.mem_map.2 ⟨y,hy,by omega⟩
 simp only[AI];refine AK (fun st w'=>w'=w6/\x/512<=st.2.1/\st.2.1<=(x+n-1)/512+1/\(st.1=(posC L (x/512):Nat)+(st.2.1-x/512))/\st.1<=L.length/\ ∀m,x/512<=m->m<st.2.1-> ∃c,L[(posC L (x/512)+(m-x/512).toNat)]? =some c/\c.1=m)
  (fun st _=>((x+n-1)/512+1-st.2.1).toNat) ⟨rfl,Int.le_refl _,by dsimp only;omega,by dsimp only;omega,by dsimp only;omega,fun m h1 h2=>by dsimp only at h2;omega⟩ ?_
 rintro⟨at_,c,v⟩ _ w8 ⟨rfl,c0,c1,aJ,aE,d⟩;dsimp only at c0 c1 aJ aE d⊢;refine⟨by decide,AD (fun hle=> ?_) fun aO=> ?_⟩
 ·have C:=C c c0 hle;refine An ⟨s,Dh H6,AD (fun aQ j=>AV rfl (h0 _ rfl (.inr (.inr (.inr fun e=> ?_))) H6)) fun aW=>⟨s,Dh H6,?_⟩⟩
  ·obtain⟨y,hy,Y⟩:=List.mem_map.1 (C e);obtain⟨j,hj⟩:=List.mem_iff_getElem?.1 hy;have aP:=(List.getElem?_eq_some_iff.1 hj).1;by_cases g:j<posC L (x/512)
   ·have:=Gy hj g;omega
   ·obtain⟨z,hz,J⟩:=d (x/512+(j-posC L (x/512):Nat)) (by omega) (by omega);rw[show posC L (x/512)+(x/512+((j-posC L (x/512):Nat):Int)-x/512).toNat=j by omega,hj]at hz;cases hz;omega
  ·have hg:=List.getElem?_eq_getElem (show at_.toNat<L.length by omega);obtain⟨a,ha,aL,d1,_⟩:=Hl H6 hg;generalize L[at_.toNat]=y at hg d1;rw[ha];simp only[AI];refine⟨⟨by omega,by omega⟩,_,d1,fun j=>Cz (fun aF=>h0 _ rfl (.inr (.inr (.inr fun e=> ?_))) H6) fun heq=> ?_⟩
   ·obtain⟨y',hy,Y⟩:=List.mem_map.1 (C e);have hc:=OD O.IK hy Y;have:at_.toNat=posC L c:=by
     rcases Nat.lt_trichotomy at_.toNat (posC L c)with g|g|g
     ·exfalso;have g1:=Gy hg g;by_cases g2:c=x/512
      ·subst g2;omega
      ·obtain⟨z,hz,J⟩:=d (c-1) (by omega) (by omega);have g3:posC L (x/512)+(c-1-x/512).toNat<at_.toNat:=by omega
       have:=List.pairwise_iff_getElem.1 O.IK _ _ (by omega) (by omega) g3;rw[(List.getElem?_eq_some_iff.1 hz).2,(List.getElem?_eq_some_iff.1 hg).2]at this;omega
     ·exact g
     ·exfalso;by_cases g2:c=x/512
      ·subst g2;omega
      ·obtain⟨z,hz,J⟩:=d (c-1) (by omega) (by omega);have:=NG O.IK hz (n:=c) (by omega);omega
    rw[this,hc]at hg;cases hg;exact aF Y
   ·rw[AH (n:=at_+1),AM (n:=c+1)];refine⟨⟨by trivial,by omega,by omega,by omega,by omega,fun m h1 h2=> ?_⟩,by omega⟩;by_cases e:m=c
    ·subst e;refine⟨y,?_,heq⟩;rw[show posC L (x/512)+(m-x/512).toNat=at_.toNat by omega];exact hg
    ·exact d m h1 (by omega)
 ·refine hK _ _ ⟨fun _=> ?_,fun _=>rfl⟩ H6;have:cnt (l 0) x (x+n)=n:=by
   refine T fun m h1 h2=>(O.l0 m).2 ?_;obtain⟨z,hz,J⟩:=d (m/512) (by omega) (by omega);exact⟨z,List.mem_of_getElem? hz,J⟩
  omega
theorem TA(J:RU l L U G)(H:Sat (Io E r s L U G++Z) w){x n:Int}(hx:0<=x)(hn:0<=n)(aI:x+n<=34359738368){K:Int->Int->World->Prop}
  (hK: ∀w',Sat (Io E r s L U G++Z) w'->K (n-cnt (l 1) x (x+n)) (cnt (l 2) x (x+n)) w'):F.Bo E (some ⟨r,0,none⟩) x n K w:=by
 unfold F.Bo T0.Bo;rw[AM (n:=x+n)];have z0: ∀{m:Iv},Ok m->cnt m x x=0:=fun h=>(C4 h (Int.le_refl _)).2 fun k h1 T=>by omega
 refine AK (fun st w'=>x<=st.2.2.1/\st.2.2.1<=x+n/\st.1=st.2.2.1-x-cnt (l 1) x st.2.2.1/\st.2.1=cnt (l 2) x st.2.2.1/\Sat (Io E r s L U G++Z) w') (fun st _=>(x+n-st.2.2.1).toNat)
  ⟨Int.le_refl _,by show x<=x+n;omega,by dsimp only;rw[z0 J.JA];omega,by dsimp only;rw[z0 J.KT],H⟩ ?_
 rintro⟨a,g,p,v⟩ _ w2 ⟨Y,p1,ha,hg,H2⟩;dsimp only at Y p1 ha hg⊢;subst ha;subst hg;have b1:=Cg (l 1) x p;have b2:=Cg (l 2) x p;have b3:=Ec J.JA (a:=x) (b:=p) (by omega);have b4:=Ec J.KT (a:=x) (b:=p) (by omega);refine AD (fun aG=>PW J H2 (by omega) (by omega) fun w7 r0 r1 r2 _ d C O=> ?_) fun aF=> ?_
 ·have s1:=IN J.JA (a:=x) (k:=p) Y;have s2:=IN J.KT (a:=x) (k:=p) Y;rw[AM (n:=p+1),AM (n:=cnt (l 2) x p+1),AM (n:=p-x-cnt (l 1) x p+1)];refine An (AQ (fun e j=>AQ (fun y=> ?_) fun y=> ?_) fun e j=>AQ (fun y=> ?_) fun y=> ?_)
  all_goals dsimp only
  ·have h1:=s1.2 fun h=>by rw[d.2 h]at e;cases e
   have T:=s2.1 (C.1 y);exact⟨⟨by omega,by omega,by omega,by omega,O⟩,by omega⟩
  ·have h1:=s1.2 fun h=>by rw[d.2 h]at e;cases e
   have T:=s2.2 fun h=>by rw[C.2 h]at y;cases y
   exact⟨⟨by omega,by omega,by omega,by omega,O⟩,by omega⟩
  ·have h1:=s1.1 (d.1 (by simpa using e));have T:=s2.1 (C.1 y);exact⟨⟨by omega,by omega,by omega,by omega,O⟩,by omega⟩
  ·have h1:=s1.1 (d.1 (by simpa using e));have T:=s2.2 fun h=>by rw[C.2 h]at y;cases y
   exact⟨⟨by omega,by omega,by omega,by omega,O⟩,by omega⟩
 ·have:p=x+n:=by omega
  subst this;rw[show x+n-x-cnt (l 1) x (x+n)=n-cnt (l 1) x (x+n) by omega];exact hK _ H2
theorem v9{x:Int×Nat}{U' G':Int->Bool}{i:Int}(h0:0<=i)(h1:i<512)(a g:Bool):
  ((flags 512 (fun k=>U (x.1*512+k))++flags 512 (fun k=>G (x.1*512+k))).set (0+i.toNat) (.bool a)).set (512+i.toNat) (.bool g)=
   flags 512 (fun k=>if x.1*512+k=x.1*512+i then a else U (x.1*512+k))++flags 512 (fun k=>if x.1*512+k=x.1*512+i then g else G (x.1*512+k)):=by
 rw[List.set_append_left _ _ (by rw[BA];omega),List.set_append_right _ _ (by simp only[List.length_set,BA];omega)];rw[show 512+i.toNat-((flags 512 fun k=>U (x.1*512+k)).set (0+i.toNat) (.bool a)).length=0+i.toNat by simp only[List.length_set,BA];omega];rw[KZ h0,KZ h0];have e: ∀(f:Int->Bool) (v:Bool),(flags 512 fun j=>if j=i then v else f j)=flags 512 fun k=>if x.1*512+k=x.1*512+i then v else f k:=fun f v=>EL fun k _ _=>by
  by_cases e:k=i
  ·rw[if_pos e,if_pos (by omega)]
  ·rw[if_neg e,if_neg (by omega)]
 rw[e,e]
theorem RW(hI:RU l L U G)(H:Sat (Io E r s L U G++Z) w){x n:Int}(hx:0<=x)(hn:0<=n)(aX:x+n<=34359738368)(aF: ∀p,x<=p->p<x+n->mem (l 0) p)(a g:Bool){K:World->Prop}
  (hK: ∀w',Sat (Io E r s L (fun p=>if x<=p/\p<x+n then a else U p) (fun p=>if x<=p/\p<x+n then g else G p)++Z) w'->K w'):F.CR E (some ⟨r,0,none⟩) x n a g K w:=by
 unfold F.CR T0.CR;rw[AM (n:=x+n)];refine AK (fun st w'=>x<=st.1/\st.1<=x+n/\Sat (Io E r s L (fun p=>if x<=p/\p<st.1 then a else U p) (fun p=>if x<=p/\p<st.1 then g else G p)++Z) w') (fun st _=>(x+n-st.1).toNat) ⟨Int.le_refl _,by show x<=x+n;omega,?_⟩ ?_
 ·have e: ∀(f:Int->Bool) (v:Bool),(fun p=>if x<=p/\p<x then v else f p)=f:=fun f v=>by funext p;rw[if_neg (by omega)]
  dsimp only;rw[e,e];exact H
 rintro⟨p,v⟩ _ w2 ⟨p0,p1,H2⟩;dsimp only at p0 p1 H2⊢;refine AD (fun aJ=>⟨by decide,?_⟩) fun aO=> ?_
 ·rw[Int.tdiv_eq_ediv_of_nonneg (by omega),Int.tmod_eq_emod_of_nonneg (by omega),AM (n:=p/512),AM (n:=p+1)];refine K8 H2 fun w6 ok Bi H6=> ?_;obtain⟨c,aE,aI⟩:=(hI.l0 p).1 (aF p p0 aJ);have hc:=OD hI.IK aE aI;obtain⟨aa,ha,aU,c1,c2⟩:=Hl H6 hc;simp only[AI];refine⟨s,Dh H6,?_⟩;rw[ha];simp only[AI,Int.toNat_natCast,Nat.mul_one];refine⟨⟨by omega,by omega⟩,_,c2,by decide,?_⟩;simp only[AI];refine⟨⟨by omega,by omega⟩,?_⟩;have hlen: ∀(A B:Int->Bool),(flags 512 A++flags 512 B).length=1024:=fun A B=>by rw[List.length_append,BA,BA]
  refine Ak (Jm H6 hc) rfl (by rw[hlen];omega) fun aP d=> ?_;have T:=(d.front 3 rfl).own;refine⟨s,(d.front 2 rfl).A2 rfl,?_⟩;rw[ha];simp only[AI];refine⟨⟨by omega,by omega⟩,some ⟨c.2,0,none⟩,?_,by decide,?_⟩
  ·rw[add_add];exact T.cell ha (Md L hc).2
  simp only[AI];refine⟨⟨by omega,by omega⟩,?_⟩;rw[add_eq c.2 0 512,Nat.zero_add];refine Ak d (o:=512) rfl (by rw[List.length_set,hlen];omega) fun aK aA=>⟨⟨by omega,by omega,?_⟩,by omega⟩;have O:=v9 (x:=c) (U:=fun q=>if x<=q/\q<p then a else U q) (G:=fun q=>if x<=q/\q<p then g else G q) (U':=U) (G':=G) (i:=p %512) (by omega) (by omega) a g;have e2:c.1*512+p %512=p:=by omega
  rw[e2]at O;rw[O]at aA;have aB: ∀(f:Int->Bool) (v:Bool),(fun q=>if q=p then v else if x<=q/\q<p then v else f q)=fun q=>if x<=q/\q<p+1 then v else f q:=fun f v=>by
   funext q;by_cases e:q=p
   ·rw[if_pos e,if_pos (by omega)]
   ·rw[if_neg e];by_cases e3:x<=q/\q<p
    ·rw[if_pos e3,if_pos (by omega)]
    ·rw[if_neg e3,if_neg (by omega)]
  have J:Sat (Me E (fun q=>if x<=q/\q<p+1 then a else U q) (fun q=>if x<=q/\q<p+1 then g else G q) c::
    Ap (Me E (fun q=>if x<=q/\q<p+1 then a else U q) (fun q=>if x<=q/\q<p+1 then g else G q)) (L.eraseIdx (posC L (p/512)))::Cells r E.CY [.slice s.base s.len s.cap]::Row E.Ax 2 s (parts L)::Z) aK:=by
   have em:Ap (Me E (fun q=>if x<=q/\q<p+1 then a else U q) (fun q=>if x<=q/\q<p+1 then g else G q)) (L.eraseIdx (posC L (p/512)))=Ap (Me E (fun q=>if x<=q/\q<p then a else U q) (fun q=>if x<=q/\q<p then g else G q)) (L.eraseIdx (posC L (p/512))):=by
    refine Ap.congr fun y hy=> ?_;obtain⟨j,C⟩:=List.mem_iff_getElem?.1 hy;have aQ:y.1≠p/512:=by
     intro e;rw[List.getElem?_eraseIdx]at C;have Y:=OD hI.IK (c:=y) (n:=p/512) (by split at C<;>exact List.mem_of_getElem? C) e;split at C
     ·rename_i hjl;have:=Gy C hjl;omega
     ·rename_i hjl;have h2:=(List.getElem?_eq_some_iff.1 C);obtain⟨h3,h4⟩:=h2;have:=List.pairwise_iff_getElem.1 hI.IK (posC L (p/512)) (j+1) (by omega) h3 (by omega);rw[h4,(List.getElem?_eq_some_iff.1 Y).2]at this;omega
    unfold Me;congr 2<;>refine EL fun k k0 k1=> ?_<;>dsimp only
    ·have: ¬(y.1*512+k=p):=by omega
     by_cases e3:x<=y.1*512+k/\y.1*512+k<p
     ·rw[if_pos e3,if_pos (by omega)]
     ·rw[if_neg e3,if_neg (by omega)]
    ·have: ¬(y.1*512+k=p):=by omega
     by_cases e3:x<=y.1*512+k/\y.1*512+k<p
     ·rw[if_pos e3,if_pos (by omega)]
     ·rw[if_neg e3,if_neg (by omega)]
   rw[em];unfold Me;have f1:(fun k=>if x<=c.1*512+k/\c.1*512+k<p+1 then a else U (c.1*512+k))=fun k=>if c.1*512+k=p then a else if x<=c.1*512+k/\c.1*512+k<p then a else U (c.1*512+k):=by
    funext k;exact(congrFun (aB U a) (c.1*512+k)).symm
   have f2:(fun k=>if x<=c.1*512+k/\c.1*512+k<p+1 then g else G (c.1*512+k))=fun k=>if c.1*512+k=p then g else if x<=c.1*512+k/\c.1*512+k<p then g else G (c.1*512+k):=by
    funext k;exact(congrFun (aB G g) (c.1*512+k)).symm
   rw[f1,f2];exact aA
  exact(J.Gq hc).perm (List.Perm.trans (.swap _ _ _) (.cons _ (.swap _ _ _)))
 ·have:p=x+n:=by omega
  subst this;exact hK _ H2
end
end Go.Sh
set_option linter.all false
set_option maxRecDepth 4000
set_option maxHeartbeats 1000000
namespace Go.Sh
theorem RU.congr{l l':Nat->Iv}{L:CL}{U G:Int->Bool}(h:RU l L U G)(h0:l' 0=l 0)(h1:l' 1=l 1)(d:l' 2=l 2):RU l' L U G:=
 ⟨h.IK,h.QB,by rw[h0];exact h.XI,by rw[h1];exact h.JA,by rw[d];exact h.KT,by rw[h0];exact h.l0,by rw[h0,h1];exact h.l1,by rw[h0,d];exact h.l2⟩
theorem Sat.fN{E:Env}{r:Nat}{l l':Nat->Iv}{Z:List Pr}{w:World}(H:Sat (FM E r l::Z) w)(h0:l' 0=l 0)(h1:l' 1=l 1)(j:l' 2=l 2):Sat (FM E r l'::Z) w:=by
 obtain⟨s,L,U,G,d,H⟩:=Sat.HQ.1 H;exact Sat.HQ.2 ⟨s,L,U,G,d.congr h0 h1 j,H⟩
theorem V0{l:Nat->Iv}{x n:Int}: ¬(n=0∨34359738368<=x∨34359738368-x<n∨cnt (l 0) x (x+n)≠n)↔n≠0/\x<34359738368/\x+n<=34359738368/\cnt (l 0) x (x+n)=n:=by
 constructor
 ·intro h;refine⟨fun e=>h (.inl e),?_,?_,Classical.byContradiction fun e=>h (.inr (.inr (.inr e)))⟩
  ·exact Classical.byContradiction fun e=>h (.inr (.inl (by omega)))
  ·exact Classical.byContradiction fun e=>h (.inr (.inr (.inl (by omega))))
 ·rintro⟨h1,j,v,d⟩ h;rcases h with h|h|h|h<;>omega
section
variable{E:Env}{w:World}{Z:List Pr}{r:Nat}{l:Nat->Iv}
theorem RX(H:Sat (FM E r l::Z) w){x n:Int}(hx:0<=x)(C:x<18446744073709551616)(Y:0<=n)(O:n<18446744073709551616){K:Int->Int->World->Prop}
  (j:At l x n true 32≠0-> ∀w',Sat (FM E r l::Z) w'->K 0 (At l x n true 32) w')
  (aB:At l x n true 32=0-> ∀w',(∀l',l' 0=l 0->l' 1=Cs (l 1) x (x+n)->l' 2=Cs (l 2) x (x+n)->Sat (FM E r l'::Z) w')->K (cnt (l 2) x (x+n)) 0 w'):
  F.Bg E (some ⟨r,0,none⟩) x n K w:=by
 obtain⟨s,L,U,G,d,H⟩:=Sat.HQ.1 H;have back: ∀{w'},Sat (Io E r s L U G++Z) w'->Sat (FM E r l::Z) w':=fun h=>Sat.HQ.2 ⟨s,L,U,G,d,h⟩;unfold F.Bg T0.Bg;refine RV d H hx C Y O fun w2 ok Bi H2=> ?_;refine AQ (fun e=> ?_) fun e=> ?_
 ·have hb:n=0∨34359738368<=x∨34359738368-x<n∨cnt (l 0) x (x+n)≠n:=Classical.byContradiction fun g=>by
   rw[Bi.2 g]at e;cases e
  have y:At l x n true 32=10:=by unfold At;rw[if_pos hb]
  have:=j (by rw[y];decide) w2 (back H2);rwa[y]at this
 ·have T:=Bi.1 (by simpa using e);clear Bi;obtain⟨g1,g2,g3,g4⟩:=V0.1 T;have J:=(DM d.XI (a:=x) (b:=x+n) (by omega)).1 (by omega);have c1:=Ec d.JA (a:=x) (b:=x+n) (by omega);refine TA d H2 hx Y (by omega) fun w5 H5=>AD (fun h=> ?_) fun h=> ?_
  ·have v:At l x n true 32=32:=by unfold At;rw[if_neg T,if_pos (by rw[if_pos rfl];omega)]
   have:=j (by rw[v];decide) w5 (back H5);rwa[v]at this
  ·have e0:At l x n true 32=0:=by unfold At;rw[if_neg T,if_neg (by rw[if_pos rfl];omega)]
   refine RW d H5 hx Y (by omega) J true false fun w6 H6=>aB e0 w6 fun l' h0 h1 h2=>Sat.HQ.2 ⟨s,L,_,_,⟨d.IK,d.QB,by rw[h0];exact d.XI,by rw[h1];exact Fc d.JA (by omega),by rw[h2];exact Fc d.KT (by omega),by rw[h0];exact d.l0,fun p=> ?_,fun p=> ?_⟩,H6⟩
   ·rw[h0,h1,Cw (by omega),d.l1];by_cases e:x<=p/\p<x+n
    ·rw[if_pos e];simp[e]
    ·rw[if_neg e];simp[e]
   ·rw[h0,h2,Cw (by omega),d.l2];by_cases e:x<=p/\p<x+n
    ·rw[if_pos e];simp[e]
    ·rw[if_neg e];simp[e]
theorem RY(H:Sat (FM E r l::Z) w)(v: ∀p,mem (l 2) p->mem (l 1) p){x n:Int}{gone:Bool}(J:0<=x)(T:x<18446744073709551616)(hn:0<=n)(aA:n<18446744073709551616){K:Int->World->Prop}
  (y:At l x n false 31≠0-> ∀w',Sat (FM E r l::Z) w'->K (At l x n false 31) w')
  (aE:At l x n false 31=0-> ∀w',(∀l',l' 0=l 0->l' 1=CX (l 1) x (x+n)->l' 2=(if gone then CX (l 2) x (x+n)else l 2)->Sat (FM E r l'::Z) w')->K 0 w'):
  F.BD E (some ⟨r,0,none⟩) x n gone K w:=by
 obtain⟨s,L,U,G,d,H⟩:=Sat.HQ.1 H;have back: ∀{w'},Sat (Io E r s L U G++Z) w'->Sat (FM E r l::Z) w':=fun h=>Sat.HQ.2 ⟨s,L,U,G,d,h⟩;unfold F.BD T0.BD;refine RV d H J T hn aA fun w2 ok Bi H2=> ?_;refine AQ (fun e=> ?_) fun e=> ?_
 ·have hb:n=0∨34359738368<=x∨34359738368-x<n∨cnt (l 0) x (x+n)≠n:=Classical.byContradiction fun g=>by
   rw[Bi.2 g]at e;cases e
  have C:At l x n false 31=10:=by unfold At;rw[if_pos hb]
  have:=y (by rw[C];decide) w2 (back H2);rwa[C]at this
 ·have hg:=Bi.1 (by simpa using e);clear Bi;obtain⟨g1,g2,g3,g4⟩:=V0.1 hg;have j:=(DM d.XI (a:=x) (b:=x+n) (by omega)).1 (by omega);have c1:=Cg (l 1) x (x+n);refine TA d H2 J hn (by omega) fun w5 H5=>AD (fun h=> ?_) fun h=> ?_
  ·have O:At l x n false 31=31:=by unfold At;rw[if_neg hg,if_pos (by rw[if_neg (by decide)];omega)]
   have:=y (by rw[O];decide) w5 (back H5);rwa[O]at this
  ·have c0:cnt (l 1) x (x+n)=0:=by omega
   have e0:At l x n false 31=0:=by unfold At;rw[if_neg hg,if_neg (by rw[if_neg (by decide)];omega)]
   have aC:=(C4 d.JA (a:=x) (b:=x+n) (by omega)).1 c0;have a1:=DF d.JA (a:=x) (b:=x+n) (by omega) J (by omega);have a2:=DF d.KT (a:=x) (b:=x+n) (by omega) J (by omega);refine RW d H5 J hn (by omega) j false gone fun w6 H6=>aE e0 w6 fun l' h0 h1 h2=>Sat.HQ.2 ⟨s,L,_,_,⟨d.IK,d.QB,by rw[h0];exact d.XI,by rw[h1];exact a1.1,?_,by rw[h0];exact d.l0,fun p=> ?_,fun p=> ?_⟩,H6⟩
   ·rw[h2];cases gone
    ·exact d.KT
    ·exact a2.1
   ·rw[h0,h1,a1.2.1,d.l1];by_cases e:x<=p/\p<x+n
    ·rw[if_pos e];simp[e,j p e.1 e.2]
    ·rw[if_neg e];simp[e]
   ·rw[h0,h2];by_cases e:x<=p/\p<x+n
    ·rw[if_pos e];have Y: ¬mem (l 2) p:=fun h=>aC p e.1 e.2 (v p h);cases gone
     ·simp[Y]
     ·rw[if_pos rfl,a2.2.1];simp[e,j p e.1 e.2]
    ·rw[if_neg e];cases gone
     ·rw[if_neg (by decide)];exact d.l2 p
     ·rw[if_pos rfl,a2.2.1,d.l2];simp[e]
def Pn(l:Iv)(n cur run:Int):Prop:=0<=run/\run<n/\PJ l (cur-run) run/\ ∀p,PJ l p n->cur-run<=p
theorem Pn.used{l:Iv}{n cur run:Int}(h:Pn l n cur run)(d: ¬mem l cur):Pn l n (cur+1) 0:=by
 obtain⟨h1,v,y,j⟩:=h;refine⟨by omega,by omega,fun m a b=>by omega,fun p hp=>Classical.byContradiction fun g=>d (hp cur (by omega) ?_)⟩;have:=j p hp;omega
theorem Pn.free{l:Iv}{n cur run:Int}(h:Pn l n cur run)(hm:mem l cur):PJ l (cur+1-(run+1)) (run+1)/\ ∀p,PJ l p n->cur+1-(run+1)<=p:=by
 obtain⟨h1,v,j,d⟩:=h;refine⟨fun m a b=> ?_,fun p hp=>by have:=d p hp;omega⟩;by_cases e:m=cur
 ·rw[e];exact hm
 ·exact j m (by omega) (by omega)
theorem Pn.jump{l:Iv}{n cur run d:Int}(h:Pn l n cur run)(J:cur<=d)(j: ∀m,cur<=m->m<d-> ¬mem l m)(v:cur<d):Pn l n d 0:=by
 obtain⟨h1,C,K,y⟩:=h;refine⟨by omega,by omega,fun m a b=>by omega,fun p hp=>Classical.byContradiction fun g=> ?_⟩;have:=y p hp;by_cases e:cur<=p
 ·exact j p e (by omega) (hp p (by omega) (by omega))
 ·exact j cur (by omega) v (hp cur (by omega) (by omega))
theorem RZ(H:Sat (FM E r l::Z) w){n:Int}(hn:0<=n)(a8:n<18446744073709551616){K:Int->Bool->World->Prop}
  (hK: ∀w',Sat (FM E r l::Z) w'->K ((if n=0 then none else findL (l 1) n).getD 0) (if n=0 then none else findL (l 1) n).isSome w'):F.Du E (some ⟨r,0,none⟩) n K w:=by
 obtain⟨s,L,U,G,C,H⟩:=Sat.HQ.1 H;have O:K ((if n=0 then none else findL (l 1) n).getD 0) (if n=0 then none else findL (l 1) n).isSome w:=hK w (Sat.HQ.2 ⟨s,L,U,G,C,H⟩);clear hK;unfold F.Du;simp only[AI,Nat.mul_one];have hlen:=Ia H;have bL:=Jl C.IK C.QB;have aO: ∀c∈L,∀k,0<=k->k<512->(mem (l 1) (c.1*512+k)↔U (c.1*512+k)=false):=fun c hc k h0 h1=>by
  rw[C.l1];exact⟨fun h=>h.2,fun h=>⟨(C.l0 _).2 ⟨c,hc,by omega⟩,h⟩⟩
 have aG: ∀(i:Nat) c,L[i]? =some c-> ∀B:Int,(∀j c',j<i->L[j]? =some c'->(c'.1+1)*512<=B)-> ∀m,B<=m->m<c.1*512-> ¬mem (l 1) m:=fun i c hc B hB m h1 h2 hm=>by
  obtain⟨y,hy,aV⟩:=(C.l0 m).1 ((C.l1 m).1 hm).1;obtain⟨j,hj⟩:=List.mem_iff_getElem?.1 hy;by_cases g:j<i
  ·have:=hB j y g hj;omega
  ·have h3:c.1<=y.1:=by
    rcases Nat.lt_or_eq_of_le (Nat.le_of_not_lt g)with g2|g2
    ·have:=List.pairwise_iff_getElem.1 C.IK i j (List.getElem?_eq_some_iff.1 hc).1 (List.getElem?_eq_some_iff.1 hj).1 g2;rw[(List.getElem?_eq_some_iff.1 hc).2,(List.getElem?_eq_some_iff.1 hj).2]at this;omega
    ·subst g2;rw[hc]at hj;cases hj;exact Int.le_refl _
   omega
 refine AK (fun st w'=>w'=w/\ ∃i:Nat,st.2.2.1=(i:Int)/\i<=L.length/\((i=0/\st.1=0)∨(0<i/\(∃c,L[i-1]? =some c/\c.1=st.2.1)/\0<n/\Pn (l 1) n ((st.2.1+1)*512) st.1))) (fun st _=>(L.length-st.2.2.1).toNat) ⟨rfl,0,rfl,Nat.zero_le _,.inl ⟨rfl,rfl⟩⟩ ?_;rintro⟨run,last,i',v⟩ _ w2 ⟨rfl,i,hi,bA,hc⟩;dsimp only at hi hc⊢;subst hi;refine⟨s,Dh H,AD (fun bG=>AD (fun aC=> ?_) fun a7=> ?_) fun a5=> ?_⟩
 ·have hl:i<L.length:=by omega
  have hg:=List.getElem?_eq_getElem hl;obtain⟨a,ha,bI,c1,c2⟩:=Hl H hg;generalize L[i]=x at hg c1 c2;have aK:=List.mem_of_getElem? hg;have bE:=C.QB x aK;have aI: ∀(B:Int),(i=0∨ ∃c,L[i-1]? =some c/\(c.1+1)*512<=B)-> ∀j c',j<i->L[j]? =some c'->(c'.1+1)*512<=B:=fun B hB j c' hj aE=>by
   rcases hB with h|⟨c,d,aJ⟩
   ·omega
   ·by_cases e:j=i-1
    ·subst e;rw[d]at aE;cases aE;exact aJ
    ·have:=List.pairwise_iff_getElem.1 C.IK j (i-1) (List.getElem?_eq_some_iff.1 aE).1 (List.getElem?_eq_some_iff.1 d).1 (by omega);rw[(List.getElem?_eq_some_iff.1 aE).2,(List.getElem?_eq_some_iff.1 d).2]at this;omega
  rw[AH (n:=(i:Int)+1)];have aF:(0:Int)<=(i:Int)/\(i:Int)<(s.len:Int):=⟨by omega,by omega⟩;refine HH (fun st w'=>w'=w2/\Pn (l 1) n (x.1*512) st.1) ?_ ?_
  ·have hzero:i=0->Pn (l 1) n (x.1*512) 0:=fun e=>⟨by omega,by omega,fun m a b=>by omega,fun p hp=>Classical.byContradiction fun g=>by
    have h1:=hp p (by omega) (by omega);have h2:=NZ C.JA h1;exact aG i x hg 0 (aI 0 (.inl e)) p h2 (by omega) h1⟩
   refine An (AD (fun bB=>⟨s,Dh H,?_⟩) fun a4 j=>Ac rfl ?_)
   ·rw[ha];simp only[AI,Int.toNat_natCast];refine⟨aF,_,c1,fun j=> ?_⟩;rcases hc with ⟨h,_⟩|⟨_,⟨c,d,aJ⟩,_,T⟩
    ·omega
    have bH:=C.QB c (List.mem_of_getElem? d);rw[AM (n:=last+1)];have a2:last+1<=x.1:=by
     have:=List.pairwise_iff_getElem.1 C.IK (i-1) i (by omega) hl (by omega);rw[(List.getElem?_eq_some_iff.1 d).2,(List.getElem?_eq_some_iff.1 hg).2]at this;omega
    refine Cz (fun aS=>⟨by trivial,?_⟩) fun heq=>⟨by trivial,?_⟩
    ·exact T.jump (by omega) (aG i x hg _ (aI _ (.inr ⟨c,d,by omega⟩))) (by omega)
    ·rw[heq];exact T
   ·have e:i=0:=by omega
    refine⟨rfl,?_⟩;rcases hc with ⟨_,h⟩|⟨h,_⟩
    ·rw[h];exact hzero e
    ·omega
  ·rintro⟨aY,v⟩ _ w8 ⟨rfl,T⟩;dsimp only at T⊢;refine⟨s,Dh H,?_⟩;rw[ha];simp only[AI,Int.toNat_natCast];refine⟨aF,_,c1,?_⟩;refine AK (fun st w'=>w'=w8/\0<=st.2.1/\st.2.1<=512/\Pn (l 1) n (x.1*512+st.2.1) st.1) (fun st _=>(512-st.2.1).toNat) ⟨rfl,by dsimp only;omega,by dsimp only;omega,by rw[show x.1*512+(0:Int)=x.1*512 by omega];exact T⟩ ?_;rintro⟨aN,k,v⟩ _ bC ⟨rfl,k0,k1,J⟩;dsimp only at k0 k1 J⊢;refine AD (fun aA=> ?_) fun aZ=> ?_
   ·have hU:=S9 H hg (i:=k) k0 aA;rw[AM (n:=k+1)];have a3:=J.2.1;have aW:=J.1;refine An ⟨s,Dh H,?_⟩;rw[ha];simp only[AI];refine⟨aF,_,c2,?_⟩;simp only[AI];refine⟨⟨k0,aA⟩,_,hU,AQ (fun hu j=> ?_) fun hu j=> ?_⟩
    ·refine BW (fun e=>by omega) fun _=>⟨⟨by trivial,by omega,by omega,?_⟩,by omega⟩;have:=J.used (fun h=>by rw[(aO x aK k k0 aA).1 h]at hu;cases hu);rw[show x.1*512+(k+1)=x.1*512+k+1 by omega];exact this
    ·have Y:=J.free ((aO x aK k k0 aA).2 hu);rw[AM (n:=aN+1)];refine BW (fun e=>⟨s,Dh H,?_⟩) fun aS=>⟨⟨by trivial,by omega,by omega,?_⟩,by omega⟩
     ·rw[ha];simp only[AI];rw[e]at Y;refine⟨aF,_,c1,AU fun t ht=> ?_⟩;have bJ:0<=x.1*512+k+1-n:=NZ C.JA (Y.1 _ (Int.le_refl _) (by omega));rw[AM (n:=x.1*512),AM (n:=x.1*512+k),AM (n:=x.1*512+k+1),AM (n:=x.1*512+k+1-n)]at ht;have hf:findL (l 1) n=some t:=by
       cases hf:findL (l 1) n with
       | none=>exact absurd Y.1 (K2 C.JA aC hf _)
       | some q=>
        obtain⟨g1,g2⟩:=Ji C.JA aC hf;have h1:=g2 _ Y.1;have h2:=Y.2 q g1;congr 1;omega
      rw[if_neg (by omega),hf]at O;exact O
     ·rw[show x.1*512+(k+1)=x.1*512+k+1 by omega];exact⟨by omega,by omega,Y.1,Y.2⟩
   ·have e:k=512:=by omega
    subst e;refine⟨⟨by trivial,i+1,by omega,by omega,.inr ⟨by omega,⟨x,by simpa using hg,by trivial⟩,aC,?_⟩⟩,by omega⟩;rw[show(x.1+1)*512=x.1*512+512 by omega];exact J
 ·have e:n=0:=by omega
  rw[if_pos e]at O;exact O
 ·have e:i=L.length:=by omega
  by_cases en:n=0
  ·rw[if_pos en]at O;exact O
  ·rw[if_neg en]at O;have hf:findL (l 1) n=none:=by
    cases hf:findL (l 1) n with
    | none=>rfl
    | some q=>
     exfalso;obtain⟨g1,_⟩:=Ji C.JA (by omega) hf;have h1:=g1 (q+n-1) (by omega) (by omega);obtain⟨y,hy,aV⟩:=(C.l0 _).1 ((C.l1 _).1 h1).1;obtain⟨j,hj⟩:=List.mem_iff_getElem?.1 hy;have aR:=(List.getElem?_eq_some_iff.1 hj).1;rcases hc with ⟨h,_⟩|⟨_,⟨c,d,aJ⟩,_,T⟩
     ·omega
     ·have h5:=T.2.2.2 q g1;have h6:=T.2.1;have h7:y.1<=c.1:=by
       by_cases e2:j=i-1
       ·subst e2;rw[d]at hj;cases hj;exact Int.le_refl _
       ·have:=List.pairwise_iff_getElem.1 C.IK j (i-1) aR (List.getElem?_eq_some_iff.1 d).1 (by omega);rw[(List.getElem?_eq_some_iff.1 hj).2,(List.getElem?_eq_some_iff.1 d).2]at this;omega
      omega
   rw[hf]at O;exact O
theorem V1(H:Sat (FM E r l::Z) w){n:Int}(O:0<=n)(j:n<18446744073709551616)(J: ∀p,n≠0->findL (l 1) n=some p->At l p n true 32=0/\0<=p/\p+n<=34359738368){K:Int->Int->Int->World->Prop}
  (v:n=0->K 0 0 1 w)(y:n≠0->findL (l 1) n=none-> ∀w',Sat (FM E r l::Z) w'->K 0 0 30 w')
  (C:n≠0-> ∀p,findL (l 1) n=some p-> ∀w',(∀l',l' 0=l 0->l' 1=Cs (l 1) p (p+n)->l' 2=Cs (l 2) p (p+n)->Sat (FM E r l'::Z) w')->K p (cnt (l 2) p (p+n)) 0 w'):
  F.Bp E (some ⟨r,0,none⟩) n K w:=by
 unfold F.Bp T0.Bp;refine BW v fun d=>RZ H O j fun w3 T=> ?_;rw[if_neg d];cases hf:findL (l 1) n with
 | none=>exact AV rfl (y d hf w3 T)
 | some p=>
  obtain⟨h1,Y,h3⟩:=J p d hf;refine Ac rfl (RX T Y (by show p<_;omega) O j (fun h=>absurd h1 h) fun _ w' h=>C d p hf w' h)
end
end Go.Sh
set_option linter.all false
set_option maxRecDepth 4000
set_option maxHeartbeats 1000000
namespace Go.Sh
theorem LR(n:Nat)(b:Bool):List.replicate n (Value.bool b)=flags n fun _=>b:=by
 apply List.ext_getElem?;intro i;rw[List.getElem?_replicate];by_cases h:i<n
 ·rw[if_pos h,Gd h]
 ·rw[if_neg h,List.getElem?_eq_none (by rw[BA];omega)]
section
variable{E:Env}{w:World}{Z:List Pr}{r:Nat}{l:Nat->Iv}
theorem Sat.fO{b:Nat}(H:Sat (Cells b E.CY [.slice none 0 0]::Z) w)(j: ∀i,l i=[]):Sat (FM E b l::Z) w:=by
 have d: ∀i p,¬mem (l i) p:=fun i p=>by rw[j];exact A9 p
 refine Sat.HQ.2 ⟨⟨none,0,0⟩,[],fun _=>false,fun _=>false,⟨List.Pairwise.nil,fun c v=>(by cases v),by rw[j];trivial,by rw[j];trivial,by rw[j];trivial,fun p=> ?_,fun p=> ?_,fun p=> ?_⟩,?_⟩
 ·exact⟨fun h=>absurd h (d 0 p),fun⟨c,v,_⟩=>(by cases v)⟩
 ·exact⟨fun h=>absurd h (d 1 p),fun h=>absurd h.1 (d 0 p)⟩
 ·exact⟨fun h=>absurd h (d 2 p),fun h=>absurd h.1 (d 0 p)⟩
 ·have h1:=(H.nil E.Ax 2);have y:=h1.MW (Me E (fun _=>false) fun _=>false);exact y.perm (List.Perm.trans (.swap _ _ _) (List.Perm.trans (.cons _ (.swap _ _ _)) (.swap _ _ _)))
theorem T9(H:Sat Z w){c:Int}{U G:Int->Bool}(hU: ∀k,0<=k->k<512->U (c*512+k)=false)(y: ∀k,0<=k->k<512->G (c*512+k)=true){K:Option Addr->World->Prop}
  (O: ∀b w',Sat (Me E U G (c,b)::Z) w'->K (some ⟨b,0,none⟩) w'):F.Es E K w:=by
 unfold F.Es T0.Es;have Y:(Array.replicate 1024 (Value.bool false))=⟨List.replicate 1024 (.bool false)⟩:=by apply Array.ext';simp only[Array.toList_replicate]
 rw[Y];generalize hrep:List.replicate 1024 (Value.bool false)=rep;have hl:rep.length=1024:=by rw[<-hrep];exact List.length_replicate
 refine Ad H fun b w2 H2 _=> ?_;rw[add_eq,Nat.zero_add];refine Oz H2 (o:=512) (by omega) (by decide) (by decide) (by decide) true fun J vs C T v=>O b J ?_;have e:vs=flags 512 (fun k=>U ((c,b).1*512+k))++flags 512 (fun k=>G ((c,b).1*512+k)):=by
  apply List.ext_getElem?;intro j;rw[T j];have d:(0+512:Int).toNat=512:=rfl;have h0:(0:Int).toNat=0:=rfl;rw[d,h0];by_cases g1:j<512
  ·rw[if_neg (by omega),List.getElem?_append_left (by rw[BA];omega),Gd g1,<-hrep,List.getElem?_replicate,if_pos (by omega)];have:=hU j (by omega) (by omega);dsimp only;rw[this]
  ·by_cases g2:j<1024
   ·rw[if_pos (by omega),List.getElem?_append_right (by rw[BA];omega),BA,Gd (by omega)];have:=y ((j-512:Nat):Int) (by omega) (by omega);dsimp only;rw[this]
   ·rw[if_neg (by omega),List.getElem?_eq_none (by omega),List.getElem?_eq_none (by rw[List.length_append,BA,BA];omega)]
 rw[e]at v;exact v
theorem Xn(H:Sat (FM E r l::Z) w){c n:Int}(hc:0<=c)(b0:c<18446744073709551616)(hn:0<=n)(b8:n<18446744073709551616){K:Int->World->Prop}
  (aB:(n=0∨262144<n∨67108864<c∨67108864-c<n)->K 1 w)
  (aJ: ¬(n=0∨262144<n∨67108864<c∨67108864-c<n)->cnt (l 0) (c*512) ((c+n)*512)≠0-> ∀w',Sat (FM E r l::Z) w'->K 34 w')
  (aU: ¬(n=0∨262144<n∨67108864<c∨67108864-c<n)->cnt (l 0) (c*512) ((c+n)*512)=0-> ∀w',(∀l',(∀i,i<3->l' i=CX (l i) (c*512) ((c+n)*512))->Sat (FM E r l'::Z) w')->K 0 w'):
  F.B5 E (some ⟨r,0,none⟩) c n K w:=by
 obtain⟨s,L,U,G,O,H⟩:=Sat.HQ.1 H;have back: ∀{w'},Sat (Io E r s L U G++Z) w'->Sat (FM E r l::Z) w':=fun h=>Sat.HQ.2 ⟨s,L,U,G,O,h⟩;unfold F.B5 T0.B5;refine An (BW (fun e j=>AV rfl (aB (.inl e))) fun e1=>AD (fun e j=>AV rfl (aB (.inr (.inl e)))) fun e2=>AD (fun e j=>AV rfl (aB (.inr (.inr (.inl e))))) fun e3=> ?_);rw[AM (n:=67108864-c)];refine fun j=>AD (fun e=>aB (.inr (.inr (.inr e)))) fun e4=> ?_;have aM: ¬(n=0∨262144<n∨67108864<c∨67108864-c<n):=by omega
 have aJ:=aJ aM;have aU:=aU aM;clear aB;have cE:=Jl O.IK O.QB;have hlen:=Ia H;refine K8 H fun w6 ok Bi H6=> ?_;clear Bi;have aZ:=QA L c;have aN:cnt (l 0) (c*512) ((c+n)*512)=0↔ ∀y∈L,¬(c<=y.1/\y.1<c+n):=by
  rw[C4 O.XI (by omega)];constructor
  ·intro h y J ⟨h1,h2⟩;exact h (y.1*512) (by omega) (by omega) ((O.l0 _).2 ⟨y,J,by omega⟩)
  ·intro h m h1 h2 hm;obtain⟨y,J,aH⟩:=(O.l0 m).1 hm;exact h y J ⟨by omega,by omega⟩
 simp only[AI];refine HH (fun st w'=>w'=w6/\(st.1=false-> ∀y,L[posC L c]? =some y->c+n<=y.1)/\(st.1=true->cnt (l 0) (c*512) ((c+n)*512)≠0)) ?_ ?_
 ·refine⟨s,Dh H6,AD (fun bJ=>⟨s,Dh H6,?_⟩) fun bC=>⟨rfl,fun _ y J=> ?_,fun e=>by cases e⟩⟩
  ·have hg:=List.getElem?_eq_getElem (show posC L c<L.length by omega);obtain⟨a,ha,b3,c1,_⟩:=Hl H6 hg;generalize L[posC L c]=x at hg c1;rw[ha];simp only[AI,Int.toNat_natCast];rw[AM (n:=c+n)];refine⟨⟨by omega,by omega⟩,_,c1,by trivial,fun e y J=> ?_,fun e=> ?_⟩
   ·rw[hg]at J;cases J;have:=of_decide_eq_false e;omega
   ·have h1:=of_decide_eq_true e;have h2:=OC hg;exact fun h=>aN.1 h x (List.mem_of_getElem? hg) ⟨h2,h1⟩
  ·have:=(List.getElem?_eq_some_iff.1 J).1;omega
 rintro⟨bt,v⟩ _ w9 ⟨rfl,aR,aT⟩;dsimp only at aR aT⊢;refine AQ (fun e=>aJ (aT e) w9 (back H6)) fun e=> ?_;have aP:=aR e;clear aR aT;have T: ∀y∈L,¬(c<=y.1/\y.1<c+n):=by
  intro y J ⟨h1,h2⟩;obtain⟨j,C⟩:=List.mem_iff_getElem?.1 J;have bB:=(List.getElem?_eq_some_iff.1 C).1;by_cases g:j<posC L c
  ·have:=Gy C g;omega
  ·have hg:=List.getElem?_eq_getElem (show posC L c<L.length by omega);have h3:=aP _ hg;rcases Nat.lt_or_eq_of_le (Nat.le_of_not_lt g)with g2|g2
   ·have:=List.pairwise_iff_getElem.1 O.IK (posC L c) j (by omega) bB g2;rw[(List.getElem?_eq_some_iff.1 C).2]at this;omega
   ·subst g2;rw[C]at hg;rw[<-Option.some.inj hg]at h3;omega
 have bN:=aN.2 T;clear aJ aN;generalize hU':(fun p:Int=>if c*512<=p/\p<(c+n)*512 then false else U p)=U';generalize hG':(fun p:Int=>if c*512<=p/\p<(c+n)*512 then true else G p)=G';have a6: ∀d k,c<=d->d<c+n->0<=k->k<512->U' (d*512+k)=false/\G' (d*512+k)=true:=fun d k h1 h2 h3 h4=>by
  rw[<-hU',<-hG'];dsimp only;rw[if_pos (by omega),if_pos (by omega)];exact⟨rfl,rfl⟩
 have bR: ∀y∈L,Me E U G y=Me E U' G' y:=fun y J=>by
  have bZ:=T y J;unfold Me;congr 2
  ·refine EL fun k h0 h1=> ?_;rw[<-hU'];dsimp only;rw[if_neg (by omega)]
  ·refine EL fun k h0 h1=> ?_;rw[<-hG'];dsimp only;rw[if_neg (by omega)]
 have bK:Sat (Ap (Me E U' G') L::Cells r E.CY [.slice s.base s.len s.cap]::Row E.Ax 2 s (parts L)::Z) w9:=by
  rw[<-Ap.congr bR];exact H6.front 2 rfl
 refine Hu (n:=0) (z:=2) bK rfl (by decide) fun b2 bE aI=> ?_;have aO:=(aI.front 3 rfl).M4;have aX:(parts L).length=s.len*2:=by rw[Mc,hlen]
 refine⟨s,(aI.front 2 rfl).A2 rfl,⟨by omega,by have:=(aI.front 3 rfl).own.cap;omega⟩,?_⟩;rw[Lk,Int.toNat_natCast];have bF:rowAt bE s.base (posC L c*2) (parts (L.take (posC L c))):=by
  have:=Kv aO (m:=posC L c*2) (by omega) aX;rwa[RS]at this
 refine F4 (x:=⟨s.base,posC L c,s.cap⟩) (news:=parts (L.take (posC L c))) aI rfl bF (by rw[Mc,List.length_take];show min (posC L c) L.length*2=posC L c*2;rw[Nat.min_eq_left aZ]) (S8 _) (by dsimp only;omega) (by dsimp only;omega) fun bD b9 a9 aF=> ?_;rw[List.nil_append]at a9;have aF:bD.len=posC L c:=by rw[aF];show 0+posC L c=_;omega
 refine AK (fun st w'=> ∃(k:Nat) (M:CL),st.2.1=(k:Int)/\(k:Int)<=n/\M.length=k/\(∀(j:Nat) y,M[j]? =some y->y.1=c+j)/\st.1.len=posC L c+k/\
   Sat (Row E.Ax 2 st.1 (parts (L.take (posC L c)++M))::Ap (Me E U' G') M::Ap (Me E U' G') L::Cells r E.CY [.slice s.base s.len s.cap]::Row E.Ax 2 s (parts L)::Z) w') (fun st _=>(n-st.2.1).toNat)
  ⟨0,[],rfl,by show(0:Int)<=n;omega,rfl,fun j y h=>(by cases h),aF,by rw[List.append_nil];exact(a9.MW (Me E U' G')).perm (.swap _ _ _)⟩ ?_
 rintro⟨b4,k',v⟩ _ bG ⟨k,M,hk,cB,hM,aD,a5,Y⟩;dsimp only at hk a5 Y⊢;subst hk;refine AD (fun bJ=> ?_) fun bC=> ?_
 ·refine T9 Y (c:=c+k) (U:=U') (G:=G') (fun i h0 h1=>(a6 (c+k) i (by omega) (by omega) h0 h1).1) (fun i h0 h1=>(a6 (c+k) i (by omega) (by omega) h0 h1).2) fun b b5 bS=> ?_;rw[AM (n:=c+(k:Int)),AM (n:=(k:Int)+1)];refine Ad bS fun cC b1 bH _=> ?_;refine GP (news:=[.int .u64 (c+k),.pointer (some ⟨b,0,none⟩)]) (bH.DR 1 rfl) rfl rfl (by simp[Value.oneCell']) (by omega) (by omega) fun bI bQ bA bV=> ?_;have ep:parts (L.take (posC L c)++M)++[Value.int .u64 (c+k),.pointer (some ⟨b,0,none⟩)]=parts (L.take (posC L c)++(M++[(c+(k:Int),b)])):=by
   rw[<-List.append_assoc,S7 (L.take (posC L c)++M)];rfl
  rw[ep]at bA;refine⟨⟨k+1,M++[(c+(k:Int),b)],by omega,by omega,by simp[hM],fun j y C=> ?_,by omega,?_⟩,by omega⟩
  ·rw[List.getElem?_append]at C;split at C
   ·exact aD j y C
   ·rename_i hj2;have:j=M.length:=by
     have:=(List.getElem?_eq_some_iff.1 C).1;simp at this;omega
    subst this;rw[Nat.sub_self]at C;cases C;show c+(k:Int)=c+(M.length:Nat);rw[hM]
  ·have h1:Sat (Me E U' G' (c+(k:Int),b)::Ap (Me E U' G') M::Row E.Ax 2 bI (parts (L.take (posC L c)++(M++[(c+(k:Int),b)])))::Ap (Me E U' G') L::Cells r E.CY [.slice s.base s.len s.cap]::Row E.Ax 2 s (parts L)::Z) bQ:=
    bA.perm (List.Perm.trans (.swap _ _ _) (.cons _ (.swap _ _ _)))
   exact h1.Qh.perm (.swap _ _ _)
 ·have bW:(k:Int)=n:=by omega
  have aK:=(Y.front 4 rfl).M4;refine⟨s,(Y.front 3 rfl).A2 rfl,⟨by omega,by omega⟩,?_⟩;have aW:=(Y.front 4 rfl).own.cap;have bP:rowAt bG (Gp s.base s.cap (posC L c) 2) ((s.len-posC L c)*2) (parts (L.drop (posC L c))):=by
   have:=Ja (z:=2) aK rfl (k:=posC L c) (by omega) aW aX;rwa[RT]at this
  refine F4 (x:=⟨Gp s.base s.cap (posC L c) 2,s.len-posC L c,s.cap-posC L c⟩) (news:=parts (L.drop (posC L c))) Y rfl bP (by rw[Mc,List.length_drop];show _=(s.len-posC L c)*2;rw[hlen]) (S8 _) (by dsimp only;omega) (by dsimp only;omega) fun aE cD a7 bX=> ?_;rw[<-S7]at a7;have bM:=(a7.front 3 rfl);refine El bM (o:=0) rfl (by simp) fun a3 aS=>aU bN a3 fun l' aQ=> ?_;simp only[List.set]at aS;generalize hN:L.take (posC L c)++M++L.drop (posC L c)=N at aS;have aY:(M++L).Perm N:=by
   rw[<-hN,List.append_assoc];have h1:(M++L).Perm (M++(L.take (posC L c)++L.drop (posC L c))):=by rw[List.take_append_drop]
   refine h1.trans ?_;rw[<-List.append_assoc,<-List.append_assoc];exact List.perm_append_comm.append_right _
  have aL: ∀y,y∈N↔y∈M∨y∈L:=fun y=>by rw[<-aY.mem_iff,List.mem_append]
  have aG: ∀y∈M,c<=y.1/\y.1<c+n:=fun y J=>by
   obtain⟨j,C⟩:=List.mem_iff_getElem?.1 J;have:=(List.getElem?_eq_some_iff.1 C).1;have:=aD j y C;omega
  have a0:=DF O.XI (a:=c*512) (b:=(c+n)*512) (by omega) (by omega) (by omega);have a1:=DF O.JA (a:=c*512) (b:=(c+n)*512) (by omega) (by omega) (by omega);have a2:=DF O.KT (a:=c*512) (b:=(c+n)*512) (by omega) (by omega) (by omega);rw[<-aQ 0 (by decide)]at a0;rw[<-aQ 1 (by decide)]at a1;rw[<-aQ 2 (by decide)]at a2;refine Sat.HQ.2 ⟨aE,N,U',G',⟨?_,fun y J=> ?_,a0.1,a1.1,a2.1,fun p=> ?_,fun p=> ?_,fun p=> ?_⟩,?_⟩
  ·rw[<-hN];unfold KG;rw[List.append_assoc,List.pairwise_append,List.pairwise_append];refine⟨O.IK.sublist (List.take_sublist _ _),⟨?_,O.IK.sublist (List.drop_sublist _ _),?_⟩,?_⟩
   ·rw[List.pairwise_iff_getElem];intro i j hi C b6;have h1:=aD i _ (List.getElem?_eq_getElem hi);have h2:=aD j _ (List.getElem?_eq_getElem C);omega
   ·intro a ha d hd;have:=aG a ha;obtain⟨j,C⟩:=List.mem_iff_getElem?.1 hd;rw[List.getElem?_drop]at C;have h2:=NG O.IK C (n:=c) (by omega);have h3:=T d (List.mem_of_getElem? C);omega
   ·intro a ha d hd;obtain⟨j,C⟩:=List.mem_iff_getElem?.1 ha;rw[List.getElem?_take]at C;split at C
    ·rename_i hj2;have h1:=Gy C hj2;rcases List.mem_append.1 hd with hd|hd
     ·have:=aG d hd;omega
     ·obtain⟨i,hi⟩:=List.mem_iff_getElem?.1 hd;rw[List.getElem?_drop]at hi;have h2:=NG O.IK hi (n:=c) (by omega);omega
    ·cases C
  ·rcases(aL y).1 J with h|h
   ·have:=aG y h;omega
   ·exact O.QB y h
  ·rw[a0.2.1,O.l0];constructor
   ·rintro(⟨y,J,aH⟩|⟨h1,h2⟩)
    ·exact⟨y,(aL y).2 (.inr J),aH⟩
    ·have hg:=List.getElem?_eq_getElem (l:=M) (i:=(p/512-c).toNat) (by omega);exact⟨_,(aL _).2 (.inl (List.mem_of_getElem? hg)),by rw[aD _ _ hg];omega⟩
   ·rintro⟨y,J,aH⟩;rcases(aL y).1 J with h|h
    ·have:=aG y h;exact .inr (by omega)
    ·exact .inl ⟨y,h,aH⟩
  ·rw[a1.2.1,a0.2.1,O.l1,<-hU'];dsimp only;by_cases e:c*512<=p/\p<(c+n)*512
   ·rw[if_pos e];simp[e]
   ·rw[if_neg e];simp[e]
  ·rw[a2.2.1,a0.2.1,O.l2,<-hG'];dsimp only;by_cases e:c*512<=p/\p<(c+n)*512
   ·rw[if_pos e];simp[e]
   ·rw[if_neg e];simp[e]
  ·have h1:Sat (Ap (Me E U' G') M::Ap (Me E U' G') L::Cells r E.CY [.slice aE.base aE.len aE.cap]::Row E.Ax 2 aE (parts N)::Row E.Ax 2 s (parts L)::Z) a3:=
    aS.perm (List.Perm.trans (List.Perm.trans (.cons _ (.swap _ _ _)) (.swap _ _ _)) (.cons _ (List.Perm.trans (.cons _ (.swap _ _ _)) (.swap _ _ _))))
   have h2:=(Sat.iG.2 h1).Ls aY;exact(h2.front 3 rfl).tail.perm (List.Perm.trans (.swap _ _ _) (.cons _ (.swap _ _ _)))
end
end Go.Sh
set_option linter.all false
set_option maxRecDepth 4000
set_option maxHeartbeats 1000000
namespace Go.Sh
section
variable{E:Env}{w:World}{Z:List Pr}{r:Nat}{l:Nat->Iv}
theorem Xo{U G:Int->Bool}{c:Int×Nat}(H:Sat (Me E U G c::Z) w){n:Int}(hn:0<=n)(aO:n<=512){K:Int->Int->World->Prop}
  (aI:n<1∨(∀k,0<=k->k<512->(U (c.1*512+k)||G (c.1*512+k))=true)-> ∀w',Sat (Me E U G c::Z) w'->K 0 0 w')
  (aF:1<=n-> ∀e i,0<=i->i<=e->e<512->(∀k,e<k->k<512->(U (c.1*512+k)||G (c.1*512+k))=true)->(∀k,i<=k->k<=e->(U (c.1*512+k)||G (c.1*512+k))=false)->e-i+1<=n->
   (e-i+1=n∨i=0∨(U (c.1*512+(i-1))||G (c.1*512+(i-1)))=true)-> ∀w',Sat (Me E U (fun p=>if c.1*512+i<=p/\p<=c.1*512+e then true else G p) c::Z) w'->K i (e-i+1) w'):
  F.BX E (some ⟨c.2,0,none⟩) n K w:=by
 unfold F.BX T0.BX;simp only[AI,Nat.mul_one];have e1:(Array.replicate 512 (Value.bool false))=⟨flags 512 fun _=>false⟩:=by apply Array.ext';simp only[Array.toList_replicate];exact LR 512 false
 rw[e1];refine Ad H fun b1 w2 H2 _=> ?_;have Y: ∀(v:Int->Bool),Win (flags 512 v) 0 v:=fun v=>⟨by rw[BA];omega,fun k h0 h1=>Je (n:=512) h0 h1⟩;refine AK (fun st w'=>0<=st.1/\st.1<=512/\Sat (Cells b1 E.FO (flags 512 fun k=>if k<st.1 then(U (c.1*512+k)||G (c.1*512+k))else false)::Me E U G c::Z) w') (fun st _=>(512-st.1).toNat) ⟨by decide,by decide,?_⟩ ?_
 ·have:(flags 512 fun k=>if k<(0:Int)then(U (c.1*512+k)||G (c.1*512+k))else false)=flags 512 fun _=>false:=EL fun k h0 _=>by rw[if_neg (by omega)]
  dsimp only;rw[this];exact H2
 rintro⟨i,v⟩ _ w4 ⟨i0,i1,J⟩;dsimp only at i0 i1 J⊢;refine AD (fun d=> ?_) fun aK=> ?_
 ·have hU:=(J.front 1 rfl).cell ((ZA (U:=U) (G:=G) c).2 i i0 d);have hG:=(J.front 1 rfl).cell (o:=512) ((T8 (U:=U) (G:=G) c).2 i i0 d);have aC:w4.cell? (((Addr.mk c.2 0 none).add 512).add i.toNat)=some (.bool (G (c.1*512+i))):=by rw[add_eq c.2 0 512,Nat.zero_add];exact hG
  rw[AH (n:=i+1)];have C: ∀w',Sat (Cells b1 E.FO ((flags 512 fun k=>if k<i then(U (c.1*512+k)||G (c.1*512+k))else false).set (0+i.toNat) (.bool (U (c.1*512+i)||G (c.1*512+i))))::Me E U G c::Z) w'->
    (0<=i+1/\i+1<=512/\Sat (Cells b1 E.FO (flags 512 fun k=>if k<i+1 then(U (c.1*512+k)||G (c.1*512+k))else false)::Me E U G c::Z) w')/\(512-(i+1)).toNat<(512-i).toNat:=fun w' h=>by
   refine⟨⟨by omega,by omega,?_⟩,by omega⟩;rw[KZ i0]at h;have:(flags 512 fun k=>if k<i+1 then(U (c.1*512+k)||G (c.1*512+k))else false)=flags 512 fun j=>if j=i then(U (c.1*512+i)||G (c.1*512+i))else if j<i then(U (c.1*512+j)||G (c.1*512+j))else false:=EL fun k _ _=>by
    by_cases e:k=i
    ·rw[if_pos e,if_pos (by omega),e]
    ·rw[if_neg e];by_cases e2:k<i
     ·rw[if_pos e2,if_pos (by omega)]
     ·rw[if_neg e2,if_neg (by omega)]
   rw[this];exact h
  refine⟨⟨i0,d⟩,_,hU,AQ (fun e=>⟨⟨i0,d⟩,Ak J rfl (by rw[BA];omega) fun w8 H8=>C w8 ?_⟩) fun e=>⟨⟨i0,d⟩,_,aC,⟨i0,d⟩,Ak J rfl (by rw[BA];omega) fun aG aD=>C aG ?_⟩⟩
  ·have e':U (c.1*512+i)=true:=e;rw[e',Bool.true_or];exact H8
  ·have e':U (c.1*512+i)=false:=e;rw[e',Bool.false_or];exact aD
 ·have aB:i=512:=by omega
  subst aB;have ef:(flags 512 fun k=>if k<(512:Int)then(U (c.1*512+k)||G (c.1*512+k))else false)=flags 512 fun k=>(U (c.1*512+k)||G (c.1*512+k)):=EL fun k _ h=>by rw[if_pos (by omega)]
  rw[ef]at J;have aA: ∀{w'},Sat (Cells b1 E.FO (flags 512 fun k=>(U (c.1*512+k)||G (c.1*512+k)))::Me E U G c::Z) w'->Sat (Me E U G c::Z) w':=fun h=>h.tail;have hlen: ∀(A B:Int->Bool),(flags 512 A++flags 512 B).length=1024:=fun A B=>by rw[List.length_append,BA,BA]
  refine Xm J (Y _) (by omega) (by omega) (fun aH=> ?_) fun aJ e i h0 h1 h2 h3 h4 h5 h6=> ?_
  ·rw[add_eq c.2 0 512,Nat.zero_add];refine Oz (aA J) (o:=512) (by rw[hlen];omega) (by omega) (by omega) (by omega) true fun T O hl hv y=>aI aH T ?_;have:O=flags 512 (fun k=>U (c.1*512+k))++flags 512 (fun k=>G (c.1*512+k)):=by
    apply List.ext_getElem?;intro j;rw[hv j,if_neg (by omega)]
   rw[this]at y;exact y
  ·rw[add_eq c.2 0 512,Nat.zero_add];refine Oz (aA J) (o:=512) (by rw[hlen];omega) (by omega) (by omega) (by omega) true fun T O hl hv y=>aF aJ e i h0 h1 h2 h3 h4 h5 h6 T ?_;have:O=flags 512 (fun k=>U (c.1*512+k))++flags 512 (fun k=>if c.1*512+i<=c.1*512+k/\c.1*512+k<=c.1*512+e then true else G (c.1*512+k)):=by
    apply List.ext_getElem?;intro j;rw[hv j];by_cases g1:j<512
    ·rw[if_neg (by omega),List.getElem?_append_left (by rw[BA];omega),List.getElem?_append_left (by rw[BA];omega)]
    ·by_cases g2:j<1024
     ·rw[List.getElem?_append_right (by rw[BA];omega),List.getElem?_append_right (by rw[BA];omega),BA,Gd (by omega),Gd (by omega)];by_cases g3:512+i.toNat<=j/\j<512+(i+(e-i+1)).toNat
      ·rw[if_pos g3,if_pos (by omega)]
      ·rw[if_neg g3,if_neg (by omega)]
     ·rw[if_neg (by omega),List.getElem?_eq_none (by rw[hlen];omega),List.getElem?_eq_none (by rw[hlen];omega)]
   rw[this]at y;exact y
theorem Xp(H:Sat (FM E r l::Z) w)(hT:Ze l)(aD:Ok (l 3)){n:Int}(hn:0<=n)(bH:n<18446744073709551616){K:Int->Int->World->Prop}
  (a7:l 3=[]∨n=0-> ∀w',Sat (FM E r l::Z) w'->K 0 0 w')
  (bB:n≠0-> ∀q m,l 3=m++[q]-> ∀p k,k=min (q.2-max q.1 ((q.2-1)/512*512)) n->p=q.2-k-> ∀w',(∀l',l' 0=l 0->l' 1=l 1->l' 2=CX (l 2) p (p+k)->Sat (FM E r l'::Z) w')->K p k w'):
  F.BM E (some ⟨r,0,none⟩) n K w:=by
 obtain⟨s,L,U,G,C,H⟩:=Sat.HQ.1 H;have back: ∀{w'},Sat (Io E r s L U G++Z) w'->Sat (FM E r l::Z) w':=fun h=>Sat.HQ.2 ⟨s,L,U,G,C,h⟩;unfold F.BM T0.BM;simp only[AI];have bS:=Jl C.IK C.QB;have hlen:=Ia H;have d: ∀c∈L,∀k,0<=k->k<512->(mem (l 3) (c.1*512+k)↔(U (c.1*512+k)||G (c.1*512+k))=false):=fun c hc k h0 h1=>by
  have hm:mem (l 0) (c.1*512+k):=(C.l0 _).2 ⟨c,hc,by omega⟩;rw[hT.idle,C.l1,C.l2,Bool.or_eq_false_iff];simp[hm]
 have aH: ∀p,mem (l 3) p-> ∃c∈L,c.1=p/512:=fun p hp=>(C.l0 p).1 ((C.l1 p).1 ((hT.idle p).1 hp).1).1;refine HH (fun st w'=>w'=w/\st.1=min n 512) ?_ ?_
 ·exact AD (fun h=>⟨rfl,by dsimp only;omega⟩) fun h=>⟨rfl,by dsimp only;omega⟩
 rintro⟨mo,v⟩ _ w3 ⟨rfl,aN⟩;dsimp only at aN⊢;subst aN;refine⟨s,Dh H,AU fun i0 a5=> ?_⟩;rw[AH (n:=(s.len:Int)-1)]at a5;rw[AH (n:=min n 512)];refine AK (fun st w'=> -1<=st.1/\st.1<L.length/\(n=0∨ ∀(j:Nat) c,st.1<(j:Int)->L[j]? =some c-> ∀k,0<=k->k<512-> ¬mem (l 3) (c.1*512+k))/\Sat (Io E r s L U G++Z) w') (fun st _=>(st.1+1).toNat)
  ⟨by dsimp only;omega,by dsimp only;omega,.inr fun j c O hc=>by have:=(List.getElem?_eq_some_iff.1 hc).1;dsimp only at O;omega,H⟩ ?_
 rintro⟨i,v⟩ _ w8 ⟨i1,i2,aF,H8⟩;dsimp only at i1 i2 aF⊢;refine AD (fun a6=>⟨s,Dh H8,?_⟩) fun bN=> ?_
 ·have Y:=List.getElem?_eq_getElem (show i.toNat<L.length by omega);obtain⟨a,ha,bP,c1,c2⟩:=Hl H8 Y;generalize L[i.toNat]=c at Y c1 c2;have aA:=List.mem_of_getElem? Y;have bO:=C.QB c aA;rw[ha];simp only[AI];have aR:(0:Int)<=i/\i<(s.len:Int):=⟨a6,by omega⟩;refine⟨aR,_,c2,?_⟩;refine Xo (Jm H8 Y) (by omega) (by omega) (fun bA a0 aB=> ?_) fun bR e J h0 h1 h2 h3 h4 h5 h6 a0 aB=> ?_
  ·refine Ac (by decide) ?_;rw[AH (n:=i-1)];refine⟨⟨by omega,by omega,?_,?_⟩,by omega⟩
   ·rcases aF with h|h
    ·exact .inl h
    rcases bA with h'|h'
    ·left;omega
    ·right;intro j c' O aI k k0 k1 hm;by_cases ej:(j:Int)=i
     ·have:j=i.toNat:=by omega
      subst this;rw[Y]at aI;cases aI;have:=h' k k0 k1;rw[(d c aA k k0 k1).1 hm]at this;cases this
     ·exact h j c' (by omega) aI k k0 k1 hm
   ·have h7:=aB.Gq Y;exact h7.perm (List.Perm.trans (.swap _ _ _) (.cons _ (.swap _ _ _)))
  ·have a1:n≠0:=by omega
   have aU: ∀(j:Nat) c,i<(j:Int)->L[j]? =some c-> ∀k,0<=k->k<512-> ¬mem (l 3) (c.1*512+k):=aF.resolve_left a1;refine AV (decide_eq_true (by omega)) ?_;have aX:=(aB.front 3 rfl).own;refine⟨s,(aB.front 2 rfl).A2 rfl,?_⟩;rw[ha];simp only[AI];refine⟨aR,_,aX.cell ha (Md L Y).1,AU fun t ht=> ?_⟩;rw[AM (n:=c.1*512),AM (n:=J),AM (n:=c.1*512+J)]at ht;rw[AM (n:=e-J+1)];have aC:mem (l 3) (c.1*512+e):=(d c aA e (by omega) h2).2 (h4 e h1 (Int.le_refl _));have aO: ∀k,J<=k->k<=e->mem (l 3) (c.1*512+k):=fun k k0 k1=>(d c aA k (by omega) (by omega)).2 (h4 k k0 k1);have aT: ∀p,mem (l 3) p->p<=c.1*512+e:=fun p hp=>by
    obtain⟨y,T,aW⟩:=aH p hp;obtain⟨j,O⟩:=List.mem_iff_getElem?.1 T;rcases Int.lt_trichotomy (j:Int) i with g|g|g
    ·have:=List.pairwise_iff_getElem.1 C.IK j i.toNat (List.getElem?_eq_some_iff.1 O).1 (List.getElem?_eq_some_iff.1 Y).1 (by omega);rw[(List.getElem?_eq_some_iff.1 O).2,(List.getElem?_eq_some_iff.1 Y).2]at this;omega
    ·have:j=i.toNat:=by omega
     subst this;rw[Y]at O;cases O;refine Classical.byContradiction fun g2=> ?_;have h7:=(d c aA (p-c.1*512) (by omega) (by omega)).1 (by rwa[show c.1*512+(p-c.1*512)=p by omega]);rw[h3 (p-c.1*512) (by omega) (by omega)]at h7;cases h7
    ·have h7:=aU j y g O (p-y.1*512) (by omega) (by omega);rw[show y.1*512+(p-y.1*512)=p by omega]at h7;exact absurd hp h7
   obtain⟨m,q,aE⟩: ∃m q,l 3=m++[q]:=by
    rcases List.eq_nil_or_concat (l 3)with h|⟨m,q,h⟩
    ·rw[h]at aC;exact absurd aC (A9 _)
    ·exact⟨m,q,by rw[h,List.concat_eq_append]⟩
   have aZ:Ok (m++[q]):=by rw[<-aE];exact aD
   obtain⟨_,aJ,aG⟩:=EJ.1 aZ;have bJ:=aJ.mem List.mem_cons_self;have aV: ∀p,q.1<=p->p<q.2->mem (l 3) p:=fun p a b=>by rw[aE,mem_append];exact .inr (mem_cons.2 (.inl ⟨a,b⟩))
   have bF:q.2=c.1*512+e+1:=by
    have g1:=aT (q.2-1) (aV _ (by omega) (by omega));rw[aE,mem_append]at aC;rcases aC with ⟨y,T,aQ,aW⟩|aC
    ·have:=aG y T q (by simp);omega
    ·rcases mem_cons.1 aC with h|h
     ·omega
     ·exact absurd h (A9 _)
   have bE:q.1<=c.1*512+J:=by
    obtain⟨y,T,aQ,aW⟩:=Py aD (a:=c.1*512+J) (b:=c.1*512+e+1) (by omega) fun p a b=>by
     have:=aO (p-c.1*512) (by omega) (by omega);rwa[show c.1*512+(p-c.1*512)=p by omega]at this
    rw[aE,List.mem_append]at T;rcases T with T|T
    ·have:=aG y T q (by simp);omega
    ·rw[List.mem_singleton]at T;subst T;exact aQ
   have hdiv:(q.2-1)/512*512=c.1*512:=by omega
   have hk:e-J+1=min (q.2-max q.1 ((q.2-1)/512*512)) n:=by
    rw[hdiv];rcases h6 with h|h|h
    ·by_cases g:n<=512
     ·omega
     ·omega
    ·omega
    ·by_cases g:J=0
     ·omega
     ·have: ¬mem (l 3) (c.1*512+(J-1)):=fun hm=>by
       rw[(d c aA (J-1) (by omega) (by omega)).1 hm]at h;cases h
      have h8: ¬(q.1<=c.1*512+(J-1)):=fun g=>this (aV _ g (by omega));omega
   have aY: ∀p,c.1*512+J<=p->p<=c.1*512+e->mem (l 3) p:=fun p a b=>by
    have:=aO (p-c.1*512) (by omega) (by omega);rwa[show c.1*512+(p-c.1*512)=p by omega]at this
   subst ht;refine bB a1 q m aE (c.1*512+J) (e-J+1) hk (by omega) a0 fun l' l0 l1 l2=> ?_;have a2:=DF C.KT (a:=c.1*512+J) (b:=c.1*512+J+(e-J+1)) (by omega) (by omega) (by omega);rw[<-l2]at a2;refine Sat.HQ.2 ⟨s,L,U,fun p=>if c.1*512+J<=p/\p<=c.1*512+e then true else G p,⟨C.IK,C.QB,by rw[l0];exact C.XI,by rw[l1];exact C.JA,a2.1,by rw[l0];exact C.l0,by rw[l0,l1];exact C.l1,fun p=> ?_⟩,?_⟩
   ·rw[a2.2.1,C.l2,l0];by_cases g:c.1*512+J<=p/\p<=c.1*512+e
    ·rw[if_pos g];have:=(C.l1 p).1 ((hT.idle p).1 (aY p g.1 g.2)).1;simp[this.1];omega
    ·rw[if_neg g];constructor
     ·rintro(h|h)
      ·exact h
      ·omega
     ·exact fun h=>.inl h
   ·have em:Ap (Me E U G) (L.eraseIdx i.toNat)=Ap (Me E U fun p=>if c.1*512+J<=p/\p<=c.1*512+e then true else G p) (L.eraseIdx i.toNat):=by
     refine Ap.congr fun y T=> ?_;have bG:y.1≠c.1:=by
      intro e;obtain⟨j,O⟩:=List.mem_iff_getElem?.1 T;rw[List.getElem?_eraseIdx]at O;have aS:=(List.getElem?_eq_some_iff.1 Y).1;split at O
      ·rename_i hjl;have:=List.pairwise_iff_getElem.1 C.IK j i.toNat (by omega) aS hjl;rw[(List.getElem?_eq_some_iff.1 O).2,(List.getElem?_eq_some_iff.1 Y).2]at this;omega
      ·rename_i hjl;obtain⟨h3,h4⟩:=List.getElem?_eq_some_iff.1 O;have:=List.pairwise_iff_getElem.1 C.IK i.toNat (j+1) aS h3 (by omega);rw[h4,(List.getElem?_eq_some_iff.1 Y).2]at this;omega
     unfold Me;congr 2;refine EL fun k k0 k1=> ?_;dsimp only;rw[if_neg (by omega)]
    rw[em]at aB;exact(aB.Gq Y).perm (List.Perm.trans (.swap _ _ _) (.cons _ (.swap _ _ _)))
 ·refine a7 ?_ w8 (back H8);rcases aF with h|h
  ·exact .inr h
  ·left;cases h3:l 3 with
   | nil=>rfl
   | cons y t=>
    exfalso;have T:=aD.mem (p:=y) (by rw[h3];simp);have hm:mem (l 3) y.1:=⟨y,by rw[h3];simp,Int.le_refl _,T.2.1⟩;obtain⟨c,hc,bL⟩:=aH _ hm;obtain⟨j,O⟩:=List.mem_iff_getElem?.1 hc;have:=h j c (by omega) O (y.1-c.1*512) (by omega) (by omega);rw[show c.1*512+(y.1-c.1*512)=y.1 by omega]at this;exact this hm
end
end Go.Sh
set_option linter.all false
set_option maxRecDepth 4000
set_option maxHeartbeats 1000000
namespace Go.Sh
section
variable{E:Env}{w:World}{Z:List Pr}{r:Nat}{l:Nat->Iv}
theorem mO{L:CL}(hs:KG L){m:Iv}(hm:Ok m)(C: ∀p,mem m p-> ∃c∈L,c.1=p/512){i:Nat}{c:Int×Nat}(J:L[i]? =some c)(Y:0<=c.1){B:Int}(K:0<=B)(O:B<=c.1*512)
  (v: ∀(j:Nat) c',j<i->L[j]? =some c'->(c'.1+1)*512<=B):cnt m 0 ((c.1+1)*512)=cnt m 0 B+cnt m (c.1*512) (c.1*512+512):=by
 rw[Jt (Ok.Wo hm) (a:=0) (m:=B) (b:=(c.1+1)*512) K (by omega),Jt (Ok.Wo hm) (a:=B) (m:=c.1*512) (b:=(c.1+1)*512) O (by omega)];have:cnt m B (c.1*512)=0:=(C4 hm O).2 fun p h1 h2 hp=>by
  obtain⟨y,hy,T⟩:=C p hp;obtain⟨j,d⟩:=List.mem_iff_getElem?.1 hy;rcases Nat.lt_trichotomy j i with g|g|g
  ·have:=v j y g d;omega
  ·subst g;rw[J]at d;have:=Option.some.inj d;subst this;omega
  ·have:=List.pairwise_iff_getElem.1 hs i j (List.getElem?_eq_some_iff.1 J).1 (List.getElem?_eq_some_iff.1 d).1 g;rw[(List.getElem?_eq_some_iff.1 J).2,(List.getElem?_eq_some_iff.1 d).2]at this;omega
 rw[this,show(c.1+1)*512=c.1*512+512 by omega];omega
theorem mP{L:CL}(hs:KG L){m:Iv}(hm:Ok m)(d: ∀p,mem m p-> ∃c∈L,c.1=p/512){B:Int}(j: ∀c∈L,(c.1+1)*512<=B):cnt m 0 B=DE m:=
 Ju (Ok.Wo hm) fun p hp=>by
  obtain⟨y,C,v⟩:=d p hp;have:=j y C;exact⟨NZ hm hp,by omega⟩
theorem V2{L:CL}{U G:Int->Bool}{s:AZ}(J:RU l L U G)(H:Sat (Io E r s L U G++Z) w){m:Iv}(hm:Ok m)(aL: ∀p,mem m p->mem (l 0) p)(F0:Option Addr->(Int->World->Prop)->World->Prop)
  (hF: ∀(i:Nat) c,L[i]? =some c-> ∀K,K (cnt m (c.1*512) (c.1*512+512)) w->F0 (some ⟨c.2,0,none⟩) K w){K:Int->World->Prop}(hK:K (DE m) w):
  Ay (Int×Int×Unit) (0,0,()) w fun s1 _ Y T=>
   NC (some (Addr.mk r 0 none)) fun p4=>
   ∃x5:AZ,Y.cell? p4=some (.slice x5.base x5.len x5.cap)/\
   CND (decide ((s1.2.1:Int)<((x5.len:Nat):Int))) (
    NC (some (Addr.mk r 0 none)) fun p6=>
    ∃x7:AZ,Y.cell? p6=some (.slice x7.base x7.len x7.cap)/\
    NC x7.base fun p8=>
    ((0:Int)<=s1.2.1/\(s1.2.1:Int)<(x7.len:Nat))/\
    ∃x9:(Option Addr),Y.cell? ((p8.add (Int.toNat s1.2.1*2)).add 1)=some (.pointer x9)/\
    F0 x9 (fun aH aJ=>
    T (i64 (s1.1+aH),i64 (s1.2.1+1),()) aJ
    ) Y
   ) (
    K (u64 (s1.1)) Y
   ):=by
 have a3:=Jl J.IK J.QB;have hlen:=Ia H;have aB: ∀p,mem m p-> ∃c∈L,c.1=p/512:=fun p hp=>(J.l0 p).1 (aL p hp);simp only[AI];have aE: ∀{B:Int},0<=B->0<=cnt m 0 B/\cnt m 0 B<=B:=fun h=>⟨Cg _ _ _,by have:=Ec hm h;omega⟩;refine AK (fun st w'=>w'=w/\ ∃(i:Nat) (B:Int),st.2.1=(i:Int)/\i<=L.length/\0<=B/\B<=34359738368/\st.1=cnt m 0 B/\(∀(j:Nat) C,j<i->L[j]? =some C->(C.1+1)*512<=B)/\(∀(j:Nat) C,i<=j->L[j]? =some C->B<=C.1*512)) (fun st _=>(L.length-st.2.1).toNat)
  ⟨rfl,0,0,rfl,Nat.zero_le _,by decide,by decide,?_,fun j C h=>by omega,fun j C _ h=>by have:=J.QB C (List.mem_of_getElem? h);omega⟩ ?_
 ·exact((C4 hm (Int.le_refl _)).2 fun k h1 h2=>by omega).symm
 rintro⟨n,i',v⟩ _ Y ⟨rfl,i,B,hi,aS,aD,a2,hn,O,aC⟩;dsimp only at hi hn⊢;subst hi;subst hn;have aR:=aE aD;refine⟨s,Dh H,AD (fun aW=>⟨s,Dh H,?_⟩) fun aP=> ?_⟩
 ·have y:=List.getElem?_eq_getElem (show i<L.length by omega);obtain⟨a,ha,aZ,c1,c2⟩:=Hl H y;generalize L[i]=c at y c1 c2;have aI:=J.QB c (List.mem_of_getElem? y);rw[ha];simp only[AI,Int.toNat_natCast];refine⟨⟨by omega,by omega⟩,_,c2,hF i c y _ ?_⟩;have aK:=mO J.IK hm aB y aI.1 aD (aC i c (Nat.le_refl _) y) O;have aY:=aE (B:=(c.1+1)*512) (by omega);rw[AH (n:=(i:Int)+1),<-aK,AH];refine⟨⟨by trivial,i+1,(c.1+1)*512,by omega,by omega,by omega,by omega,by trivial,fun j C hj d=> ?_,fun j C hj d=> ?_⟩,by omega⟩
  ·by_cases e:j=i
   ·subst e;rw[y]at d;have:=Option.some.inj d;subst this;omega
   ·have:=List.pairwise_iff_getElem.1 J.IK j i (List.getElem?_eq_some_iff.1 d).1 (List.getElem?_eq_some_iff.1 y).1 (by omega);rw[(List.getElem?_eq_some_iff.1 d).2,(List.getElem?_eq_some_iff.1 y).2]at this;omega
  ·have:=List.pairwise_iff_getElem.1 J.IK i j (List.getElem?_eq_some_iff.1 y).1 (List.getElem?_eq_some_iff.1 d).1 (by omega);rw[(List.getElem?_eq_some_iff.1 d).2,(List.getElem?_eq_some_iff.1 y).2]at this;omega
 ·rw[AM,mP J.IK hm aB fun c hc=>by
   obtain⟨j,hj⟩:=List.mem_iff_getElem?.1 hc;have:=(List.getElem?_eq_some_iff.1 hj).1;exact O j c (by omega) hj]
  exact hK
theorem Ra(H:Sat (FM E r l::Z) w){K:Int->World->Prop}(v:K (DE (l 2)) w):F.BO E (some ⟨r,0,none⟩) K w:=by
 obtain⟨s,L,U,G,d,H⟩:=Sat.HQ.1 H;unfold F.BO T0.BO;refine V2 d H d.KT (fun p hp=>((d.l2 p).1 hp).1) (F.BZ E) (fun i c y K v=> ?_) v;unfold F.BZ T0.BZ;simp only[AI];rw[add_eq,Nat.zero_add];refine Vz (Jm H y) (T8 c) ?_;have j:=List.mem_of_getElem? y;rw[eE d.KT (fr:=c.1*512) fun k h0 h1=>by
  rw[d.l2];have:mem (l 0) (c.1*512+k):=(d.l0 _).2 ⟨c,j,by omega⟩;simp[this]]
 exact v
theorem V3(H:Sat (FM E r l::Z) w){K:Int->Bool->World->Prop}(d: ∀w',Sat (FM E r l::Z) w'->K ((findL (l 1) 1).getD 0) (findL (l 1) 1).isSome w'):F.Bn E (some ⟨r,0,none⟩) K w:=by
 unfold F.Bn T0.Bn;exact RZ H (by decide) (by decide) fun w' h=>d w' h
end
end Go.Sh
set_option linter.all false
set_option maxRecDepth 4000
set_option maxHeartbeats 2000000
namespace Go.Sh
def JV(E:Env)(r:Nat)(V:TV):Pr:=Ex fun l:Nat->Iv=>Jv (LV l V/\ ∀i,i<4->Ok (l i)) (FM E r l)
section
variable{E:Env}{w:World}{Z:List Pr}{r t:Nat}{V:TV}{l:Nat->Iv}
theorem Sat.Wa:Sat (JV E r V::Z) w↔ ∃l,(LV l V/\ ∀i,i<4->Ok (l i))/\Sat (FM E r l::Z) w:=by
 unfold JV;rw[Sat.ex];constructor
 ·rintro⟨l,h⟩;exact⟨l,Sat.where.1 h⟩
 ·rintro⟨l,h⟩;exact⟨l,Sat.where.2 h⟩
theorem LV.congr{l l':Nat->Iv}(h:LV l V)(h0:l' 0=l 0)(h1:l' 1=l 1)(d:l' 2=l 2):LV l' V:=⟨by rw[h0];exact h.i,by rw[h1];exact h.f,by rw[d];exact h.r⟩
theorem MC(h:LV l V)(Bi: ∀i,i<3->Ok (l i))(H: ∀l',l' 0=l 0->l' 1=l 1->l' 2=l 2->Sat (FM E r l'::Z) w):Sat (JV E r V::Z) w:=by
 refine Sat.Wa.2 ⟨fun i=>if i<3 then l i else [],⟨h.congr rfl rfl rfl,fun i hi=> ?_⟩,H _ rfl rfl rfl⟩;by_cases g:i<3
 ·show Ok (if i<3 then l i else []);rw[if_pos g];exact Bi i g
 ·show Ok (if i<3 then l i else []);rw[if_neg g];trivial
theorem OE(H:Sat (JV E r V::Z) w){p:Int}(hp:0<=p)(j:p<18446744073709551616){K:Bool->Bool->Bool->World->Prop}(T: ∀w',Sat (JV E r V::Z) w'->K (V.GH p) (V.fr p) (V.rl p) w'):
  F.BH E (some ⟨r,0,none⟩) p K w:=by
 obtain⟨l,d,H⟩:=Sat.Wa.1 H;obtain⟨s,L,U,G,v,H⟩:=Sat.HQ.1 H;refine PW v H hp j fun w' r0 r1 O h0 h1 J y=> ?_;have e0:r0=V.GH p:=Bool.eq_iff_iff.2 (h0.trans (d.1.i p));have Y:r1=V.fr p:=Bool.eq_iff_iff.2 (h1.trans (d.1.f p));have C:O=V.rl p:=Bool.eq_iff_iff.2 (J.trans (d.1.r p));rw[e0,Y,C];exact T w' (Sat.Wa.2 ⟨l,d,Sat.HQ.2 ⟨s,L,U,G,v,y⟩⟩)
theorem Po(H:Sat (JV E r V::Z) w){K:Int->World->Prop}(j:K (NT V.rl) w):F.BO E (some ⟨r,0,none⟩) K w:=by
 obtain⟨l,d,H⟩:=Sat.Wa.1 H;refine Ra H ?_;rw[<-VE (d.2 2 (by decide)) d.1.r];exact j
theorem UA(H:Sat (JV E r V::Z) w)(v: ∀p,V.fr p=true->0<=p/\p<34359738368){K:Int->Bool->World->Prop}(y:(∀p,V.fr p=false)-> ∀w',Sat (JV E r V::Z) w'->K 0 false w')
  (C: ∀p,Fz V 1 p-> ∀w',Sat (JV E r V::Z) w'->K p true w'):F.Bn E (some ⟨r,0,none⟩) K w:=by
 obtain⟨l,d,H⟩:=Sat.Wa.1 H;refine V3 H fun w' T=> ?_;have O:=Sat.Wa.2 ⟨l,d,T⟩;cases hf:findL (l 1) 1 with
 | none=>
  refine y (fun p=> ?_) w' O;cases g:V.fr p with
  | false=>rfl
  | true=>exact absurd ((HJ d.1).2 fun m a c=>by rw[show m=p by omega];exact g) (K2 (d.2 1 (by decide)) (by decide) hf p)
 | some p=>
  obtain⟨h1,Y⟩:=Ji (d.2 1 (by decide)) (by decide) hf;have j:=(HJ d.1).1 h1;have:=v p (j p (Int.le_refl _) (by omega));exact C p ⟨this.1,by omega,j,fun p' J=>Y p' ((HJ d.1).2 J)⟩ w' O
theorem UB(H:Sat (JV E r V::Z) w){p:Int}(hp:0<=p)(C:p<34359738368)(hi:V.GH p=true)(hf:V.fr p=true){K:Int->Int->World->Prop}(O: ∀x y w',Sat (JV E r (V.take p 1)::Z) w'->K x y w'):
  F.Bg E (some ⟨r,0,none⟩) p 1 K w:=by
 obtain⟨l,⟨d,Bi⟩,H⟩:=Sat.Wa.1 H;have J:GL V p 1:=⟨by decide,by omega,fun m a b=>by rw[show m=p by omega];exact hi⟩;have h0:At l p 1 true 32=0:=(Qu d Bi hp (by decide) true (e:=32) (by decide)).2.2.1 J rfl fun m a b=>by rw[show m=p by omega];exact hf
 refine RX H hp (by omega) (by decide) (by decide) (fun h=>absurd h0 h) fun _ w' j=>O _ _ w' (MC (l:=Sh.Mo l p 1) (d.Mo (by decide)) (fun i hi=> ?_) fun l' e0 Y v=>j l' e0 Y v);have T:i=0∨i=1∨i=2:=by omega
 rcases T with rfl|rfl|rfl
 ·exact Bi 0 (by decide)
 ·exact Fc (Bi 1 (by decide)) (by omega)
 ·exact Fc (Bi 2 (by decide)) (by omega)
theorem OF(H:Sat (JV E r V::Z) w)(j: ∀p,V.rl p=true->V.fr p=true){p:Int}{g:Bool}(hp:0<=p)(aD:p<34359738368)(hi:V.GH p=true)(hf:V.fr p=false){K:Int->World->Prop}
  (hK: ∀w',Sat (JV E r (if g then V.back p 1 else V.JL p 1)::Z) w'->K 0 w'):
  F.BD E (some ⟨r,0,none⟩) p 1 g K w:=by
 obtain⟨l,⟨d,Bi⟩,H⟩:=Sat.Wa.1 H;have hr:GL V p 1:=⟨by decide,by omega,fun m a b=>by rw[show m=p by omega];exact hi⟩;have h0:At l p 1 false 31=0:=(Qu d Bi hp (by decide) false (e:=31) (by decide)).2.2.2.2 hr rfl fun m a b=>by rw[show m=p by omega];exact hf
 have Y:=d.LQ Bi hp (n:=1) (by decide) (by omega);refine RY H (fun q hq=>(d.f q).2 (j q ((d.r q).1 hq))) hp (by omega) (by decide) (by decide) (fun h=>absurd h0 h) fun _ w' O=>hK w' ?_;have T:=(DF (Bi 1 (by decide)) (a:=p) (b:=p+1) (by omega) hp (by omega)).1;have o2:=(DF (Bi 2 (by decide)) (a:=p) (b:=p+1) (by omega) hp (by omega)).1;cases g
 ·refine MC (l:=Sh.LQ l 3 p 1) Y.1 (fun i hi=> ?_) fun l' C y v=>O l' C y v;have J:i=0∨i=1∨i=2:=by omega
  rcases J with rfl|rfl|rfl
  ·exact Bi 0 (by decide)
  ·exact T
  ·exact Bi 2 (by decide)
 ·refine MC (l:=Sh.LQ l 2 p 1) Y.2 (fun i hi=> ?_) fun l' C y v=>O l' C y v;have J:i=0∨i=1∨i=2:=by omega
  rcases J with rfl|rfl|rfl
  ·exact Bi 0 (by decide)
  ·exact T
  ·exact o2
end
def GR(B:Int)(u g:Int->Bool):List Value:=.int .u64 B::(flags 64 u++flags 64 g)
structure Xq(S:CS)(B:Int)(u g:Int->Bool):Prop where
 b0:0<=B
 b1:B+64<=34359738368
 bs: ¬S.empty->B=S.base
 hs: ∀i:Nat,i<64->u i=S.has i
 rl: ∀i:Nat,i<64->S.rel i=(S.has i&&g i)
 hz: ∀i:Nat,64<=i->S.has i=false
section
variable{E:Env}{w:World}{Z:List Pr}{r t q c b ty:Nat}{V:TV}{S:CS}{B:Int}{u g:Int->Bool}
theorem qget1{i:Int}(h0:0<=i)(h1:i<64):(GR B u g)[1+i.toNat]? =some (.bool (u i)):=by
 show(Value.int .u64 B::(flags 64 u++flags 64 g))[1+i.toNat]? =_;rw[Nat.add_comm,List.getElem?_cons_succ,List.getElem?_append_left (by rw[BA];omega)];have:=Je (n:=64) (u:=u) h0 (by omega);rwa[Nat.zero_add]at this
theorem qget2{i:Int}(h0:0<=i)(h1:i<64):(GR B u g)[65+i.toNat]? =some (.bool (g i)):=by
 show(Value.int .u64 B::(flags 64 u++flags 64 g))[65+i.toNat]? =_;rw[show 65+i.toNat=(64+i.toNat)+1 by omega,List.getElem?_cons_succ,List.getElem?_append_right (by rw[BA];omega),BA,show 64+i.toNat-64=i.toNat by omega];have:=Je (n:=64) (u:=g) h0 (by omega);rwa[Nat.zero_add]at this
theorem qset1{i:Int}(h0:0<=i)(h1:i<64)(x:Bool):(GR B u g).set (1+i.toNat) (.bool x)=GR B (fun j=>if j=i then x else u j) g:=by
 unfold GR;rw[Nat.add_comm,List.set_cons_succ,List.set_append_left _ _ (by rw[BA];omega)];have:=KZ (n:=64) (u:=u) h0 x;rw[Nat.zero_add]at this;rw[this]
theorem qset2{i:Int}(h0:0<=i)(h1:i<64)(x:Bool):(GR B u g).set (65+i.toNat) (.bool x)=GR B u (fun j=>if j=i then x else g j):=by
 unfold GR;rw[show 65+i.toNat=(64+i.toNat)+1 by omega,List.set_cons_succ,List.set_append_right _ _ (by rw[BA];omega),BA,show 64+i.toNat-64=i.toNat by omega];have:=KZ (n:=64) (u:=g) h0 x;rw[Nat.zero_add]at this;rw[this]
theorem mQ:(GR B u g).length=129:=by simp[GR,BA]
theorem CS.Gl(S:CS)(p:Int):S.own p=true↔S.base<=p/\p<S.base+64/\S.has (p-S.base).toNat=true:=by
 unfold CS.own;rw[Bool.and_eq_true,AR];exact⟨fun h=>⟨h.1.1,h.1.2,h.2⟩,fun h=>⟨⟨h.1,h.2.1⟩,h.2.2⟩⟩
theorem V4(v:Nat->Bool)(a m:Nat)(d:a<=m): ∀N,m<N->cN (fun k=>v k&&(decide (a<=k)&&decide (k<m+1))) N=cN (fun k=>v k&&(decide (a<=k)&&decide (k<m))) N+(if v m then 1 else 0)
 | 0,h=>by omega
 | N+1,h=>by
  simp only[cN];rcases Nat.lt_or_eq_of_le (Nat.le_of_lt_succ h)with q|q
  ·rw[V4 v a m d N q];have j:decide (N<m+1)=false:=decide_eq_false (by omega);have y:decide (N<m)=false:=decide_eq_false (by omega);rw[j,y];simp
  ·subst q;have e:cN (fun k=>v k&&(decide (a<=k)&&decide (k<m+1))) m=cN (fun k=>v k&&(decide (a<=k)&&decide (k<m))) m:=eH fun i hi=>by
    have j:decide (i<m+1)=true:=decide_eq_true (by omega);have y:decide (i<m)=true:=decide_eq_true (by omega);rw[j,y]
   rw[e];have j:decide (m<m+1)=true:=decide_eq_true (by omega);have y:decide (m<m)=false:=decide_eq_false (by omega);have C:decide (a<=m)=true:=decide_eq_true d;rw[j,y,C];cases v m<;>simp
theorem mR(v:Nat->Bool)(N:Nat)(h: ∀i,i<N->v i=false):cN v N=0:=by
 induction N with
 | zero=>rfl
 | succ n ih=>simp only[cN];rw[ih fun i hi=>h i (by omega),h n (by omega)];simp
end
end Go.Sh
set_option linter.all false
set_option maxRecDepth 4000
set_option maxHeartbeats 2000000
namespace Go.Sh
section
variable{E:Env}{w:World}{Z:List Pr}{r t q c b ty:Nat}{V:TV}{S:CS}{B:Int}{u g:Int->Bool}
end
end Go.Sh
set_option linter.all false
set_option maxRecDepth 4000
set_option maxHeartbeats 2000000
namespace Go.Sh
def qW(A D:List Value)(B:Int)(u g:Int->Bool):List Value:=A++(GR B u g++D)
def TB(q ty:Nat)(A D:List Value)(S:CS):Pr:=Ex fun x:Int×(Int->Bool)×(Int->Bool)=>Jv (Xq S x.1 x.2.1 x.2.2) (Cells q ty (qW A D x.1 x.2.1 x.2.2))
section
variable{E:Env}{w:World}{Z:List Pr}{r t q c b ty:Nat}{V:TV}{S:CS}{B:Int}{u g:Int->Bool}{A D:List Value}
theorem Sat.iA:Sat (TB q ty A D S::Z) w↔ ∃B u g,Xq S B u g/\Sat (Cells q ty (qW A D B u g)::Z) w:=by
 unfold TB;rw[Sat.ex];constructor
 ·rintro⟨⟨B,u,g⟩,h⟩;exact⟨B,u,g,Sat.where.1 h⟩
 ·rintro⟨B,u,g,h⟩;exact⟨⟨B,u,g⟩,Sat.where.2 h⟩
theorem Xr{i:Nat}(hi:i<129):(qW A D B u g)[A.length+i]? =(GR B u g)[i]? :=by
 unfold qW;rw[List.getElem?_append_right (by omega),show A.length+i-A.length=i by omega,List.getElem?_append_left (by rw[mQ];omega)]
theorem Xs{i:Nat}(hi:i<129)(x:Value){B':Int}{u' g':Int->Bool}(h:(GR B u g).set i x=GR B' u' g'):(qW A D B u g).set (A.length+i) x=qW A D B' u' g':=by
 unfold qW;rw[List.set_append_right _ _ (by omega),show A.length+i-A.length=i by omega,List.set_append_left _ _ (by rw[mQ];omega),h]
theorem fP:(qW A D B u g).length=A.length+129+D.length:=by unfold qW;rw[List.length_append,List.length_append,mQ];omega
theorem O0(H:Sat (Cells q ty (qW A D B u g)::Z) w):w.cell? (Addr.mk q A.length none)=some (.int .u64 B):=H.A2 (o:=A.length) (by
 have:=Xr (A:=A) (D:=D) (B:=B) (u:=u) (g:=g) (i:=0) (by decide);rw[Nat.add_zero]at this;rw[this];rfl)
theorem V5(H:Sat (Cells q ty (qW A D B u g)::Z) w){i:Int}(h0:0<=i)(h1:i<64):w.cell? (((Addr.mk q A.length none).add 1).add (i.toNat*1))=some (.bool (u i)):=by
 rw[add_add,Nat.mul_one];exact H.cell (o:=A.length) (m:=1+i.toNat) (by rw[Xr (by omega)];exact qget1 h0 h1)
theorem Xt(H:Sat (Cells q ty (qW A D B u g)::Z) w){i:Int}(h0:0<=i)(h1:i<64):w.cell? (((Addr.mk q A.length none).add 65).add (i.toNat*1))=some (.bool (g i)):=by
 rw[add_add,Nat.mul_one];exact H.cell (o:=A.length) (m:=65+i.toNat) (by rw[Xr (by omega)];exact qget2 h0 h1)
theorem qstBW(H:Sat (Cells q ty (qW A D B u g)::Z) w){x:Int}{K:World->Prop}(j: ∀w',Sat (Cells q ty (qW A D x u g)::Z) w'->K w'):stCells (Addr.mk q A.length none) 0 [.int .u64 x] w K:=by
 refine El H (o:=A.length) rfl (by rw[fP];omega) fun w' d=>j w' ?_;have:=Xs (A:=A) (D:=D) (B:=B) (u:=u) (g:=g) (i:=0) (by decide) (.int .u64 x) (B':=x) (u':=u) (g':=g) rfl;rw[Nat.add_zero]at this;rw[this]at d;exact d
theorem fQ(H:Sat (Cells q ty (qW A D B u g)::Z) w){i:Int}(h0:0<=i)(h1:i<64){x:Bool}{K:World->Prop}(v: ∀w',Sat (Cells q ty (qW A D B (fun j=>if j=i then x else u j) g)::Z) w'->K w'):
  stCells (((Addr.mk q A.length none).add 1).add (i.toNat*1)) 0 [.bool x] w K:=by
 rw[add_add,Nat.mul_one];refine Ak H (o:=A.length) (m:=1+i.toNat) rfl (by rw[fP];omega) fun w' d=>v w' ?_;rw[Xs (by omega) _ (qset1 h0 h1 x)]at d;exact d
theorem qst2W(H:Sat (Cells q ty (qW A D B u g)::Z) w){i:Int}(h0:0<=i)(h1:i<64){x:Bool}{K:World->Prop}(v: ∀w',Sat (Cells q ty (qW A D B u (fun j=>if j=i then x else g j))::Z) w'->K w'):
  stCells (((Addr.mk q A.length none).add 65).add (i.toNat*1)) 0 [.bool x] w K:=by
 rw[add_add,Nat.mul_one];refine Ak H (o:=A.length) (m:=65+i.toNat) rfl (by rw[fP];omega) fun w' d=>v w' ?_;rw[Xs (by omega) _ (qset2 h0 h1 x)]at d;exact d
theorem OG(H:Sat (TB q ty A D S::Z) w){K:Bool->World->Prop}(C:S.empty->K true w)(y: ¬S.empty->K false w):F.C1 E (some ⟨q,A.length,none⟩) K w:=by
 obtain⟨B,u,g,j,H⟩:=Sat.iA.1 H;unfold F.C1;simp only[AI];refine AK (fun st w'=> ∃i:Nat,st.1=i/\i<=64/\(∀k:Nat,k<i->S.has k=false)/\w'=w) (fun st _=>(64-st.1).toNat) ⟨0,rfl,by decide,fun k O=>by omega,rfl⟩ ?_;rintro⟨i',v⟩ _ w2 ⟨i,hi,J,d,rfl⟩;dsimp only at hi⊢;subst hi;refine AD (fun Y=>⟨⟨by omega,by omega⟩,_,V5 H (by omega) (by omega),AQ (fun e=>y fun h=> ?_) fun e=> ?_⟩) fun T=>C fun k=> ?_
 ·rw[j.hs i (by omega)]at e;rw[h i]at e;cases e
 ·rw[AH (n:=(i:Int)+1)];refine⟨⟨i+1,by omega,by omega,fun k O=> ?_,by trivial⟩,by omega⟩;rcases Nat.lt_or_eq_of_le (Nat.le_of_lt_succ O)with g|g
  ·exact d k g
  ·subst g;rw[<-j.hs k (by omega)];exact e
 ·rcases Nat.lt_or_ge k 64 with g|g
  ·exact d k (by omega)
  ·exact j.hz k g
theorem V6(H:Sat (TB q ty A D S::Z) w){p:Int}(hp:0<=p)(O:p<18446744073709551616){K:Bool->World->Prop}(T: ∀w',Sat (TB q ty A D S::Z) w'->K (S.own p) w'):F.EA E (some ⟨q,A.length,none⟩) p K w:=by
 have d:=T _ H.drew;obtain⟨B,u,g,y,H⟩:=Sat.iA.1 H;unfold F.EA;have J:=H.drew;have Ba:=O0 J;have Y:=y.b0;simp only[AI];have j:S.own p=true↔B<=p/\p<B+64/\u (p-B)=true:=by
  by_cases he:S.empty
  ·constructor
   ·intro h;have:=((CS.Gl S p).1 h).2.2;rw[he]at this;cases this
   ·rintro⟨h1,v,C⟩;have:=y.hs (p-B).toNat (by omega);rw[show(((p-B).toNat:Nat):Int)=p-B by omega,C,he]at this;cases this
  ·rw[CS.Gl,<-y.bs he];constructor
   ·rintro⟨h1,v,C⟩;refine⟨h1,v,?_⟩;have:=y.hs (p-B).toNat (by omega);rw[show(((p-B).toNat:Nat):Int)=p-B by omega]at this;rw[this];exact C
   ·rintro⟨h1,v,C⟩;refine⟨h1,v,?_⟩;have:=y.hs (p-B).toNat (by omega);rw[show(((p-B).toNat:Nat):Int)=p-B by omega]at this;rw[<-this];exact C
 have hf: ¬(B<=p/\p<B+64/\u (p-B)=true)->S.own p=false:=fun h=>by
  cases e:S.own p with
  | false=>rfl
  | true=>exact absurd (j.1 e) h
 refine⟨B,Ba,AD (fun h1=>⟨B,Ba,?_⟩) fun h1=> ?_⟩
 ·rw[AM (n:=p-B)];refine AD (fun v=>⟨B,Ba,?_⟩) fun v=> ?_
  ·rw[AM (n:=p-B)];refine⟨⟨by omega,by omega⟩,_,V5 J (by omega) v,?_⟩;have:u (p-B)=S.own p:=Bool.eq_iff_iff.2 (by rw[j];exact⟨fun h=>⟨by omega,by omega,h⟩,fun h=>h.2.2⟩);rw[this];exact d
  ·rw[hf fun h=>by omega]at d;exact d
 ·rw[hf fun h=>by omega]at d;exact d
theorem UC(H:Sat (TB q ty A D S::Z) w){n:Int}(bF: -9223372036854775808<=n)(bG:n<9223372036854775808){K:Int->Int->Int->World->Prop}
  (aF:n<1∨64<n->K 0 0 1 w)(aQ:1<=n->n<=64->(∀i,¬IU S.has i n.toNat)->K 0 0 30 w)
  (aY:1<=n->n<=64-> ∀i,IU S.has i n.toNat->(∀j,IU S.has j n.toNat->i<=j)->i+n.toNat<=64-> ∀w',Sat (TB q ty A D (S.alloc i n.toNat)::Z) w'->
   K (S.base+i) (cN (fun k=>S.rel k&&(decide (i<=k)&&decide (k<i+n.toNat))) 64) 0 w'):F.Dv E (some ⟨q,A.length,none⟩) n K w:=by
 obtain⟨B,u,g,J,H⟩:=Sat.iA.1 H;unfold F.Dv;refine An (AD (fun h j=>AV rfl (aF (.inl h))) fun g1 j=>AD (fun h=>aF (.inr h)) fun g2=> ?_);simp only[AI];generalize hN:n.toNat=N at *
 have bC:n=(N:Int):=by omega
 refine AK (fun st w'=> ∃i run:Nat,st.2.1=i/\st.1=run/\i<=64/\run<=i/\run<N/\(∀k,i-run<=k->k<i->S.has k=true)/\(∀j,IU S.has j N->i<j+N)/\(run=i∨S.has (i-run-1)=false)/\w'=w) (fun st _=>(64-st.2.1).toNat)
  ⟨0,0,rfl,rfl,by decide,by decide,by omega,fun k _ h=>by omega,fun j _=>by omega,.inl rfl,rfl⟩ ?_
 rintro⟨r',i',v⟩ _ w5 ⟨i,run,hi,hr,a1,bE,bD,aM,O,aN,rfl⟩;dsimp only at hi hr⊢;subst hi;subst hr;refine AD (fun bA=> ?_) fun a8=> ?_
 ·rw[AH (n:=(run:Int)+1),AH (n:=(i:Int)+1)];have aC:=J.hs i (by omega);refine An ⟨⟨by omega,by omega⟩,_,V5 H (by omega) (by omega),AQ (fun e j=> ?_) fun e j=> ?_⟩
  ·have e:S.has i=false:=by rw[aC]at e;simpa using e
   refine AV (by simp;omega) ⟨⟨i+1,0,by omega,rfl,by omega,by omega,by omega,fun k h1 Y=>by omega,fun j d=> ?_,.inr (by simpa using e),by trivial⟩,by omega⟩;have:=O j d;rcases Nat.lt_or_ge (i+1) (j+N)with q|q
   ·exact q
   ·have:=d (i-j) (by omega);rw[show j+(i-j)=i by omega,e]at this;cases this
  ·have e:S.has i=true:=by rw[aC]at e;simpa using e
   have y: ∀k,i-run<=k->k<i+1->S.has k=true:=fun k h1 Y=>by
    rcases Nat.lt_or_eq_of_le (Nat.le_of_lt_succ Y)with q|q
    ·exact aM k h1 q
    ·subst q;exact e
   refine AD (fun a0=>⟨⟨i+1,run+1,by omega,by omega,by omega,by omega,by omega,fun k h1 Y=>y k (by omega) Y,fun j d=> ?_,?_,by trivial⟩,by omega⟩) fun a2=>AU fun aR C=> ?_
   ·have:=O j d;rcases Nat.lt_or_ge (i+1) (j+N)with q|q
    ·exact q
    ·rcases aN with h|h
     ·omega
     ·have:=d (i-run-1-j) (by omega);rw[show j+(i-run-1-j)=i-run-1 by omega,h]at this;cases this
   ·rcases aN with h|h
    ·exact .inl (by omega)
    ·exact .inr (by rw[show i+1-(run+1)-1=i-run-1 by omega];exact h)
   ·have a4:run+1=N:=by omega
    have C:aR=((i+1-N:Nat):Int):=by
     rw[AH (n:=(i:Int)-n),AH]at C;omega
    generalize ha:i+1-N=a at C;have aK:IU S.has a N:=fun k hk=>y _ (by omega) (by omega);subst C;have aD: ¬S.empty:=fun h=>by rw[h i]at e;cases e
    refine AK (fun st w'=> ∃k:Nat,st.2.1=k/\a<=k/\k<=i+1/\st.1=cN (fun j=>S.rel j&&(decide (a<=j)&&decide (j<k))) 64/\Sat (Cells q ty (qW A D B (fun j=>if(a:Int)<=j/\j<k then false else u j) g)::Z) w') (fun st _=>((i:Int)+1-st.2.1).toNat)
     ⟨a,rfl,Nat.le_refl _,by omega,?_,?_⟩ ?_
    ·show(0:Int)=_;rw[mR _ _ fun j d=> ?_];rfl;by_cases q:a<=j
     ·simp[q]
     ·simp[q]
    ·have:(fun j:Int=>if(a:Int)<=j/\j<(a:Int)then false else u j)=u:=by funext j;rw[if_neg (by omega)]
     rw[this];exact H
    rintro⟨cn,k',v⟩ _ aJ ⟨k,hk,aP,a7,aE,T⟩;dsimp only at hk aE⊢;subst hk;refine AD (fun hle=> ?_) fun a6=> ?_
    ·have aW:=y k (by omega) (by omega);have aB:=J.rl k (by omega);rw[aW,Bool.true_and]at aB;have aI:=V4 S.rel a k aP 64 (by omega);have bB:=PE (fun j=>S.rel j&&(decide (a<=j)&&decide (j<k))) 64;rw[AH (n:=cn+1),AH (n:=(k:Int)+1)];have fin: ∀aA:Int,aA=cN (fun j=>S.rel j&&(decide (a<=j)&&decide (j<k+1))) 64->
       ((0:Int)<=(k:Int)/\(k:Int)<(64:Nat))/\stCells (((Addr.mk q A.length none).add 1).add (Int.toNat (k:Int)*1)) 0 [.bool false] aJ fun aH=>
        (∃m:Nat,(k:Int)+1=m/\a<=m/\m<=i+1/\aA=cN (fun j=>S.rel j&&(decide (a<=j)&&decide (j<m))) 64/\Sat (Cells q ty (qW A D B (fun j=>if(a:Int)<=j/\j<m then false else u j) g)::Z) aH)/\((i:Int)+1-((k:Int)+1)).toNat<((i:Int)+1-(k:Int)).toNat:=fun aA aL=>by
      refine⟨⟨by omega,by omega⟩,fQ T (by omega) (by omega) fun aH aU=>⟨⟨k+1,by omega,by omega,by omega,aL,?_⟩,by omega⟩⟩;have:(fun j:Int=>if(a:Int)<=j/\j<((k+1:Nat):Int)then false else u j)=fun j=>if j=(k:Int)then false else if(a:Int)<=j/\j<(k:Int)then false else u j:=by
       funext j;by_cases q:j=(k:Int)
       ·rw[if_pos (by omega),if_pos q]
       ·rw[if_neg q];by_cases q2:(a:Int)<=j/\j<(k:Int)
        ·rw[if_pos q2,if_pos (by omega)]
        ·rw[if_neg q2,if_neg (by omega)]
      rw[this];exact aU
     refine An ⟨⟨by omega,by omega⟩,_,Xt T (by omega) (by omega),AQ (fun e1 j=>fin _ ?_) fun e1 j=>fin _ ?_⟩
     ·rw[aI,aB,e1,if_pos rfl];omega
     ·rw[aI,aB,e1,if_neg (by decide)];omega
    ·have aG:k=i+1:=by omega
     have Ba:=O0 T;refine⟨B,Ba,AU fun t25 ht=> ?_⟩;have bH:=J.b0;have a9:=J.b1;rw[AH (n:=(i:Int)-n),AH (n:=(i:Int)-n+1),AM (n:=(i:Int)-n+1),AM]at ht;have aV:a+N=i+1:=by omega
     have:=aY (by omega) (by omega) a aK (fun j d=>by have:=O j d;omega) (by omega) aJ (Sat.iA.2 ⟨B,_,g,⟨J.b0,J.b1,fun _=>J.bs aD,fun j d=> ?_,fun j d=> ?_,fun j d=> ?_⟩,T⟩)
     ·rw[<-J.bs aD,aV,<-aG]at this;rw[ht,aE,show B+((i:Int)-n+1)=B+(a:Int) by omega];exact this
     ·show(if(a:Int)<=(j:Int)/\(j:Int)<(k:Int)then false else u j)=(S.has j&& !(decide (a<=j)&&decide (j<a+N)));rw[J.hs j d];by_cases q:a<=j/\j<k
      ·have q1:a<=j:=q.1;have q2:j<a+N:=by omega
       rw[if_pos (by omega)];simp[q1,q2]
      ·rw[if_neg (by omega)];have:(decide (a<=j)&&decide (j<a+N))=false:=by
        by_cases q1:a<=j
        ·have: ¬j<a+N:=by omega
         simp[this]
        ·simp[q1]
       rw[this];simp
     ·show(S.rel j&& !(decide (a<=j)&&decide (j<a+N)))=((S.has j&& !(decide (a<=j)&&decide (j<a+N)))&&g j);rw[J.rl j d];cases S.has j<;>cases g j<;>simp
     ·show(S.has j&& !(decide (a<=j)&&decide (j<a+N)))=false;rw[J.hz j d];rfl
 ·refine aQ (by omega) (by omega) fun j d=> ?_;have h1:=O j d;have Y:=d (N-1) (by omega);rw[J.hz _ (by omega)]at Y;cases Y
theorem V7(H:Sat (TB q ty A D S::JV E r V::Z) w)(aA: ∀p,V.fr p=true->V.GH p=true)(aE: ∀p,V.rl p=true->V.fr p=true)(aB: ∀p,V.GH p=true->0<=p/\p<34359738368){K:Int->World->Prop}
  (aL: ¬S.empty-> ∀w',Sat (TB q ty A D S::JV E r V::Z) w'->K 33 w')(aI:S.empty->(∀p,V.fr p=false)-> ∀w',Sat (TB q ty A D S::JV E r V::Z) w'->K 30 w')
  (aS:S.empty-> ∀p,Fz V 1 p-> ∀w',Sat (TB q ty A D ⟨p/64*64,fun i=>decide (i<64)&&V.fr (p/64*64+i),fun i=>decide (i<64)&&V.rl (p/64*64+i)⟩::JV E r (V.take (p/64*64) 64)::Z) w'->K 0 w'):
  F.B3 E (some ⟨q,A.length,none⟩) (some ⟨r,0,none⟩) K w:=by
 unfold F.B3 T0.B3;have sw: ∀{P1 P2:Pr} {w'},Sat (P1::P2::Z) w'->Sat (P2::P1::Z) w':=fun h=>h.perm (.swap _ _ _);refine OG H (fun he=>Ac rfl ?_) fun he=>AV rfl (aL he w H);refine UA (sw H) (fun p hp=>aB p (aA p hp)) (fun aK w' H'=>AV rfl (aI he aK w' (sw H'))) fun p hp w5 H5=>Ac rfl ⟨by decide,?_⟩;have aO:=hp.1;have a4:=hp.2.1;obtain⟨B0,u,g,hI,H6⟩:=Sat.iA.1 (sw H5);rw[Int.tmod_eq_emod_of_nonneg aO,AM (n:=p-p %64),show p-p %64=p/64*64 by omega];simp only[AI];have C:=aS he p hp;generalize hB:p/64*64=B at C⊢;have aC:0<=B/\B+64<=34359738368/\B %64=0:=by omega
 refine qstBW H6 fun w7 H7=> ?_;have H7:Sat (Cells q ty (qW A D B u g)::JV E r V::Z) w7:=H7;have y:V.take B ((0:Nat):Int)=V:=by
  have e: ∀q,inr B ((0:Nat):Int) q=false:=fun q=>Fg.2 (by omega);unfold TV.take;simp only[e];simp
 have Y: ∀i:Nat,(V.take B i).take (B+i) 1=V.take B ((i+1:Nat):Int):=fun i=>by
  have e: ∀x,(!inr B ((i+1:Nat):Int) x)=(!inr B i x&& !inr (B+i) 1 x):=fun x=>by
   rw[<-Bool.not_or];congr 1;apply Bool.eq_iff_iff.2;rw[Bool.or_eq_true,AR,AR,AR];omega
  unfold TV.take;simp only[e,Bool.and_assoc]
 refine AK (fun st w'=> ∃i:Nat,st.1=(i:Int)/\i<=64/\Sat (Cells q ty (qW A D B (fun j=>if j<(i:Int)then V.fr (B+j)else u j) (fun j=>if j<(i:Int)then V.rl (B+j)else g j))::JV E r (V.take B i)::Z) w') (fun st _=>(64-st.1).toNat)
  ⟨0,rfl,by decide,?_⟩ ?_
 ·rw[y]
  skip
  have e:qW A D B (fun j=>if j<((0:Nat):Int)then V.fr (B+j)else u j) (fun j=>if j<((0:Nat):Int)then V.rl (B+j)else g j)=qW A D B u g:=by
   have f1:flags 64 (fun j=>if j<((0:Nat):Int)then V.fr (B+j)else u j)=flags 64 u:=EL fun k h0 h1=>if_neg (by omega);have f2:flags 64 (fun j=>if j<((0:Nat):Int)then V.rl (B+j)else g j)=flags 64 g:=EL fun k h0 h1=>if_neg (by omega);unfold qW GR;rw[f1,f2]
  show Sat (Cells q ty (qW A D B (fun j=>if j<((0:Nat):Int)then _ else _) _)::_) w7;rw[e];exact H7
 rintro⟨i',v⟩ _ w9 ⟨i,hi,aX,H9⟩;dsimp only at hi⊢;subst hi;refine AD (fun aF=> ?_) fun aZ=> ?_
 ·refine⟨B,O0 H9,?_⟩;rw[AM (n:=(i:Int)),AM (n:=B+(i:Int)),AH (n:=(i:Int)+1)];refine OE (sw H9) (by omega) (by omega) fun a8 aM=>⟨⟨by omega,by omega⟩,fQ (sw aM) (by omega) aF fun a6 aT=>⟨⟨by omega,by omega⟩,qst2W aT (by omega) aF fun a9 d=> ?_⟩⟩;have J:inr B (i:Int) (B+i)=false:=Fg.2 (by omega);have O:(V.take B i).fr (B+i)=V.fr (B+i):=by show(V.fr (B+i)&& !inr B i (B+i))=_;rw[J];simp
  have aH:(V.take B i).rl (B+i)=V.rl (B+i):=by show(V.rl (B+i)&& !inr B i (B+i))=_;rw[J];simp
  rw[O,aH]at d;have aR:(fun j:Int=>if j=(i:Int)then V.fr (B+i)else if j<(i:Int)then V.fr (B+j)else u j)=fun j=>if j<((i+1:Nat):Int)then V.fr (B+j)else u j:=by
   funext j;by_cases e:j=(i:Int)
   ·rw[if_pos e,if_pos (by omega),e]
   ·rw[if_neg e];by_cases T:j<(i:Int)
    ·rw[if_pos T,if_pos (by omega)]
    ·rw[if_neg T,if_neg (by omega)]
  have aU:(fun j:Int=>if j=(i:Int)then V.rl (B+i)else if j<(i:Int)then V.rl (B+j)else g j)=fun j=>if j<((i+1:Nat):Int)then V.rl (B+j)else g j:=by
   funext j;by_cases e:j=(i:Int)
   ·rw[if_pos e,if_pos (by omega),e]
   ·rw[if_neg e];by_cases T:j<(i:Int)
    ·rw[if_pos T,if_pos (by omega)]
    ·rw[if_neg T,if_neg (by omega)]
  rw[aR,aU]at d;rw[O];refine AQ (fun e=> ?_) fun e=> ?_
  ·refine⟨B,O0 d,?_⟩;rw[AM (n:=B+(i:Int))];refine UB (sw d) (by omega) (by omega) (aA _ e) (by rw[O];exact e) ?_;intro _ _ a3 aD;refine⟨⟨i+1,by omega,by omega,?_⟩,by omega⟩;rw[Y]at aD;exact sw aD
  ·refine⟨⟨i+1,by omega,by omega,?_⟩,by omega⟩;have aG:V.rl (B+i)=false:=by
    cases er:V.rl (B+i)with
    | false=>rfl
    | true=>rw[aE _ er]at e;cases e
   have:V.take B ((i+1:Nat):Int)=V.take B i:=by
    have e1: ∀x,(V.fr x&& !inr B ((i+1:Nat):Int) x)=(V.fr x&& !inr B i x):=fun x=>by
     by_cases hx:x=B+i
     ·rw[hx,e];rfl
     ·have:inr B ((i+1:Nat):Int) x=inr B i x:=Bool.eq_iff_iff.2 (by rw[AR,AR];omega);rw[this]
    have T: ∀x,(V.rl x&& !inr B ((i+1:Nat):Int) x)=(V.rl x&& !inr B i x):=fun x=>by
     by_cases hx:x=B+i
     ·rw[hx,aG];rfl
     ·have:inr B ((i+1:Nat):Int) x=inr B i x:=Bool.eq_iff_iff.2 (by rw[AR,AR];omega);rw[this]
    unfold TV.take;simp only[e1,T]
   rw[this];exact d
 ·have aN:i=64:=by omega
  subst aN;refine C w9 (Sat.iA.2 ⟨B,_,_,⟨aC.1,aC.2.1,fun _=>rfl,fun k hk=> ?_,fun k hk=> ?_,fun k hk=> ?_⟩,H9⟩)
  ·show(if(k:Int)<((64:Nat):Int)then V.fr (B+k)else u k)=(decide (k<64)&&V.fr (B+k));rw[if_pos (by omega)];simp[hk]
  ·show(decide (k<64)&&V.rl (B+k))=((decide (k<64)&&V.fr (B+k))&&(if(k:Int)<((64:Nat):Int)then V.rl (B+k)else g k));rw[if_pos (by omega)];cases er:V.rl (B+k)with
   | false=>simp
   | true=>simp[aE _ er]
  ·show(decide (k<64)&&_)=false;rw[decide_eq_false (by omega)];rfl
theorem UD(H:Sat (TB q ty A D S::JV E r V::Z) w)(hR:vQ S V)(aR: ∀p,V.rl p=true->V.fr p=true){K:World->Prop}(hK: ∀w',Sat (TB q ty A D CS.nil::JV E r (V.flush S)::Z) w'->K w'):
  F.Bt E (some ⟨q,A.length,none⟩) (some ⟨r,0,none⟩) K w:=by
 unfold F.Bt T0.Bt;have sw: ∀{P1 P2:Pr} {w'},Sat (P1::P2::Z) w'->Sat (P2::P1::Z) w':=fun h=>h.perm (.swap _ _ _);obtain⟨B,u,g,O,H0⟩:=Sat.iA.1 H;simp only[AI];generalize hP:(fun i:Nat=>(⟨V.GH,fun p=>V.fr p||(S.own p&&inr B i p),fun p=>V.rl p||(S.F3 p&&inr B i p)⟩:TV))=P;have y: ∀i:Nat,P i=⟨V.GH,fun p=>V.fr p||(S.own p&&inr B i p),fun p=>V.rl p||(S.F3 p&&inr B i p)⟩:=fun i=>(congrFun hP i).symm;have a8:=O.b0;have a5:=O.b1;have aB: ∀p,S.F3 p=true->S.own p=true:=fun p hp=>by
  unfold CS.F3 at hp;rw[Bool.and_eq_true,AR]at hp;have h1:=O.rl (p-S.base).toNat (by omega);rw[hp.2]at h1;have h2:S.has (p-S.base).toNat=true:=by
   cases e:S.has (p-S.base).toNat with
   | true=>rfl
   | false=>rw[e]at h1;cases h1
  exact(CS.Gl S p).2 ⟨hp.1.1,hp.1.2,h2⟩
 refine AK (fun st w'=> ∃i:Nat,st.1=(i:Int)/\i<=64/\Sat (Cells q ty (qW A D B (fun j=>if j<(i:Int)then false else u j) g)::JV E r (P i)::Z) w') (fun st _=>(64-st.1).toNat) ⟨0,rfl,by decide,?_⟩ ?_
 ·have e: ∀q,inr B ((0:Nat):Int) q=false:=fun q=>Fg.2 (by omega);have T:qW A D B (fun j=>if j<((0:Nat):Int)then false else u j) g=qW A D B u g:=by
   have f1:flags 64 (fun j=>if j<((0:Nat):Int)then false else u j)=flags 64 u:=EL fun k h0 h1=>if_neg (by omega);unfold qW GR;rw[f1]
  show Sat (Cells q ty (qW A D B (fun j=>if j<((0:Nat):Int)then _ else _) g)::_) w;rw[T,y];simp only[e,Bool.and_false,Bool.or_false];exact H0
 rintro⟨i',v⟩ _ w2 ⟨i,hi,aW,H2⟩;dsimp only at hi⊢;subst hi;refine AD (fun aC=> ?_) fun a0=> ?_
 ·have aA:=O.hs i (by omega);have aT:=O.rl i (by omega);have eu:(if(i:Int)<(i:Int)then false else u i)=u i:=if_neg (by omega);rw[AH (n:=(i:Int)+1)];refine⟨⟨by omega,by omega⟩,_,V5 H2 (by omega) aC,?_⟩;rw[eu];have aU:(fun j:Int=>if j<((i+1:Nat):Int)then false else u j)=fun j=>if j=(i:Int)then false else if j<(i:Int)then false else u j:=by
   funext j;by_cases e:j=(i:Int)
   ·rw[if_pos e,if_pos (by omega)]
   ·rw[if_neg e];by_cases T:j<(i:Int)
    ·rw[if_pos T,if_pos (by omega)]
    ·rw[if_neg T,if_neg (by omega)]
  refine AQ (fun e=> ?_) fun e=> ?_
  ·rw[aA]at e;have J: ¬S.empty:=fun h=>by rw[h i]at e;cases e
   have aH:=O.bs J;have d:S.own (B+i)=true:=(CS.Gl S _).2 ⟨by omega,by omega,by rw[aH,show(S.base+(i:Int)-S.base).toNat=i by omega];exact e⟩;obtain⟨aM,aK⟩:=hR _ d;have C:S.F3 (B+i)=g i:=by
    unfold CS.F3;rw[aH,show(S.base+(i:Int)-S.base).toNat=i by omega,aT,e,AR.2 (by omega)];simp
   have Hd:=H2.drew;refine⟨B,O0 Hd,⟨by omega,by omega⟩,_,Xt Hd (by omega) aC,?_⟩;rw[AM (n:=(i:Int)),AM (n:=B+(i:Int))];refine OF (sw Hd) (fun p hp=> ?_) (by omega) (by omega) (by rw[y];exact aM) ?_ fun a6 aS=> ?_
   ·rw[y]at hp⊢;have hp:(V.rl p||(S.F3 p&&inr B i p))=true:=hp;show(V.fr p||(S.own p&&inr B i p))=true;rw[Bool.or_eq_true,Bool.and_eq_true]at hp⊢;rcases hp with h|h
    ·exact .inl (aR p h)
    ·exact .inr ⟨aB p h.1,h.2⟩
   ·rw[y];show(V.fr (B+i)||(S.own (B+i)&&inr B i (B+i)))=false;rw[aK,Fg.2 (by omega)];simp
   ·have aF:=sw aS;refine⟨O0 aF,⟨by omega,by omega⟩,fQ aF (by omega) aC fun a2 aJ=>⟨⟨i+1,by omega,by omega,?_⟩,by omega⟩⟩;rw[aU];have e1: ∀x,inr B ((i+1:Nat):Int) x=(inr B i x||inr (B+i) 1 x):=fun x=>Bool.eq_iff_iff.2 (by rw[Bool.or_eq_true,AR,AR,AR];omega);have hx: ∀x,inr (B+i) 1 x=true->x=B+i:=fun x h=>by have:=AR.1 h;omega
    have T: ∀x,(S.own x&&inr B ((i+1:Nat):Int) x)=((S.own x&&inr B i x)||inr (B+i) 1 x):=fun x=>by
     rw[e1];cases h:inr (B+i) 1 x with
     | false=>simp
     | true=>rw[hx x h,d];simp
    have e3: ∀x,(S.F3 x&&inr B ((i+1:Nat):Int) x)=((S.F3 x&&inr B i x)||(g i&&inr (B+i) 1 x)):=fun x=>by
     rw[e1];cases h:inr (B+i) 1 x with
     | false=>simp
     | true=>rw[hx x h,C];cases g i<;>simp
    have:P (i+1)=if g i then(P i).back (B+i) 1 else(P i).JL (B+i) 1:=by
     rw[y,y];cases hg:g i with
     | false=>
      rw[if_neg (by decide)];unfold TV.JL;simp only[T,e3,hg,Bool.false_and,Bool.or_false,Bool.or_assoc]
     | true=>
      rw[if_pos rfl];unfold TV.back;simp only[T,e3,hg,Bool.true_and,Bool.or_assoc]
    rw[this];exact aJ
  ·rw[aA]at e;refine⟨⟨i+1,by omega,by omega,?_⟩,by omega⟩;have d:S.own (B+i)=false:=by
    cases h:S.own (B+i)with
    | false=>rfl
    | true=>
     have Y:=(CS.Gl S _).1 h;have J: ¬S.empty:=fun he=>by rw[he]at Y;cases Y.2.2
     rw[O.bs J,show(S.base+(i:Int)-S.base).toNat=i by omega,e]at Y;cases Y.2.2
   have C:S.F3 (B+i)=false:=by
    cases h:S.F3 (B+i)with
    | false=>rfl
    | true=>rw[aB _ h]at d;cases d
   have e1: ∀x,(S.own x&&inr B ((i+1:Nat):Int) x)=(S.own x&&inr B i x):=fun x=>by
    by_cases hx:x=B+i
    ·rw[hx,d];rfl
    ·have:inr B ((i+1:Nat):Int) x=inr B i x:=Bool.eq_iff_iff.2 (by rw[AR,AR];omega);rw[this]
   have T: ∀x,(S.F3 x&&inr B ((i+1:Nat):Int) x)=(S.F3 x&&inr B i x):=fun x=>by
    by_cases hx:x=B+i
    ·rw[hx,C];rfl
    ·have:inr B ((i+1:Nat):Int) x=inr B i x:=Bool.eq_iff_iff.2 (by rw[AR,AR];omega);rw[this]
   have aN:P (i+1)=P i:=by
    rw[y,y];simp only[e1,T]
   have aP:qW A D B (fun j=>if j<((i+1:Nat):Int)then false else u j) g=qW A D B (fun j=>if j<(i:Int)then false else u j) g:=by
    unfold qW GR;congr 4;refine EL fun k h0 h1=> ?_;by_cases hk:k=(i:Int)
    ·rw[if_pos (by omega),if_neg (by omega),hk,aA,e]
    ·by_cases hk2:k<(i:Int)
     ·rw[if_pos (by omega),if_pos hk2]
     ·rw[if_neg (by omega),if_neg hk2]
   rw[aN,aP];exact H2
 ·have aQ:i=64:=by omega
  subst aQ;have aL:P 64=V.flush S:=by
   rw[y];have e1: ∀x,(S.own x&&inr B ((64:Nat):Int) x)=S.own x:=fun x=>by
    cases h:S.own x with
    | false=>rfl
    | true=>
     have Y:=(CS.Gl S _).1 h;have J: ¬S.empty:=fun he=>by rw[he]at Y;cases Y.2.2
     rw[O.bs J,AR.2 (by omega)];rfl
   have T: ∀x,(S.F3 x&&inr B ((64:Nat):Int) x)=S.F3 x:=fun x=>by
    cases h:S.F3 x with
    | false=>rfl
    | true=>
     have Y:=(CS.Gl S _).1 (aB x h);have J: ¬S.empty:=fun he=>by rw[he]at Y;cases Y.2.2
     rw[O.bs J,AR.2 (by omega)];rfl
   unfold TV.flush;simp only[e1,T]
  rw[aL]at H2;refine hK w2 (Sat.iA.2 ⟨B,_,_,⟨O.b0,O.b1,fun h=>absurd (fun _=>rfl) h,fun k hk=> ?_,fun k hk=>rfl,fun k hk=>rfl⟩,H2⟩);show(if(k:Int)<((64:Nat):Int)then false else u k)=false;rw[if_pos (by omega)]
end
end Go.Sh
set_option linter.all false
set_option maxRecDepth 4000
set_option maxHeartbeats 1000000
namespace Go.Sh
theorem Sat.mS{F:List Pr}{w:World}{t:Nat}{s:AZ}{vs us:List Value}(H:Sat (Row t 1 s (vs++us)::F) w):Sat (Row t 1 ⟨s.base,vs.length,s.cap⟩ vs::F) w:=by
 obtain⟨D,h,hs⟩:=H.step;have d:=h.2;have K:vs.length+us.length=s.len:=by have:=d.len;rw[List.length_append]at this;simpa using this
 refine hs w D _ (Ext.refl _ _) ⟨h.1,⟨by simp,by have:=d.cap;simp only;omega,d.top,?_⟩⟩ fun _ C=>.inl C;rcases d.row with h1|⟨b,cs,h1,y,J,v,j⟩
 ·exact .inl h1
 ·refine .inr ⟨b,cs,h1,y,J,v,?_⟩;simp only[Nat.mul_one]at j⊢;rw[show vs.length=min vs.length s.len by omega,<-List.take_take,j,List.take_left'];rfl
def LX(X:FX):List Bool:=(List.range X.n).map fun i=>decide (i∉X.bk)
def JG(X:FX):List Int:=X.bk.reverse.map fun a:Nat=>(a:Int)+1
theorem Hn(X:FX):(LX X).length=X.n:=by simp[LX]
theorem Jn{X:FX}{i:Nat}(h:i<X.n):(LX X)[i]? =some (decide (i∉X.bk)):=by simp[LX,h]
theorem O1(X:FX):(JG X).length=X.bk.length:=by simp[JG]
def nW(E:Env)(b:Nat)(X:FX)(s1 s2:AZ):List Pr:=[Cells b E.IP [.int .i64 64,.int .i64 (X.n:Int),Ie s1,Ie s2],Row E.Ag 1 s1 (A6 (LX X)),Row E.CV 1 s2 (ints .i64 (JG X))]
def II(E:Env)(b:Nat)(X:FX):Pr:=Ex fun x:AZ×AZ=>Jv (Vg X) (Qe (nW E b X x.1 x.2))
section
variable{E:Env}{b:Nat}{X:FX}{Z:List Pr}{w:World}
theorem Sat.aP:Sat (II E b X::Z) w↔ ∃s1 s2,Vg X/\Sat (nW E b X s1 s2++Z) w:=by
 unfold II;rw[Sat.ex];constructor
 ·rintro⟨⟨s1,s2⟩,h⟩;rw[Sat.where,Sat.star]at h;exact⟨s1,s2,h.1,h.2⟩
 ·rintro⟨s1,s2,h1,d⟩;refine⟨⟨s1,s2⟩,?_⟩;rw[Sat.where,Sat.star];exact⟨h1,d⟩
theorem Xu(H:Sat Z w){K:Option Addr->Int->World->Prop}(v: ∀b w',Sat (II E b ⟨0,[]⟩::Z) w'->K (some ⟨b,0,none⟩) 0 w'):F.GW E 64 K w:=by
 unfold F.GW;refine An (Ac (by decide) fun j=>Ac (by decide) ?_);refine Ad (vs:=[.int .i64 64,.int .i64 0,.slice none 0 0,.slice none 0 0]) H fun b w' d _=>v b w' (Sat.aP.2 ⟨⟨none,0,0⟩,⟨none,0,0⟩,⟨.nil,fun i h=>(by cases h),by decide⟩,?_⟩);exact((d.nil E.Ag 1).nil E.CV 1).perm ((List.reverse_perm [_,_,_]).symm.append_right Z)|>.perm (.cons _ (.refl _))
theorem aQ{X:FX}{a:Nat}{r:List Nat}(y:Vg X)(v:X.bk=a::r):(LX X).set a true=LX ⟨X.n,r⟩:=by
 have d:=y.nd;rw[v,List.nodup_cons]at d;apply List.ext_getElem?;intro i;have C:a<X.n:=y.lt a (by rw[v];simp);rw[List.getElem?_set];by_cases e:a=i
 ·subst e;rw[if_pos rfl,if_pos (by rw[Hn];exact C)];have:=Jn (X:=⟨X.n,r⟩) (i:=a) C;rw[this,decide_eq_true d.1]
 ·rw[if_neg e];by_cases g:i<X.n
  ·rw[Jn g,Jn (X:=⟨X.n,r⟩) g,v];congr 1;rw[decide_eq_decide,List.mem_cons];exact⟨fun h1 j=>h1 (.inr j),fun h1 j=>j.elim (fun q=>e q.symm) h1⟩
  ·rw[List.getElem?_eq_none (by rw[Hn];omega),List.getElem?_eq_none (by rw[Hn];show X.n<=i;omega)]
theorem aR{X:FX}{a:Nat}(j:a<X.n):(LX X).set a false=LX ⟨X.n,a::X.bk⟩:=by
 apply List.ext_getElem?;intro i;rw[List.getElem?_set];by_cases e:a=i
 ·subst e;rw[if_pos rfl,if_pos (by rw[Hn];exact j)];have:=Jn (X:=⟨X.n,a::X.bk⟩) (i:=a) j;rw[this,decide_eq_false (fun h=>h (by simp))]
 ·rw[if_neg e];by_cases g:i<X.n
  ·rw[Jn g,Jn (X:=⟨X.n,a::X.bk⟩) g];congr 1;rw[decide_eq_decide,List.mem_cons];exact⟨fun h1 d=>d.elim (fun q=>e q.symm) h1,fun h1 d=>h1 (.inr d)⟩
  ·rw[List.getElem?_eq_none (by rw[Hn];omega),List.getElem?_eq_none (by rw[Hn];show X.n<=i;omega)]
theorem fR{X:FX}(d:X.bk=[]):LX X++[true]=LX ⟨X.n+1,[]⟩:=by
 unfold LX;rw[d,List.range_succ];simp
theorem V8(H:Sat (II E b X::Z) w)(aN:X.n<1099511627776){K:Int->World->Prop}
  (aE:X.bk=[]-> ∀w',Sat (II E b ⟨X.n+1,[]⟩::Z) w'->K ((X.n:Int)+1) w')
  (aI: ∀a r,X.bk=a::r-> ∀w',Sat (II E b ⟨X.n,r⟩::Z) w'->K ((a:Int)+1) w'):F.Et E (some ⟨b,0,none⟩) K w:=by
 obtain⟨s1,s2,T,H⟩:=Sat.aP.1 H;have aJ:=(H.front 1 rfl).FH;have d:=(H.front 2 rfl).FH;rw[A6,List.length_map,Hn,Nat.mul_one]at aJ;rw[ints,List.length_map,O1,Nat.mul_one]at d;unfold F.Et;simp only[AI];refine⟨s2,H.cell rfl,?_⟩;cases hb:X.bk with
 | nil=>
  rw[hb]at d;simp at d;refine Ac (decide_eq_false (by omega)) ⟨(X.n:Int),H.cell rfl,?_⟩;rw[AH (n:=(X.n:Int)+1)];refine Ak H (o:=0) (m:=1) rfl (by simp) fun aV aC=>⟨s1,aC.cell rfl,?_⟩;refine Ad (vs:=[.bool true]) aC fun aU a0 aF _=> ?_;refine GP (news:=[.bool true]) (aF.DR 1 rfl) rfl rfl (by simp[Value.oneCell']) (by omega) (by omega) fun aL aY aD _=> ?_;refine Ak (aD.front 1 rfl) (o:=0) (m:=2) rfl (by simp) fun aM v=>⟨_,v.cell rfl,aE hb aM (Sat.aP.2 ⟨aL,s2,⟨.nil,fun i h=>(by cases h),by show X.n+1<=_;omega⟩,?_⟩)⟩;have e1:A6 (LX X)++[.bool true]=A6 (LX ⟨X.n+1,[]⟩):=by rw[<-fR hb];simp[A6]
  have e2:JG X=JG ⟨X.n+1,[]⟩:=by unfold JG;rw[hb]
  rw[e1,e2]at v;exact v
 | cons a r=>
  have J:JG X=JG ⟨X.n,r⟩++[(a:Int)+1]:=by unfold JG;rw[hb];simp
  have hlen:(JG ⟨X.n,r⟩).length=r.length:=O1 _;rw[hb,List.length_cons]at d;have ha:a<X.n:=T.lt a (by rw[hb];simp);obtain⟨x2,y⟩:=(H.front 2 rfl).own.Fe (by omega);obtain⟨x1,C⟩:=(H.front 1 rfl).own.Fe (by omega);have aO:=(H.front 2 rfl).own.cap;have aR:=(H.front 2 rfl).own.top;refine AV (decide_eq_true (by omega)) ⟨s2,H.cell rfl,?_⟩;rw[AH (n:=((s2.len:Nat):Int)-1),show Int.toNat (((s2.len:Nat):Int)-1)=r.length by omega,y];simp only[AI];have c6:w.cell? ((Addr.mk x2 0 none).add (r.length*1))=some (.int .i64 ((a:Int)+1)):=by
   refine(H.front 2 rfl).own.cell y ?_;rw[Nat.mul_one];refine Iz ?_;rw[J,List.getElem?_append_right (by omega),hlen,Nat.sub_self];rfl
  refine⟨⟨by omega,by omega⟩,_,c6,s2,H.cell rfl,⟨by omega,by omega⟩,?_⟩;rw[Lk,AH (n:=(a:Int)+1-1),show Int.toNat ((a:Int)+1-1)=a by omega];refine Ak H (o:=0) (m:=3) rfl (by simp) fun aW O=>⟨s1,O.cell rfl,?_⟩;rw[C];simp only[AI,Nat.mul_one];refine⟨⟨by omega,by omega⟩,?_⟩;refine Gh (O.front 1 rfl) (j:=a) rfl (by rw[A6,List.length_map,Hn];exact ha) C fun aK aB=>aI a r hb aK (Sat.aP.2 ⟨s1,⟨s2.base,r.length,s2.cap⟩,⟨?_,fun i hi=>T.lt i (by rw[hb];exact .tail _ hi),T.SF⟩,?_⟩)
  ·have:=T.nd;rw[hb,List.nodup_cons]at this;exact this.2
  ·have e1:(A6 (LX X)).set a (.bool true)=A6 (LX ⟨X.n,r⟩):=by rw[<-aQ T hb];unfold A6;rw[List.map_set]
   rw[e1]at aB;have aA:=aB.front 2 rfl;have e2:ints .i64 (JG X)=ints .i64 (JG ⟨X.n,r⟩)++[.int .i64 ((a:Int)+1)]:=by rw[J];simp[ints]
   rw[e2]at aA;have Y:=aA.mS;have e3:(ints .i64 (JG ⟨X.n,r⟩)).length=r.length:=by rw[ints,List.length_map,hlen]
   rw[e3]at Y;exact Y.front 2 rfl|>.perm (.cons _ (.swap _ _ _))
theorem V9(H:Sat (II E b X::Z) w){a:Nat}(J:a<X.n)(y:a∉X.bk)(aE:X.bk.length<1099511627776){K:Int->World->Prop}(hK: ∀w',Sat (II E b ⟨X.n,a::X.bk⟩::Z) w'->K 0 w'):F.Ce E (some ⟨b,0,none⟩) ((a:Int)+1) K w:=by
 obtain⟨s1,s2,O,H⟩:=Sat.aP.1 H;have aA:=(H.front 1 rfl).FH;have aB:=(H.front 2 rfl).FH;have hf:=O.SF;rw[A6,List.length_map,Hn,Nat.mul_one]at aA;rw[ints,List.length_map,O1,Nat.mul_one]at aB;obtain⟨x1,d⟩:=(H.front 1 rfl).own.Fe (by omega);have v:w.cell? ((Addr.mk x1 0 none).add (a*1))=some (.bool true):=by
  refine(H.front 1 rfl).own.cell d ?_;rw[Nat.mul_one];refine JR ?_;rw[Jn J,decide_eq_true y]
 unfold F.Ce T0.Ce F.Fv;simp only[AI];refine AV (decide_eq_true (by omega)) ⟨(X.n:Int),H.cell rfl,AV (decide_eq_true (by omega)) ⟨s1,H.cell rfl,?_⟩⟩;rw[AH (n:=(a:Int)+1-1),show Int.toNat ((a:Int)+1-1)=a by omega,d];simp only[AI];refine⟨⟨by omega,by omega⟩,true,v,Ac rfl ⟨s1,H.cell rfl,?_⟩⟩;rw[d];simp only[AI,Nat.mul_one];refine⟨⟨by omega,by omega⟩,Gh (H.front 1 rfl) (j:=a) rfl (by rw[A6,List.length_map,Hn];exact J) d fun w6 H6=>⟨s2,(H6.front 1 rfl).cell rfl,?_⟩⟩;refine Ad (vs:=[.int .i64 ((a:Int)+1)]) H6 fun b9 aH Y _=> ?_;refine GP (news:=[.int .i64 ((a:Int)+1)]) (Y.DR 2 rfl) rfl rfl (by simp[Value.oneCell']) (by omega) (by omega) fun aC aI T _=> ?_;refine Ak (T.front 2 rfl) (o:=0) (m:=3) rfl (by simp) fun aD C=>hK aD (Sat.aP.2 ⟨s1,aC,⟨List.nodup_cons.2 ⟨y,O.nd⟩,fun i hi=>by
  rcases List.mem_cons.1 hi with e|e
  ·rw[e];exact J
  ·exact O.lt i e,O.SF⟩,?_⟩)
 have e1:(A6 (LX X)).set a (.bool false)=A6 (LX ⟨X.n,a::X.bk⟩):=by rw[<-aR J];unfold A6;rw[List.map_set]
 have e2:ints .i64 (JG X)++[.int .i64 ((a:Int)+1)]=ints .i64 (JG ⟨X.n,a::X.bk⟩):=by simp[ints,JG]
 rw[e1,e2]at C;exact C.perm (.cons _ (.swap _ _ _))
end
end Go.Sh
set_option linter.all false
set_option maxRecDepth 4000
set_option maxHeartbeats 2000000
namespace Go.Sh
def powL:Nat->Int->Bool
 | 0,n=>n==1
 | k+1,n=>if n>1 then(if Int.tmod n 2=0 then powL k (u64 (Int.tdiv n 2))else n==1)else n==1
def N3.fS(s:N3):Bool:=decide (1<s.l.length)&&(s.last.2.1==i64 (Int.tdiv (bytesF s.size 16 8192) 8192)&&(i64 (Int.tdiv (bytesF s.size 16 8192) s.last.1)==i64 (Int.tdiv (bytesF s.size 16 8192) s.size)))
def N3.ok5(s:N3):Bool:=(s.fS==s.same)&&(powL 64 (u64 s.size)==Tv (u64 s.size))
def allOk5:Nat->N3->Bool
 | 0,_=>true
 | n+1,s=>match s.ok5 with
  | true=>allOk5 n s.next
  | false=>false
theorem mT:allOk5 rounds (Mp 0)=true:=by decide+kernel
theorem PX: ∀(n k:Nat),allOk5 n (Mp k)=true-> ∀j,j<n->(Mp (k+j)).ok5=true
 | 0,k,h,j,hj=>by omega
 | n+1,k,h,j,hj=>by
  unfold allOk5 at h;split at h
  ·rename_i hg;cases j with
   | zero=>exact hg
   | succ j=>have:=PX n (k+1) h j (by omega);rwa[show k+1+j=k+(j+1) by omega]at this
  ·cases h
theorem ok5{k:Nat}(h:k<rounds):(Mp k).fS=(Mp k).same/\powL 64 (u64 (Mp k).size)=Tv (u64 (Mp k).size):=by
 have:=PX rounds 0 mT k h;rw[Nat.zero_add]at this;unfold N3.ok5 at this;simp only[Bool.and_eq_true,beq_iff_eq]at this;exact this
section
variable{E:Env}{w:World}{Z:List Pr}
theorem O2{n:Int}(J:0<=n)(y:n<18446744073709551616){K:Bool->World->Prop}(d:K (powL 64 n) w):F.Gt E n K w:=by
 unfold F.Gt;refine AK (fun st w'=>w'=w/\ ∃i:Nat,i<=64/\0<=st.1/\st.1<(2:Int)^(64-i)/\powL (64-i) st.1=powL 64 n) (fun st _=>st.1.toNat) ⟨rfl,0,by decide,J,y,rfl⟩ ?_;rintro⟨m,u⟩ _ O ⟨rfl,i,hi,m0,m1,hm⟩;dsimp only at m0 m1 hm⊢;have j:(m>1->Int.tmod m 2≠0)->K (m==1) O:=fun h=>by
  rw[<-hm]at d;cases hk:64-i with
  | zero=>rw[hk]at d;exact d
  | succ k=>
   rw[hk]at d;unfold powL at d;by_cases g:m>1
   ·rw[if_pos g,if_neg (h g)]at d;exact d
   ·rw[if_neg g]at d;exact d
 refine AD (fun g=>⟨by decide,BW (fun e=>⟨by decide,?_⟩) fun e=>j fun _=>e⟩) fun g=>j fun h=>absurd h g;cases hk:64-i with
 | zero=>rw[hk]at m1;have:(2:Int)^0=1:=rfl;omega
 | succ k=>
  rw[hk]at m1 hm;unfold powL at hm;rw[if_pos g,if_pos e]at hm;have hp:(2:Int)^(k+1)=2^k*2:=Int.pow_succ 2 k;have C:(2:Int)^(k+1)<=2^64:=by
   have:(2:Nat)^(k+1)<=2^64:=Nat.pow_le_pow_right (by decide) (by omega);have v:(((2:Nat)^(k+1):Nat):Int)<=((2^64:Nat):Int):=Int.ofNat_le.2 this;rw[Int.natCast_pow]at v;exact v
  have T:Int.tdiv m 2=m/2:=Int.tdiv_eq_ediv_of_nonneg m0;have he:(2:Int)^64=18446744073709551616:=by decide
  have hu:u64 (Int.tdiv m 2)=m/2:=by rw[T,AM]
  rw[hu]at hm⊢;exact⟨⟨rfl,i+1,by omega,by show 0<=m/2;omega,by show m/2<_;rw[show 64-(i+1)=k by omega];omega,by show powL (64-(i+1)) (m/2)=_;rw[show 64-(i+1)=k by omega];exact hm⟩,by show(m/2).toNat<m.toNat;omega⟩
theorem WA{n:Int}(v:n<2∨n≠0){K:Int->World->Prop}(d:K (if n<2 then 0 else IntKind.wrap .u32 (IntKind.wrap .u32 (Int.tdiv 4294967295 n)+1)) w):F.F8 E n K w:=by
 unfold F.F8;refine AD (fun h=> ?_) fun h=>⟨by omega,AU fun x j=> ?_⟩
 ·rw[if_pos h]at d;exact d
 ·rw[if_neg h]at d;rw[j];exact d
theorem WB(H:Sat Z w){K:AZ->Int->World->Prop}(hK: ∀s w',Sat (Row E.A0 4 s (Bj Hj L8)::Z) w'->K s 0 w'):F.EO E 8192 32768 K w:=by
 unfold F.EO T0.EO;have p1:powL 64 (u64 8192)=true:=by decide+kernel
 have p2:powL 64 (u64 32768)=true:=by decide+kernel
 refine An (Ac (by decide) (Ac (by decide) (O2 (by decide+kernel) (by decide+kernel) ?_)));rw[p1];refine Ac rfl (Ac (by decide) (Ac (by decide+kernel) (O2 (by decide+kernel) (by decide+kernel) ?_)));rw[p2];refine fun j=>Ac rfl ?_;obtain⟨aE,aN⟩:=runs;refine Hu (n:=1) (z:=4) H rfl (by decide) fun b8 w9 H9=> ?_;refine AK (fun st w'=> ∃k:Nat,k<=rounds/\st.2.1=(Mp k).KS/\st.2.2.1=(Mp k).size/\Sat (Row E.A0 4 st.1 (Bj Hj (Mp k).l)::Z) w') (fun st _=>(40000-st.2.2.1).toNat)
  ⟨0,Nat.zero_le _,rfl,rfl,H9⟩ ?_
 rintro⟨O,KS,size,v⟩ _ bI ⟨k,hk,aQ,aL,Y⟩;dsimp only at aQ aL Y⊢;have hl:=Y.IW (by decide) Av;refine AD (fun hle=> ?_) fun aC=> ?_
 ·have aI:k<rounds:=by
   rcases Nat.lt_or_eq_of_le hk with g|g
   ·exact g
   ·subst g;rw[aN]at aL;have:=Yu;omega
  have hg:=N5 (aE k aI);obtain⟨o1,o2⟩:=ok5 aI;rw[aQ,aL];generalize hS:Mp k=S at hg aL aQ Y hl o1 o2⊢;have aB:Mp (k+1)=S.next:=by rw[<-hS];rfl
  have b3:=hg.s0;have cG:=hg.s1;have a1:=hg.l0;have bS:=hg.l1;have bU:=hg.st0;have bV:=hg.st1;refine AX (fun st w'=>st.1=IH S.size S.KS/\w'=bI) ?_ ?_
  ·refine O2 (by rw[AM];omega) (by rw[AM];omega) ?_;rw[o2];unfold IH;cases hp:Tv (u64 S.size)
   ·refine Ac rfl ⟨?_,rfl⟩;rw[if_pos rfl]
   ·rw[if_neg (by decide)];refine AV rfl (AD (fun h=>⟨?_,rfl⟩) fun h=>AD (fun h2=>⟨by decide,AU fun x hx=>⟨?_,rfl⟩⟩) fun h2=>AD (fun h3=>⟨?_,rfl⟩) fun h3=>⟨?_,rfl⟩)
    ·rw[if_pos h]
    ·rw[if_neg h,if_pos h2];exact hx
    ·rw[if_neg h,if_neg h2,if_pos h3]
    ·rw[if_neg h,if_neg h2,if_neg h3]
  rintro⟨step,v⟩ _ bF ⟨aF,rfl⟩;dsimp only at aF⊢;subst aF;refine AK (fun st w'=>w'=bF/\ ∃i:Nat,i<=16/\st.1=8192+i*8192/\bytesF S.size (16-i) st.1=bytesF S.size 16 8192) (fun st _=>(200000-st.1).toNat) ⟨rfl,0,by decide,by show(8192:Int)=_;omega,rfl⟩ ?_;rintro⟨n,v⟩ _ cI ⟨rfl,i,hi,hn,C⟩;dsimp only at hn C⊢;refine⟨by omega,by decide,AD (fun aC=> ?_) fun hle=> ?_⟩
  ·rcases Nat.lt_or_ge i 16 with h8|h8
   ·obtain⟨k,hk⟩: ∃k,16-i=k+1:=⟨15-i,by omega⟩;rw[hk]at C;rw[AH (n:=n+8192)];refine⟨⟨rfl,i+1,by omega,by omega,?_⟩,by omega⟩;rw[<-C,show 16-(i+1)=k by omega];unfold bytesF;rw[if_pos aC,AH (n:=n+8192)];cases k<;>rfl
   ·have:i=16:=by omega
    subst this;have:bytesF S.size 0 n=n:=rfl;rw[show 16-16=0 from rfl,this]at C;have Bi:=hg.KS;rw[<-C]at Bi;exact absurd aC (by omega)
  have aY:n=bytesF S.size 16 8192:=by
   rw[<-C];cases h:16-i with
   | zero=>rfl
   | succ k=>unfold bytesF;rw[if_neg (by omega)]
  rw[aY];clear aY C hn hi hle;have J:=Vl a1;obtain⟨b,C⟩:=Y.Fx (by decide) Av (i:=S.l.length-1) (by omega);rw[AH (n:=((O.len:Nat):Int)-1),C];simp only[AI];refine AU fun last bA=> ?_;have et:Int.toNat last=S.l.length-1:=by omega
  rw[et];have Hd:=Y.drew;have c0:=Hd.CD Av C J (j:=0) rfl;have c1:=Hd.CD Av C J (j:=1) rfl;have aO:S.l.getLastD (0,0,0,0)=S.last:=rfl;rw[aO]at c0 c1 J;rw[Nat.add_zero]at c0;rw[AH (n:=S.size+IH S.size S.KS)];have aM:S.next.size=S.size+IH S.size S.KS:=AH;have d:(0:Int)<=last/\last<(O.len:Nat):=⟨by omega,by omega⟩;refine AX (fun st w'=>st.1=S.same/\Sat (Row E.A0 4 O (Bj Hj S.l)::Z) w') ?_ ?_
  ·rw[<-o1];unfold N3.fS;refine AD (fun h1=>⟨d,S.last.2.1,by rw[add_add];exact c1,by decide,BW (fun e1=> ?_) fun e1=> ?_⟩) fun h1=> ?_
   ·have d1:decide (1<S.l.length)=true:=decide_eq_true (by omega);have bD:=c0;refine⟨d,S.last.1,bD,hg.nz (by omega),by omega,?_,Hd⟩;rw[d1,e1,beq_self_eq_true,Bool.true_and,Bool.true_and]
   ·refine⟨?_,Hd⟩;rw[show(S.last.2.1==i64 (Int.tdiv (bytesF S.size 16 8192) 8192))=false by simpa using e1];simp
   ·refine⟨?_,Hd⟩;rw[decide_eq_false (by omega)];rfl
  rintro⟨x,v⟩ _ b5 ⟨hx,aU⟩;dsimp only at hx;subst hx;refine AQ (fun e=>⟨d,?_⟩) fun e=>⟨by decide,?_⟩
  ·have hs:=Gh aU (j:=(S.l.length-1)*4) (v:=.int .i64 S.size) (K:=fun a3=>(∃k:Nat,k<=rounds/\IH S.size S.KS=(Mp k).KS/\S.size+IH S.size S.KS=(Mp k).size/\Sat (Row E.A0 4 O (Bj Hj (Mp k).l)::Z) a3)/\(40000-(S.size+IH S.size S.KS)).toNat<(40000-S.size).toNat) rfl (by rw[DQ Av];omega) C fun a3 aS=>⟨⟨k+1,by omega,by rw[aB];rfl,by rw[aB];exact aM.symm,?_⟩,by omega⟩
   ·exact hs
   ·have:=Hi Av J (j:=0) (y:=(S.size,S.last.2)) (v:=.int .i64 S.size) (by decide) rfl;rw[Nat.add_zero]at this;rw[this,Vk a1]at aS;rw[aB];unfold N3.next;rw[if_pos e];exact aS
  ·refine Ad aU fun bZ cH bN _=> ?_;refine GP (news:=Hj (S.size,i64 (Int.tdiv (bytesF S.size 16 8192) 8192),0,0)) bN rfl rfl (Vh _) (by omega) (by omega) fun bW b6 aZ _=>⟨⟨k+1,by omega,by rw[aB];rfl,by rw[aB];exact aM.symm,?_⟩,by omega⟩;have e1:Bj Hj S.l++Hj (S.size,i64 (Int.tdiv (bytesF S.size 16 8192) 8192),0,0)=Bj Hj (S.l++[(S.size,i64 (Int.tdiv (bytesF S.size 16 8192) 8192),0,0)]):=by rw[Hf];simp[Bj]
   rw[e1]at aZ;rw[aB];unfold N3.next;rw[if_neg (show ¬S.same=true from fun h=>by have e':S.same=false:=e;rw[e']at h;cases h)];exact aZ
 ·have aI:k=rounds:=by
   rcases Nat.lt_or_eq_of_le hk with g|g
   ·have:=(N5 (aE k g)).s1;omega
   ·exact g
  subst aI;rw[aN]at Y hl;have hlen:=Yv;cases hL:Vj.l with
  | nil=>rw[hL]at hlen;cases hlen
  | cons c0 T=>
   rw[hL]at Y hl hlen;have hT:T.length=67:=by simpa using hlen
   have a4: ∀i c,T[i]? =some c->Vi c=true:=fun i c hc=>by
    have:=Yw;rw[hL]at this;exact List.all_eq_true.1 this c (List.mem_of_getElem? hc)
   have aT:L8=c0::T.map Dk:=by unfold L8;rw[hL]
   refine AK (fun st w'=> ∃i:Nat,st.1=(i:Int)+1/\i<=67/\Sat (Row E.A0 4 O (Bj Hj (c0::((T.take i).map Dk++T.drop i)))::Z) w') (fun st _=>(68-st.1).toNat) ⟨0,rfl,by decide,Y⟩ ?_;rintro⟨i',v⟩ _ bH ⟨i,hi,bT,aA⟩;dsimp only at hi⊢;subst hi;refine AD (fun cB=> ?_) fun bY=> ?_
   ·have b9:i<67:=by omega
    obtain⟨c,hc⟩: ∃c,T[i]? =some c:=⟨_,List.getElem?_eq_getElem (by omega)⟩;have Bi:=a4 i c hc;unfold Vi at Bi;simp only[Bool.and_eq_true,Bool.or_eq_true,decide_eq_true_eq,bne_iff_ne]at Bi;obtain⟨o1,o2,o3,o4⟩:=Bi;have et:Int.toNat ((i:Int)+1)=i+1:=by omega
    rw[et,AH (n:=(i:Int)+1+1)];generalize hF:(c0::((T.take i).map Dk++T.drop i))=FX at aA;have cC:FX.length=68:=by rw[<-hF];simp[List.length_take,List.length_drop];omega
    have aK:FX[i+1]? =some c:=by
     rw[<-hF,List.getElem?_cons_succ,List.getElem?_append_right (by rw[List.length_map,List.length_take];omega),List.length_map,List.length_take,Nat.min_eq_left (by omega),Nat.sub_self,List.getElem?_drop,Nat.add_zero];exact hc
    have bL:FX.set (i+1) (Dk c)=c0::((T.take (i+1)).map Dk++T.drop (i+1)):=by
     rw[<-hF,List.set_cons_succ];congr 1;have bE:c=T[i]:=by rw[List.getElem?_eq_getElem (by omega)]at hc;exact(Option.some.inj hc).symm
     rw[List.set_append_right _ _ (by rw[List.length_map,List.length_take];omega),List.length_map,List.length_take,Nat.min_eq_left (by omega),Nat.sub_self,List.take_succ_eq_append_getElem (by omega),List.map_append,List.drop_eq_getElem_cons (by omega),List.set_cons_zero,List.append_assoc,bE];rfl
    obtain⟨b,C⟩:=aA.Fx (by decide) Av (i:=i+1) (by omega);rw[C];simp only[AI];have d0:=aA.CD Av C aK (j:=0) rfl;have d1:=aA.CD Av C aK (j:=1) rfl;rw[Nat.add_zero]at d0;have d:(0:Int)<=(i:Int)+1/\(i:Int)+1<(O.len:Nat):=⟨by omega,by omega⟩;refine⟨d,c.2.1,by rw[add_add];exact d1,d,c.1,d0,o1,o2,by decide,AU fun wide aD=> ?_⟩;refine AX (fun _ w'=>Sat (Row E.A0 4 O (Bj Hj (FX.set (i+1) ((Dk c).1,c.2)))::Z) w') ?_ ?_
    ·refine⟨d,c.1,d0,AD (fun aC=>⟨d,?_⟩) fun bJ=> ?_⟩
     ·have e1:(Dk c).1=wide:=by unfold Dk;dsimp only;rw[<-aD,if_pos aC]
      refine Gh aA (j:=(i+1)*4) rfl (by rw[DQ Av];omega) C fun bK a2=> ?_;have:=Hi Av aK (j:=0) (y:=(wide,c.2)) (v:=.int .i64 wide) (by decide) rfl;rw[Nat.add_zero]at this;rw[this]at a2;show Sat (Row E.A0 4 O (Bj Hj (FX.set (i+1) ((Dk c).1,c.2)))::Z) bK;rw[e1];exact a2
     ·have e1:(Dk c).1=c.1:=by unfold Dk;dsimp only;rw[<-aD,if_neg bJ]
      show Sat (Row E.A0 4 O (Bj Hj (FX.set (i+1) ((Dk c).1,c.2)))::Z) bH;rw[e1];have:FX.set (i+1) (c.1,c.2)=FX:=by
       have:=List.getElem?_eq_some_iff.1 aK;rw[show(c.1,c.2)=FX[i+1]from this.2.symm,List.set_getElem_self]
      rw[this];exact aA
    rintro _ _ b1 a5;have g1:(FX.set (i+1) ((Dk c).1,c.2))[i+1]? =some ((Dk c).1,c.2):=by rw[List.getElem?_set_self (by omega)]
    have f0:=a5.CD Av C g1 (j:=0) rfl;rw[Nat.add_zero]at f0;have aG:i64 (Int.tdiv (i64 (c.2.1*8192)) (Dk c).1)=(Dk c).2.2.1:=rfl;refine⟨d,(Dk c).1,f0,o3,d,?_⟩;rw[aG,add_add];refine Gh a5 (j:=(i+1)*4+2) rfl (by rw[DQ Av,List.length_set];omega) C fun b7 aP=> ?_;have:=Hi Av g1 (j:=2) (y:=((Dk c).1,c.2.1,(Dk c).2.2.1,c.2.2.2)) (v:=.int .i64 (Dk c).2.2.1) (by decide) rfl;rw[this,List.set_set]at aP;have g2:(FX.set (i+1) ((Dk c).1,c.2.1,(Dk c).2.2.1,c.2.2.2))[i+1]? =some ((Dk c).1,c.2.1,(Dk c).2.2.1,c.2.2.2):=by rw[List.getElem?_set_self (by omega)]
    have a6:=aP.CD Av C g2 (j:=0) rfl;rw[Nat.add_zero]at a6;refine⟨d,(Dk c).1,a6,WA o4 ⟨d,?_⟩⟩;have aW:(if IntKind.wrap .u32 (Dk c).1<2 then(0:Int)else IntKind.wrap .u32 (IntKind.wrap .u32 (Int.tdiv 4294967295 (IntKind.wrap .u32 (Dk c).1))+1))=(Dk c).2.2.2:=rfl;rw[aW,add_add];refine Gh aP (j:=(i+1)*4+3) rfl (by rw[DQ Av,List.length_set];omega) C fun cJ a0=>⟨⟨i+1,by omega,by omega,?_⟩,by omega⟩;have h3:=Hi Av g2 (j:=3) (y:=Dk c) (v:=.int .u32 (Dk c).2.2.2) (by decide) rfl;rw[h3,List.set_set,bL]at a0;exact a0
   ·have bG:i=67:=by omega
    subst bG;rw[<-hT,List.take_length,List.drop_length,List.append_nil,<-aT]at aA;exact hK _ _ aA
end
end Go.Sh
set_option linter.all false
set_option maxRecDepth 8000
set_option maxHeartbeats 2000000
namespace Go.Sh
theorem Aa{a:Addr}{K:Addr->Prop}(h:K a):NC (some a) K:=by rw[AI];exact h
def EX(U:Nat->Bool)(k:Nat):Int:=W fun i=>U (64*k+i)
def Dr(U:Nat->Bool)(n:Nat):List Int:=(List.range n).map (EX U)
def Kh(uw:List Int)(U:Nat->Bool):Prop:=uw=Dr U uw.length/\ ∀i,64*uw.length<=i->U i=false
theorem FD(U:Nat->Bool)(n:Nat):(Dr U n).length=n:=by simp[Dr]
theorem NH{U:Nat->Bool}{n k:Nat}(h:k<n):(Dr U n)[k]? =some (EX U k):=by simp[Dr,h]
theorem aS{uw:List Int}{U:Nat->Bool}(h:Kh uw U){k:Nat}(d:k<uw.length):(ints .u64 uw)[k]? =some (.int .u64 (EX U k)):=by
 rw[h.1];exact Iz (NH d)
theorem OH{U:Nat->Bool}{n:Nat}(h: ∀i,64*n<=i->U i=false):Kh (Dr U n) U:=by
 refine⟨by rw[FD],?_⟩;rw[FD];exact h
theorem O3{U:Nat->Bool}(h: ∀i,U i=false):Kh [] U:=⟨rfl,fun i _=>h i⟩
theorem UE{U V:Nat->Bool}{n:Nat}(h: ∀i,i<64*n->U i=V i):Dr U n=Dr V n:=by
 unfold Dr EX;refine List.map_congr_left fun k d=> ?_;rw[List.mem_range]at d;exact FI fun i hi=>h _ (by omega)
theorem Rb{U V:Nat->Bool}{n k:Nat}(h: ∀i,i/64≠k->U i=V i):(Dr U n).set k (EX V k)=Dr V n:=by
 apply List.ext_getElem?;intro j;rw[List.getElem?_set];by_cases hj:j<n
 ·rw[NH hj,NH hj,FD];by_cases e:k=j
  ·subst e;rw[if_pos rfl,if_pos hj]
  ·rw[if_neg e];unfold EX;congr 1;exact FI fun i hi=>h _ (by omega)
 ·rw[List.getElem?_eq_none (l:=Dr V n) (by rw[FD];omega),List.getElem?_eq_none (l:=Dr U n) (by rw[FD];omega),FD];split
  ·rw[if_neg (by omega)]
  ·rfl
theorem WC{U:Nat->Bool}{n:Nat}(h: ∀i,64*n<=i->U i=false):Dr U n++[0]=Dr U (n+1):=by
 unfold Dr;rw[List.range_succ,List.map_append];congr 1;have:EX U n=0:=by
  unfold EX;exact Fh.2 fun i _=>h _ (by omega)
 rw[List.map_singleton,this]
theorem gdiv{n:Nat}:Int.fdiv (n:Int) (2^(min (Int.toNat 6) (IntKind.bits .i64)))=((n/64:Nat):Int):=by
 rw[show(2:Int)^(min (Int.toNat 6) (IntKind.bits .i64))=64 by decide,Int.fdiv_eq_ediv_of_nonneg _ (by decide)];omega
theorem gmod{n:Nat}(h:n<9223372036854775808):D8 .i64 0 (n:Int) 63=((n %64:Nat):Int):=by
 show IntKind.wrap .i64 ((BitVec.ofInt 64 (n:Int)&&&BitVec.ofInt 64 63).toNat:Int)=_;have d:(BitVec.ofInt 64 (n:Int)).toNat=n:=by
  rw[BitVec.toNat_ofInt];omega
 have j:(BitVec.ofInt 64 63).toNat=63:=by decide
 rw[BitVec.toNat_and,d,j,show(63:Nat)=2^6-1 from rfl,Nat.and_two_pow_sub_one_eq_mod];have:n %2^6<64:=Nat.mod_lt _ (by decide);exact AH
theorem wA{n:Nat}(h:n<1099511627776):i64 ((n:Int)*2^(min (Int.toNat 6) (IntKind.bits .i64)))=((64*n:Nat):Int):=by
 rw[show(2:Int)^(min (Int.toNat 6) (IntKind.bits .i64))=64 by decide,AH];omega
section
variable{E:Env}{w:World}{Z:List Pr}{s:AZ}{uw:List Int}{U:Nat->Bool}
theorem Gz(H:Sat (Row E.AJ 1 s (ints .u64 uw)::Z) w):uw.length=s.len/\s.len<=s.cap/\s.cap<9223372036854775808:=by
 have d:=H.FH;simp only[ints,List.length_map]at d;exact⟨by omega,H.own.cap,H.own.top⟩
theorem Ip(H:Sat (Row E.AJ 1 s (ints .u64 uw)::Z) w)(v:Kh uw U){k:Nat}(j:k<uw.length): ∃b,s.base=some ⟨b,0,none⟩/\w.cell? ((Addr.mk b 0 none).add (k*1))=some (.int .u64 (EX U k)):=by
 have h:=Gz H;obtain⟨b,d⟩:=H.own.Fe (by omega);exact⟨b,d,by rw[Nat.mul_one];exact H.own.cell d (aS v j)⟩
theorem WD(hT:GV E.AP w)(H:Sat (Row E.AJ 1 s (ints .u64 uw)::Z) w)(hU:Kh uw U){n:Nat}(hn:n<1099511627776)(hs:s.len<1099511627776){K:Int->World->Prop}
  (hK: ∀r:Nat,n<=r->U r=false->(∀i,n<=i->i<r->U i=true)->K r w):F.Eu E s n K w:=by
 unfold F.Eu T0.Eu;have hl:=Gz H;rw[gdiv,gmod (by omega),Xi (by omega)];refine⟨by decide,AU fun k C=> ?_⟩;subst C;refine AK (fun st w'=>w'=w/\ ∃k:Nat,st.1=(k:Int)/\n/64<=k/\(k<=uw.length∨k=n/64)/\ ∀i,n<=i->i<64*k->U i=true) (fun st _=>((uw.length:Int)-st.1).toNat) ⟨rfl,n/64,rfl,Nat.le_refl _,.inr rfl,fun i h1 h2=>by omega⟩ ?_;rintro⟨k',u⟩ _ w3 ⟨rfl,k,C,k1,k2,k3⟩;dsimp only at C⊢;subst C;refine AD (fun g=> ?_) fun g=>⟨by decide,AU fun t v=> ?_⟩
 ·obtain⟨b,hb,hc⟩:=Ip H hU (k:=k) (by omega);rw[hb];simp only[AI];refine⟨⟨by omega,by omega⟩,_,by rw[Int.toNat_natCast];exact hc,?_⟩;have main: ∀V:Nat->Bool,(∀i,i<64->(V i=true↔U (64*k+i)=true∨64*k+i<n))->CND (W V !=18446744073709551615)
    ((0:Int)<=6/\F.BF E (D8 .u64 2 18446744073709551615 (W V)) (fun Y J=>Gc (i64 ((i64 ((k:Int)*2^(min (Int.toNat 6) (IntKind.bits .i64))))+Y):Int) fun t13=>K t13 J) w3)
    (((w3=w3/\ ∃d:Nat,i64 ((k:Int)+1)=(d:Int)/\n/64<=d/\(d<=uw.length∨d=n/64)/\ ∀i,n<=i->i<64*d->U i=true)/\((uw.length:Int)-i64 ((k:Int)+1)).toNat<((uw.length:Int)-(k:Int)).toNat)):=fun V T=>by
   refine Cz (fun O=>⟨by decide,?_⟩) fun he=> ?_
   ·rw[W_not];refine Oq hT (fun y=> ?_) fun r hr h1 h2=>AU fun t v=> ?_
    ·exfalso;refine O ?_;rw[<-Tc];refine FI fun i hi=> ?_;have:=y i hi;simpa using this
    ·have:t=((64*k+r:Nat):Int):=by
      rw[v,wA (by omega),AH];omega
     rw[this];have aC: ¬(U (64*k+r)=true∨64*k+r<n):=fun h=>by rw[(T r hr).2 h]at h1;cases h1
     have aF:U (64*k+r)=false:=by
      cases e:U (64*k+r)with
      | false=>rfl
      | true=>exact absurd (.inl e) aC
     refine hK _ (by omega) aF fun i i1 i2=> ?_;by_cases e:i<64*k
     ·exact k3 i i1 e
     ·have h4:V (i-64*k)=true:=by
       have:=h2 (i-64*k) (by omega);simpa using this
      rcases(T _ (by omega)).1 h4 with q|q
      ·rwa[show 64*k+(i-64*k)=i by omega]at q
      ·omega
   ·rw[show i64 ((k:Int)+1)=((k+1:Nat):Int) by rw[AH];rfl];refine⟨⟨rfl,k+1,rfl,by omega,.inl (by omega),fun i i1 i2=> ?_⟩,by omega⟩;by_cases e:i<64*k
    ·exact k3 i i1 e
    ·rw[<-Tc]at he;have:=nC he (i:=i-64*k) (by omega);rcases(T _ (by omega)).1 this with q|q
     ·rwa[show 64*k+(i-64*k)=i by omega]at q
     ·omega
  refine An ⟨by decide,BW (fun e=>⟨by omega,AU fun t v j=> ?_⟩) fun e j=> ?_⟩
  ·unfold EX at v;rw[cE]at v;subst v;refine main _ fun i hi=> ?_;rw[Bool.or_eq_true,decide_eq_true_eq];have:k=n/64:=by omega
   constructor
   ·rintro(h|h)
    ·exact .inl h
    ·exact .inr (by omega)
   ·rintro(h|h)
    ·exact .inl h
    ·exact .inr (by omega)
  ·refine main (fun i=>U (64*k+i)) fun i hi=>⟨.inl,fun h=> ?_⟩;rcases h with h|h
   ·exact h
   ·omega
 ·rw[<-hl.1,wA (by omega)]at v;unfold Oa at v;by_cases e:64*uw.length<=n
  ·have:t=(n:Int):=by rw[v];split<;>omega
   rw[this];exact hK n (Nat.le_refl _) (hU.2 n e) fun i i1 i2=>by omega
  ·have:t=((64*uw.length:Nat):Int):=by rw[v];split<;>omega
   rw[this];exact hK _ (by omega) (hU.2 _ (Nat.le_refl _)) fun i i1 i2=>k3 i i1 (by omega)
theorem rowBt_setS{b t:Nat}{cs:List Value}{o:Nat}(aE:o<cs.length)(H:Sat (Cells b t (cs.set o (Ie s))::Row E.AJ 1 s (ints .u64 uw)::Z) w)(hU:Kh uw U)(hs:uw.length<1099511627776){n:Nat}(hn:n<1099511627776){K:World->Prop}
  (hK: ∀s' d w',Kh d (fun i=>U i||i==n)->d.length=max uw.length (n/64+1)->Sat (Cells b t (cs.set o (Ie s'))::Row E.AJ 1 s' (ints .u64 d)::Z) w'->K w'):F.IS E (some ((Addr.mk b 0 none).add o)) n K w:=by
 unfold F.IS;rw[gdiv,gmod (by omega),nU (by omega)];refine AK (fun _ w'=> ∃s d,Kh d U/\(d.length=uw.length∨(uw.length<=d.length/\d.length<=n/64+1))/\Sat (Cells b t (cs.set o (Ie s))::Row E.AJ 1 s (ints .u64 d)::Z) w') (fun _ w'=>match w'.cell? ((Addr.mk b 0 none).add o)with|some (.slice _ l _)=>n/64+1-l|_=>0) ⟨s,uw,hU,.inl rfl,H⟩ ?_;rintro u _ w2 ⟨s,C,y,hlen,O⟩;have hc: ∀{s:AZ},(cs.set o (Ie s))[0+o]? =some (Ie s):=fun{s}=>by rw[Nat.zero_add,List.getElem?_set_self aE]
 have Ba: ∀{s:AZ} {w'} {Y},Sat (Cells b t (cs.set o (Ie s))::Y) w'->w'.cell? ((Addr.mk b 0 none).add o)=some (.slice s.base s.len s.cap):=fun h=>h.cell hc;have hl:=Gz (O.front 1 rfl);have hm: ∀{s:AZ} {w'} {Y},Sat (Cells b t (cs.set o (Ie s))::Y) w'->(match w'.cell? ((Addr.mk b 0 none).add o)with|some (.slice _ l _)=>n/64+1-l|_=>0:Nat)=n/64+1-s.len:=fun h=>by rw[Ba h]
 simp only[AI];refine⟨by decide,s,Ba O,AD (fun g=> ?_) fun g=> ?_⟩
 ·refine⟨s,Ba O,Ad (vs:=[.int .u64 0]) O fun b8 w9 H9 _=> ?_⟩;refine GP (zs:= #[.int .u64 0]) (bytes:=8) (H9.DR 1 rfl) rfl rfl (by simp[Value.oneCell']) (by omega) (by omega) fun aA aJ aC T=> ?_;refine Ak (aC.front 1 rfl) (v:=Ie aA) (o:=0) (m:=o) rfl (by rw[List.length_set];omega) fun aL J=> ?_;rw[Nat.zero_add,List.set_set]at J;have e:ints .u64 C++[.int .u64 0]=ints .u64 (Dr U (C.length+1)):=by
   rw[<-WC y.2,<-y.1];simp[ints]
  rw[e]at J;refine⟨⟨aA,Dr U (C.length+1),OH fun i hi=>y.2 i (by omega),by rw[FD];omega,J⟩,?_⟩;rw[hm J,hm O,T];omega
 ·have H3:=O.drew;refine⟨s,Ba H3,by decide,?_⟩;obtain⟨a,ha,aF⟩:=Ip (H3.front 1 rfl) y (k:=n/64) (by omega);rw[ha,Int.toNat_natCast];simp only[AI];refine⟨⟨by omega,by omega⟩,_,aF,by omega,⟨by omega,by omega⟩,?_⟩;have ew:D8 .u64 1 (EX U (n/64)) (W fun i=>i==n %64)=EX (fun i=>U i||i==n) (n/64):=by
   unfold EX;rw[cE];refine FI fun i hi=> ?_;congr 1;rw[Bool.eq_iff_iff,beq_iff_eq,beq_iff_eq];omega
  rw[ew,Nat.mul_one];refine Gh (H3.front 1 rfl) (j:=n/64) rfl (by simp[ints];omega) ha fun aG aB=> ?_;have e2:(ints .u64 C).set (n/64) (.int .u64 (EX (fun i=>U i||i==n) (n/64)))=ints .u64 (Dr (fun i=>U i||i==n) C.length):=by
   rw[y.1,FD,<-Rb (U:=U) (k:=n/64) (V:=fun i=>U i||i==n) fun i hi=>by
    have:(i==n)=false:=by
     have:i≠n:=fun e=>hi (by rw[e]);simpa using this
    rw[this,Bool.or_false]]
   simp only[ints,List.map_set]
  rw[e2]at aB;refine hK s _ aG (OH fun i hi=> ?_) (by rw[FD];omega) (aB.front 1 rfl);have:(i==n)=false:=by
   have:i≠n:=by omega
   simpa using this
  rw[y.2 i hi,this];rfl
end
end Go.Sh
set_option linter.all false
set_option maxRecDepth 8000
set_option maxHeartbeats 2000000
namespace Go.Sh
theorem OI{U:Nat->Bool}{n:Nat}(h: ∀i,n<=i->U i=false): ∀m,cN U (n+m)=cN U n
 | 0=>rfl
 | m+1=>by
  show cN U (n+m)+(U (n+m)).toNat=_;rw[OI h m,h _ (by omega)];rfl
theorem wB{U:Nat->Bool}{n m:Nat}(h1: ∀i,n<=i->U i=false)(d: ∀i,m<=i->U i=false):cN U n=cN U m:=by
 rcases Nat.le_total n m with h|h
 ·have:=OI h1 (m-n);rw[show n+(m-n)=m by omega]at this;exact this.symm
 ·have:=OI d (n-m);rw[show m+(n-m)=n by omega]at this;exact this
structure Ry(S:SI)(U M:Nat->Bool):Prop where
 uw:Kh S.uw U
 mw:Kh S.mw M
 lu:(S.uw.length:Int)*64<=S.Ar+63
 lm:(S.mw.length:Int)*64<=S.Ar+63
 Gn: ∀i:Nat,U i=true->(i:Int)<S.Ar
 mlim: ∀i:Nat,M i=true->(i:Int)<S.Ar
 sl:0<=S.Ar/\S.Ar<=137438953472
 cnt:S.used=(cN U S.Ar.toNat:Nat)
 look:0<=S.look/\S.look<=S.Ar/\ ∀i:Nat,(i:Int)<S.look->U i=true
theorem Ry.out{S:SI}{U M:Nat->Bool}(h:Ry S U M)(i:Nat)(hi:S.Ar.toNat<=i):U i=false:=by
 cases e:U i with
 | false=>rfl
 | true=>have:=h.Gn i e;have:=h.sl;omega
theorem Ry.next{S:SI}{U M:Nat->Bool}(h:Ry S U M){n:Nat}(j:(n:Int)<S.Ar)(hu:U n=false)(v: ∀i,i<n->U i=true){d:List Int}(h1:Kh d fun i=>U i||i==n)(y:d.length=max S.uw.length (n/64+1)):
  Ry {S with uw:=d,used:=S.used+1,look:=(n:Int)+1} (fun i=>U i||i==n) M:=by
 have hs:=h.sl;have C:=h.lu;refine⟨h1,h.mw,by show(d.length:Int)*64<=S.Ar+63;omega,h.lm,fun i hi=> ?_,h.mlim,h.sl,?_,⟨by show(0:Int)<=(n:Int)+1;omega,by show(n:Int)+1<=S.Ar;omega,fun i hi=> ?_⟩⟩
 ·rw[Bool.or_eq_true,beq_iff_eq]at hi;rcases hi with hi|rfl
  ·exact h.Gn i hi
  ·exact j
 ·show S.used+1=_;rw[fH hu,if_pos (by show n<S.Ar.toNat;omega),h.cnt];rfl
 ·have hi:(i:Int)<(n:Int)+1:=hi;rw[Bool.or_eq_true,beq_iff_eq];by_cases e:i=n
  ·exact .inr e
  ·exact .inl (v i (by omega))
theorem Ry.ZB{S:SI}{U M:Nat->Bool}(h:Ry S U M):0<=S.used/\S.used<=S.Ar:=by
 have:=PE U S.Ar.toNat;have:=h.sl;rw[h.cnt];omega
section
variable{E:Env}{w:World}{Z:List Pr}{b:Nat}{S:SI}{U M:Nat->Bool}
theorem UF(hT:GV E.AP w)(H:Sat (Ed E b S::Z) w)(v:Ry S U M)(aC:S.state≠0){K:Int->Int->World->Prop}
  (Y:(∀i:Nat,(i:Int)<S.Ar->U i=true)-> ∀w',Sat (Ed E b S::Z) w'->K 0 30 w')
  (O: ∀(n:Nat) d,(n:Int)<S.Ar->U n=false->(∀i,i<n->U i=true)->Ry {S with uw:=d,used:=S.used+1,look:=(n:Int)+1} (fun i=>U i||i==n) M->
   ∀w',Sat (Ed E b {S with uw:=d,used:=S.used+1,look:=(n:Int)+1}::Z) w'->K n 0 w'):F.D9 E (some ⟨b,0,none⟩) K w:=by
 obtain⟨y,sm,H⟩:=Sat.span.1 H;unfold F.D9 T0.D9;simp only[AI];have hs:=v.sl;obtain⟨l0,l1,l2⟩:=v.look;obtain⟨k,hk⟩:=Int.eq_ofNat_of_zero_le l0;have j:Sat (Yx E b S y sm++Z) w.drew:=H.drew;refine⟨_,H.cell rfl,BW (fun e=>absurd e aC) fun _=>⟨y,j.cell rfl,_,j.cell rfl,?_⟩⟩;rw[hk];have aF:=v.lu;have aG:=Gz (j.front 1 rfl);refine WD (hT.ext (Ext.drew _ _)) (j.front 1 rfl) v.uw (by omega) (by omega) fun r r1 r2 r4=>⟨_,j.cell rfl,?_⟩;have below: ∀i,i<r->U i=true:=fun i hi=>by
  by_cases e:i<k
  ·exact l2 i (by omega)
  ·exact r4 i (by omega) hi
 refine AD (fun g=>Y (fun i hi=>below i (by omega)) _ (Sat.span.2 ⟨y,sm,j⟩)) fun g=> ?_;have hr:(r:Int)<S.Ar:=by omega
 have H1:Sat (Cells b E.Eo ((F6 S y sm).set 11 (Ie y))::Row E.AJ 1 y (ints .u64 S.uw)::Row E.AJ 1 sm (ints .u64 S.mw)::Z) w.drew:=j;refine rowBt_setS (by simp[F6]) H1 v.uw (by omega) (by omega) fun s' d aH hB T C=> ?_;have aN:=v.ZB;refine⟨S.used,C.cell rfl,?_⟩;rw[AH (n:=S.used+1),AH (n:=(r:Int)+1)];refine Ak C (o:=0) (m:=7) rfl (by simp[F6]) fun aM aB=>Ak aB (o:=0) (m:=13) rfl (by simp[F6]) fun J aA=> ?_;exact O r d hr r2 below (v.next hr r2 below hB T) J (Sat.span.2 ⟨s',sm,aA⟩)
theorem fT{V:Nat->Bool}{k i:Nat}:EX V k=0->i/64=k->V i=false:=fun h hi=>by
 have:=Fh.1 h (i %64) (by omega);rwa[show 64*k+i %64=i by omega]at this
theorem SH(H:Sat (Ed E b S::Z) w)(y:Ry S U M){K:Bool->World->Prop}(T:(∃i,M i=true/\U i=false)->K true w)(aB:(∀i,M i=true->U i=true)->K false w):F.F9 E (some ⟨b,0,none⟩) K w:=by
 obtain⟨su,sm,H⟩:=Sat.span.1 H;unfold F.F9;simp only[AI];have hs:=y.sl;have aG:=y.lu;have aJ:=y.lm;have l1:=Gz (H.front 1 rfl);have l2:=Gz (H.front 2 rfl);refine⟨sm,H.cell rfl,?_⟩;refine AK (fun st w'=>w'=w/\ ∃k:Nat,st.1=(k:Int)/\ ∀i,i<64*k->M i=true->U i=true) (fun st _=>((S.mw.length:Int)-st.1).toNat) ⟨rfl,0,rfl,fun i hi=>by omega⟩ ?_;rintro⟨k',u⟩ _ w3 ⟨rfl,k,hk,k1⟩;dsimp only at hk⊢;subst hk;refine AD (fun g=> ?_) fun g=>aB fun i hi=> ?_
 ·obtain⟨c,hc,O⟩:=Ip (H.front 2 rfl) y.mw (k:=k) (by omega);rw[hc];simp only[AI];refine⟨⟨by omega,by omega⟩,_,by rw[Int.toNat_natCast];exact O,?_⟩;have main: ∀v:Int,v=EX (fun i=>M i&& !U i) k->CND (v !=0) (K true w3) ((w3=w3/\ ∃J:Nat,i64 ((k:Int)+1)=(J:Int)/\ ∀i,i<64*J->M i=true->U i=true)/\((S.mw.length:Int)-i64 ((k:Int)+1)).toNat<((S.mw.length:Int)-(k:Int)).toNat):=fun v hv=>by
   refine Cz (fun C=> ?_) fun he=> ?_
   ·obtain⟨c,c1,c2,_⟩:=Vn (by rw[hv]at C;exact C);rw[Bool.and_eq_true,Bool.not_eq_true']at c2;exact T ⟨_,c2⟩
   ·rw[show i64 ((k:Int)+1)=((k+1:Nat):Int) by rw[AH];rfl];refine⟨⟨rfl,k+1,rfl,fun i hi hm=> ?_⟩,by omega⟩;by_cases e:i<64*k
    ·exact k1 i e hm
    ·have:=fT (hv▸he) (show i/64=k by omega);cases hu:U i with
     | true=>rfl
     | false=>rw[hm,hu]at this;cases this
  refine An ⟨su,H.cell rfl,AD (fun g2=> ?_) fun g2 j=>main _ ?_⟩
  ·obtain⟨d,hd,Y⟩:=Ip (H.front 1 rfl) y.uw (k:=k) (by omega);refine⟨su,H.cell rfl,?_⟩;rw[hd];refine Aa ⟨⟨by omega,by omega⟩,_,by rw[Int.toNat_natCast];exact Y,fun j=>main _ ?_⟩;unfold EX;rw[Lu]
  ·unfold EX;refine FI fun i hi=> ?_;show M _=(M _&& !U _);rw[y.uw.2 _ (by omega)];simp
 ·by_cases e:i<64*k
  ·exact k1 i e hi
  ·rw[y.mw.2 i (by omega)]at hi;cases hi
end
end Go.Sh
set_option linter.all false
set_option maxRecDepth 8000
set_option maxHeartbeats 2000000
namespace Go.Sh
def DU(F:Nat->Bool)(m:Nat):List Int:=((List.range m).filter F).map fun i:Nat=>(i:Int)
theorem K9(F:Nat->Bool): ∀m,(DU F m).length=cN F m
 | 0=>rfl
 | m+1=>by
  have d:=K9 F m;unfold DU at d⊢;rw[List.length_map]at d⊢;rw[List.range_succ,List.filter_append,List.length_append,d];show _=cN F m+(F m).toNat;cases h:F m<;>simp[h]
theorem HA{F:Nat->Bool}{m:Nat}: ∀{n:Nat},(∀i,m<=i->i<m+n->F i=false)->DU F (m+n)=DU F m
 | 0,_=>rfl
 | n+1,h=>by
  have d:=HA (F:=F) (m:=m) (n:=n) fun i h1 j=>h i h1 (by omega);unfold DU at d⊢;rw[show m+(n+1)=m+n+1 by omega,List.range_succ,List.filter_append,List.map_append,d,List.filter_cons_of_neg (by rw[h _ (by omega) (by omega)];decide)];simp
theorem Rc{F:Nat->Bool}{m n:Nat}(d:m<=n)(h: ∀i,m<=i->i<n->F i=false)(j:F n=true):DU F (n+1)=DU F m++[(n:Int)]:=by
 have e:=HA (F:=F) (m:=m) (n:=n-m) fun i h1 v=>h i h1 (by omega);rw[show m+(n-m)=n by omega]at e;unfold DU at e⊢;rw[List.range_succ,List.filter_append,List.map_append,e,List.filter_cons_of_pos j];simp
theorem WE(U M:Nat->Bool): ∀n,cN U n=cN (fun i=>U i&&M i) n+cN (fun i=>U i&& !M i) n
 | 0=>rfl
 | n+1=>by
  show cN U n+(U n).toNat=cN _ n+(U n&&M n).toNat+(cN _ n+(U n&& !M n).toNat);have:=WE U M n;cases U n<;>cases M n<;>simp<;>omega
def Rd(S:SI)(d:List Int)(U M:Nat->Bool):SI:={S with uw:=d,mw:=[],used:=(cN (fun i=>U i&&M i) S.Ar.toNat:Nat),look:=0}
theorem Ry.swept{S:SI}{U M:Nat->Bool}(h:Ry S U M){d:List Int}(h1:Kh d fun i=>U i&&M i)(j:d.length=S.uw.length):Ry (Rd S d U M) (fun i=>U i&&M i) (fun _=>false):=by
 have:=h.lu;have:=h.sl;refine⟨h1,O3 fun _=>rfl,by show(d.length:Int)*64<=S.Ar+63;omega,by show((0:Nat):Int)*64<=S.Ar+63;omega,fun i hi=> ?_,fun i hi=>(by cases hi),h.sl,rfl,⟨Int.le_refl 0,h.sl.1,fun i hi=> ?_⟩⟩
 ·rw[Bool.and_eq_true]at hi;exact h.Gn i hi.1
 ·have hi:(i:Int)<0:=hi;omega
section
variable{E:Env}{w:World}{Z:List Pr}{b:Nat}{S:SI}{U M:Nat->Bool}
theorem UG(hT: ∀w',Sat Z w'->GV E.AP w')(H:Sat (Ed E b S::Z) w)(O:Ry S U M)(bM:S.state=1){K:AZ->Int->World->Prop}(bE:(∃i,M i=true/\U i=false)->K ⟨none,0,0⟩ 40 w)
  (hk:(∀i,M i=true->U i=true)-> ∀aJ s,Ry (Rd S aJ U M) (fun i=>U i&&M i) (fun _=>false)->s.len=cN (fun i=>U i&& !M i) S.Ar.toNat->
   ∀w',Sat (Row E.CV 1 s (ints .i64 (DU (fun i=>U i&& !M i) (64*S.uw.length)))::Ed E b (Rd S aJ U M)::Z) w'->K s 0 w'):F.CU E (some ⟨b,0,none⟩) K w:=by
 have H0:=H;obtain⟨J,sm,H⟩:=Sat.span.1 H;unfold F.CU T0.CU;refine Aa ⟨_,H.cell rfl,Cz (fun g=>absurd bM g) fun _=>SH H0 O (fun h=>AV rfl (bE h)) fun hz=>Ac rfl (Aa ⟨J,H.cell rfl,?_⟩)⟩;have hs:=O.sl;have b3:=O.lu;have b7:=O.lm;have l1:=Gz (H.front 1 rfl);have l2:=Gz (H.front 2 rfl)
 let G:Nat->Bool:=fun i=>U i&& !M i
 let Uk:Nat->Nat->Bool:=fun k i=>if i<64*k then U i&&M i else U i
 have hn:S.uw.length<=2147483649:=by omega
 have a0: ∀k,Kh (Dr (Uk k) S.uw.length) (Uk k):=fun k=>OH fun i hi=>by
  show(if i<64*k then U i&&M i else U i)=false;rw[O.uw.2 i hi];split<;>rfl
 have e0:Dr (Uk 0) S.uw.length=S.uw:=by
  have:Uk 0=U:=by funext i;show(if i<64*0 then _ else _)=_;rw[if_neg (by omega)]
  rw[this];exact O.uw.1.symm
 have fl: ∀m,(DU G m).length<=m:=fun m=>by rw[K9];exact PE G m
 refine AK (fun st w'=> ∃k:Nat,st.2.1=(k:Int)/\k<=S.uw.length/\Sat (Row E.CV 1 st.1 (ints .i64 (DU G (64*k)))::Cells b E.Eo (F6 S J sm)::Row E.AJ 1 J (ints .u64 (Dr (Uk k) S.uw.length))::Row E.AJ 1 sm (ints .u64 S.mw)::Z) w') (fun st _=>((S.uw.length:Int)-st.2.1).toNat) ⟨0,rfl,Nat.zero_le _,by rw[e0];exact H.nil E.CV 1⟩ ?_;rintro⟨fr,k',u⟩ _ w8 ⟨k,aR,b4,H8⟩;dsimp only at aR H8⊢;subst aR;refine AD (fun g=> ?_) fun g=> ?_
 ·have bK:k<S.uw.length:=by omega
  have hg:k<(Dr (Uk k) S.uw.length).length:=by rw[FD];exact bK
  obtain⟨a,ha,aE⟩:=Ip (H8.front 2 rfl) (a0 k) hg;have ew:EX (Uk k) k=EX U k:=FI fun i hi=>by show(if 64*k+i<64*k then _ else _)=_;rw[if_neg (by omega)]
  rw[ew]at aE;have cu: ∀{w'} {vs:List Value} {Y},Sat (Row E.CV 1 fr vs::Cells b E.Eo (F6 S J sm)::Y) w'->w'.cell? ((Addr.mk b 0 none).add 11)=some (.slice J.base J.len J.cap)/\w'.cell? ((Addr.mk b 0 none).add 12)=some (.slice sm.base sm.len sm.cap):=fun h=>⟨(h.front 1 rfl).cell rfl,(h.front 1 rfl).cell rfl⟩;have aD:=cu H8;refine Aa ⟨J,aD.1,?_⟩;rw[ha];refine Aa ⟨⟨by omega,by omega⟩,_,by rw[Int.toNat_natCast];exact aE,?_⟩;have main: ∀v:Int,v=EX G k-> ∀(C:AZ×Int×Unit->World->Prop),(∀st w',(∃k:Nat,st.2.1=(k:Int)/\k<=S.uw.length/\Sat (Row E.CV 1 st.1 (ints .i64 (DU G (64*k)))::Cells b E.Eo (F6 S J sm)::Row E.AJ 1 J (ints .u64 (Dr (Uk k) S.uw.length))::Row E.AJ 1 sm (ints .u64 S.mw)::Z) w')/\((S.uw.length:Int)-st.2.1).toNat<((S.uw.length:Int)-(k:Int)).toNat->C st w')->
    NC (some (Addr.mk b 0 none)) fun bL=> ∃y:AZ,w8.cell? (bL.add 11)=some (.slice y.base y.len y.cap)/\NC y.base fun bF=>((0:Int)<=(k:Int)/\((k:Int):Int)<(y.len:Nat))/\ ∃aU:Int,w8.cell? (bF.add (Int.toNat (k:Int)*1))=some (.int .u64 aU)/\NC y.base fun bI=>((0:Int)<=(k:Int)/\((k:Int):Int)<(y.len:Nat))/\
     stCells (bI.add (Int.toNat (k:Int)*1)) 0 [.int .u64 (D8 .u64 3 aU v)] w8 fun aN=>
      Ay (AZ×Int×Unit) (fr,v,()) aN fun T _ aA aC=>
       CND ((T.2.1:Int) !=0) (
        (0:Int)<=6/\
        F.BF E T.2.1 (fun bD bH=>
        AL (.cells ⟨[.int .i64 (i64 ((i64 ((k:Int)*2^(min (Int.toNat 6) (IntKind.bits .i64))))+bD))]⟩ E.CV) bH fun aT aL=>
        APP E.CV 1 8 #[.int .i64 0] T.1 ⟨(some (Addr.mk aT 0 none)),1,1⟩ aL fun aH aQ=>
        Gc (D8 .u64 0 T.2.1 (u64 (T.2.1-1)):Int) fun aS=>
        aC (aH,aS,()) aQ
        ) aA
       ) (
        C (T.1,i64 ((k:Int)+1),()) aA
       ):=fun v hv C aF=>by
   refine Aa ⟨J,aD.1,?_⟩;rw[ha];refine Aa ⟨⟨by omega,by omega⟩,_,by rw[Int.toNat_natCast];exact aE,Aa ⟨⟨by omega,by omega⟩,?_⟩⟩;subst hv;have e1:D8 .u64 3 (EX U k) (EX G k)=EX (Uk (k+1)) k:=by
    unfold EX;rw[Lu];refine FI fun i hi=> ?_;show(U _&& !(U _&& !M _))=if 64*k+i<64*(k+1)then _ else _
    rw[if_pos (by omega)];cases U (64*k+i)<;>cases M (64*k+i)<;>rfl
   rw[e1,Int.toNat_natCast,Nat.mul_one];refine Gh (H8.front 2 rfl) (j:=k) rfl (by simp[ints,FD];omega) ha fun aN aO=> ?_;have e2:(ints .u64 (Dr (Uk k) S.uw.length)).set k (.int .u64 (EX (Uk (k+1)) k))=ints .u64 (Dr (Uk (k+1)) S.uw.length):=by
    rw[<-Rb (U:=Uk k) (V:=Uk (k+1)) (k:=k) fun i hi=>by
     show(if i<64*k then _ else _)=if i<64*(k+1)then _ else _
     by_cases e:i<64*k
     ·rw[if_pos e,if_pos (by omega)]
     ·rw[if_neg e,if_neg (by omega)]]
    simp only[ints,List.map_set]
   rw[e2]at aO;have bG:=aO.front 1 rfl;refine AK (fun st w'=> ∃c:Nat,c<=64/\st.2.1=W (fun i=>G (64*k+i)&&decide (c<=i))/\Sat (Row E.CV 1 st.1 (ints .i64 (DU G (64*k+c)))::Row E.AJ 1 J (ints .u64 (Dr (Uk (k+1)) S.uw.length))::Cells b E.Eo (F6 S J sm)::Row E.AJ 1 sm (ints .u64 S.mw)::Z) w') (fun st _=>64*(k+1)-st.1.len) ⟨0,by omega,FI fun i hi=>by simp,bG⟩ ?_;rintro⟨aK,v2,u2⟩ _ aA ⟨c,hc,aI,aB⟩;dsimp only at aI aB⊢;subst aI;have hlen:=aB.FH;simp only[ints,List.length_map,Nat.mul_one]at hlen;have aW:=fl (64*k+c);refine Cz (fun a4=>⟨by decide,?_⟩) fun he=> ?_
   ·refine Oq (hT aA aB.tail.tail.tail.tail) (fun aV=>absurd (Fh.2 aV) a4) fun r hr h1 h2=> ?_;rw[Bool.and_eq_true,decide_eq_true_eq]at h1;have h3: ∀i,64*k+c<=i->i<64*k+r->G i=false:=fun i i1 i2=>by
     have:=h2 (i-64*k) (by omega);rw[show 64*k+(i-64*k)=i by omega]at this;cases hf:G i with
     | false=>rfl
     | true=>rw[hf]at this;simp at this;omega
    rw[wA (by omega),AH (n:=((64*k:Nat):Int)+(r:Int))];refine Ad (vs:=[.int .i64 (((64*k:Nat):Int)+(r:Int))]) aB fun aT aL a8 _=>GP (zs:= #[.int .i64 0]) (bytes:=8) a8 rfl rfl (by simp[Value.oneCell']) (by omega) (by omega) fun aH aQ a6 bN=>AU fun t ht=> ?_;have eb:=Xa (u:=fun i=>G (64*k+i)&&decide (c<=i)) hr (by show(G _&&decide _)=true;rw[h1.1,decide_eq_true h1.2];rfl) h2;rw[eb]at ht;have ef:=Rc (F:=G) (m:=64*k+c) (n:=64*k+r) (by omega) h3 h1.1;refine⟨⟨r+1,by omega,?_,?_⟩,?_⟩
    ·show t=_;rw[ht];refine FI fun i hi=> ?_;show(G (64*k+i)&&decide (c<=i)&& !(i==r))=(G (64*k+i)&&decide (r+1<=i));by_cases e1:i<r
     ·have:=h2 i e1;rw[show(G (64*k+i)&&decide (c<=i))=false from this,decide_eq_false (by omega)];simp
     ·by_cases e2:i=r
      ·subst e2;simp
      ·have:(i==r)=false:=by simpa using e2
       rw[this,decide_eq_true (show r+1<=i by omega),decide_eq_true (show c<=i by omega)];simp
    ·rw[show 64*k+(r+1)=64*k+r+1 by omega,ef];have:ints .i64 (DU G (64*k+c))++[.int .i64 (((64*k:Nat):Int)+(r:Int))]=ints .i64 (DU G (64*k+c)++[((64*k+r:Nat):Int)]):=by
      simp[ints]
     rw[<-this];exact a6
    ·show 64*(k+1)-aH.len<64*(k+1)-aK.len;omega
   ·rw[show i64 ((k:Int)+1)=((k+1:Nat):Int) by rw[AH];rfl];refine aF _ _ ⟨⟨k+1,rfl,by omega,?_⟩,by dsimp only;omega⟩;have e3:DU G (64*(k+1))=DU G (64*k+c):=by
     rw[show 64*(k+1)=64*k+c+(64-c) by omega];refine HA fun i i1 i2=> ?_;have:=Fh.1 he (i-64*k) (by omega);rw[show 64*k+(i-64*k)=i by omega,decide_eq_true (show c<=i-64*k by omega),Bool.and_true]at this;exact this
    show Sat (Row E.CV 1 aK (ints .i64 (DU G (64*(k+1))))::_) aA;rw[e3];exact aB.perm (.cons _ (.swap _ _ _))
  refine An (Aa ⟨sm,aD.2,AD (fun g2=>Aa ⟨sm,aD.2,?_⟩) fun g2 j=>main _ ?_ _ fun _ _ h=>h⟩)
  ·obtain⟨d,hd,a5⟩:=Ip (H8.front 3 rfl) O.mw (k:=k) (by omega);rw[hd];refine Aa ⟨⟨by omega,by omega⟩,_,by rw[Int.toNat_natCast];exact a5,fun j=>main _ ?_ _ fun _ _ h=>h⟩;unfold EX;rw[Lu]
  ·unfold EX;refine FI fun i hi=> ?_;show U _=(U _&& !M _);rw[O.mw.2 _ (by omega)];simp
 ·have aM:k=S.uw.length:=by omega
  have Bm:=H8.front 1 rfl;have hlen:=H8.FH;simp only[ints,List.length_map,Nat.mul_one]at hlen;have e4:cN G (64*S.uw.length)=cN G S.Ar.toNat:=wB (fun i hi=>by show(U i&& !M i)=false;rw[O.uw.2 i hi];rfl) fun i hi=>by show(U i&& !M i)=false;rw[O.out i hi];rfl
  have aW:fr.len=cN G S.Ar.toNat:=by rw[<-hlen,K9,aM,e4]
  have aY:=WE U M S.Ar.toNat;have bO:=O.cnt;have cB:=O.ZB;have hle:=PE U S.Ar.toNat;have eu:i64 (S.used-((fr.len:Nat):Int))=(cN (fun i=>U i&&M i) S.Ar.toNat:Nat):=by
   have:cN G S.Ar.toNat=cN (fun i=>U i&& !M i) S.Ar.toNat:=rfl;rw[AH];omega
  refine Aa ⟨_,Bm.cell rfl,Aa ?_⟩;rw[eu];refine Ak Bm (o:=0) (m:=7) rfl (by simp[F6]) fun b2 bA=>Aa (Ak bA (o:=0) (m:=12) (v:=Ie ⟨none,0,0⟩) rfl (by simp[F6]) fun b6 a7=>Aa (Ak a7 (o:=0) (m:=13) rfl (by simp[F6]) fun aX aP=> ?_));have e5:Dr (Uk k) S.uw.length=Dr (fun i=>U i&&M i) S.uw.length:=UE fun i hi=>by
   show(if i<64*k then _ else _)=_;rw[if_pos (by omega)]
  rw[e5,aM]at aP;refine hk hz (Dr (fun i=>U i&&M i) S.uw.length) fr (O.swept (OH fun i hi=>by show(U i&&M i)=false;rw[O.uw.2 i hi];rfl) (FD _ _)) aW aX ?_;have a1:=((aP.front 3 rfl).tail.nil E.AJ 1);have a3:Sat (Yx E b (Rd S (Dr (fun i=>U i&&M i) S.uw.length) U M) J ⟨none,0,0⟩++Row E.CV 1 fr (ints .i64 (DU G (64*S.uw.length)))::Z) aX:=
   (((a1.front 0 rfl).front 3 rfl).front 2 rfl)
  have a2:=Sat.span.2 ⟨J,⟨none,0,0⟩,a3⟩;exact a2.perm (.swap _ _ _)
end
end Go.Sh
set_option linter.all false
set_option maxRecDepth 4000
set_option maxHeartbeats 2000000
namespace Go.Sh
def tr(l:List Bool)(i:Nat):Bool:=l.getD i false
theorem ZC{l:List Bool}{i:Nat}(h:i<l.length):l[i]? =some (tr l i):=by
 unfold tr;rw[List.getD_eq_getElem?_getD,List.getElem?_eq_getElem h];rfl
theorem Mr{l:List Bool}{i:Nat}(h:l.length<=i):tr l i=false:=by
 unfold tr;rw[List.getD_eq_getElem?_getD,List.getElem?_eq_none h];rfl
theorem fU{l:List Bool}{i j:Nat}(h:i<l.length)(x:Bool):tr (l.set i x) j=if j=i then x else tr l j:=by
 unfold tr;rw[List.getD_eq_getElem?_getD,List.getD_eq_getElem?_getD,List.getElem?_set];by_cases e:i=j
 ·subst e;rw[if_pos rfl,if_pos h,if_pos rfl];rfl
 ·rw[if_neg e,if_neg (fun h=>e h.symm)]
theorem fV{l:List Bool}{j n:Nat}:tr (l++List.replicate n false) j=tr l j:=by
 by_cases h:j<l.length
 ·unfold tr;rw[List.getD_eq_getElem?_getD,List.getD_eq_getElem?_getD,List.getElem?_append_left h]
 ·rw[Mr (l:=l) (by omega)];unfold tr;rw[List.getD_eq_getElem?_getD,List.getElem?_append_right (by omega),List.getElem?_replicate];split<;>rfl
structure ZD(S:SI)(U M:Nat->Bool)(ul ml:List Bool)(lk:Int):Prop where
 u: ∀i,U i=tr ul i
 m: ∀i,M i=tr ml i
 lu:(ul.length:Int)<=S.Ar
 lm:(ml.length:Int)<=S.Ar
 Gn:S.Ar<=137438953472
 lk0:0<=lk/\lk<=S.Ar
 lk1: ∀i:Nat,(i:Int)<lk->U i=true
def F7(S:SI)(s1 s2:AZ)(d:Int):List Value:=[.int .u64 (S.base/8192),.int .u64 S.AB,.int .i64 S.state,.int .i64 S.cls,.bool S.I7,.int .i64 S.elem,.int .i64 S.Ar,Ie s1,Ie s2,.int .i64 d]
def Re(E:Env)(q:Nat)(S:SI)(ul ml:List Bool)(s1 s2:AZ)(d:Int):List Pr:=[Cells q E.CF (F7 S s1 s2 d),Row E.Ag 1 s1 (A6 ul),Row E.Ag 1 s2 (A6 ml)]
def C0(E:Env)(q:Nat)(S:SI)(U M:Nat->Bool):Pr:=Ex fun x:List Bool×List Bool×AZ×AZ×Int=>Jv (ZD S U M x.1 x.2.1 x.2.2.2.2) (Qe (Re E q S x.1 x.2.1 x.2.2.1 x.2.2.2.1 x.2.2.2.2))
section
variable{E:Env}{q:Nat}{S:SI}{U M:Nat->Bool}{Z:List Pr}{w:World}
theorem Sat.Ki:Sat (C0 E q S U M::Z) w↔ ∃ul ml s1 s2 d,ZD S U M ul ml d/\Sat (Re E q S ul ml s1 s2 d++Z) w:=by
 unfold C0;rw[Sat.ex];constructor
 ·rintro⟨⟨ul,ml,s1,s2,d⟩,h⟩;rw[Sat.where,Sat.star]at h;exact⟨ul,ml,s1,s2,d,h.1,h.2⟩
 ·rintro⟨ul,ml,s1,s2,d,h1,j⟩;refine⟨⟨ul,ml,s1,s2,d⟩,?_⟩;rw[Sat.where,Sat.star];exact⟨h1,j⟩
theorem Iq{s:AZ}{l:List Bool}(H:Sat (Row E.Ag 1 s (A6 l)::Z) w):l.length=s.len:=by
 have:=H.FH;rw[A6,List.length_map,Nat.mul_one]at this;exact this
theorem Rf{s:AZ}{l:List Bool}(H:Sat (Row E.Ag 1 s (A6 l)::Z) w){i:Nat}{K:Bool->World->Prop}(d:K (tr l i) w):F.GA E s i K w:=by
 unfold F.GA;have v:=Iq H;refine AV (decide_eq_true (by omega)) (AD (fun h=> ?_) fun h=> ?_)
 ·obtain⟨b,j⟩:=H.own.Fe (by omega);rw[j];simp only[AI];refine⟨⟨by omega,h⟩,_,?_,d⟩;rw[Int.toNat_natCast,Nat.mul_one];exact H.own.cell j (JR (ZC (by omega)))
 ·rw[Mr (by omega)]at d;exact d
theorem UH{s:AZ}{l:List Bool}(H:Sat (Row E.Ag 1 s (A6 l)::Z) w){i:Nat}(hi:i<1099511627776){x:Bool}{K:AZ->World->Prop}
  (T: ∀s' l' w',(∀j,tr l' j=if j=i then x else tr l j)->l'.length=max l.length (i+1)->Sat (Row E.Ag 1 s' (A6 l')::Z) w'->K s' w'):F.GX E s i x K w:=by
 unfold F.GX;refine AK (fun st w'=> ∃n:Nat,l.length+n<=max l.length (i+1)/\Sat (Row E.Ag 1 st.1 (A6 (l++List.replicate n false))::Z) w') (fun st _=>((i:Int)+1-st.1.len).toNat) ⟨0,by omega,by simpa using H⟩ ?_;rintro⟨s1,u⟩ _ w2 ⟨n,hn,d⟩;dsimp only at d⊢;have Y:=Iq d;rw[List.length_append,List.length_replicate]at Y;refine AD (fun h=> ?_) fun h=> ?_
 ·refine Ad (vs:=[.bool false]) d fun b4 w5 O _=> ?_;refine GP (news:=[.bool false]) O rfl rfl (by simp[Value.oneCell']) (by omega) (by omega) fun s6 w7 y J=>⟨⟨n+1,by omega,?_⟩,by omega⟩;have e:A6 (l++List.replicate n false)++[.bool false]=A6 (l++List.replicate (n+1) false):=by rw[List.replicate_succ'];simp[A6]
  rw[e]at y;exact y
 ·obtain⟨b,v⟩:=d.own.Fe (by omega);rw[v];simp only[AI];refine⟨⟨by omega,by omega⟩,?_⟩;rw[Int.toNat_natCast,Nat.mul_one];refine Gh d (j:=i) rfl (by rw[A6,List.length_map,List.length_append,List.length_replicate];omega) v fun w9 C=>T s1 ((l++List.replicate n false).set i x) w9 (fun j=> ?_) ?_ ?_
  ·rw[fU (by rw[List.length_append,List.length_replicate];omega),fV]
  ·rw[List.length_set,List.length_append,List.length_replicate];omega
  ·have e:(A6 (l++List.replicate n false)).set i (.bool x)=A6 ((l++List.replicate n false).set i x):=by unfold A6;rw[List.map_set]
   rw[e]at C;exact C
theorem cN_tr(ul:List Bool){U:Nat->Bool}(h: ∀i,U i=tr ul i){n:Nat}(d:ul.length<=n):cN U ul.length=cN U n:=by
 obtain⟨k,rfl⟩:=Nat.exists_eq_add_of_le d;exact(OI (fun i hi=>by rw[h,Mr hi]) k).symm
theorem OJ(H:Sat (C0 E q S U M::Z) w){K:Int->World->Prop}(O:K (cN U S.Ar.toNat:Nat) w):F.DI E (some ⟨q,0,none⟩) K w:=by
 obtain⟨ul,ml,s1,s2,Y,d,H⟩:=Sat.Ki.1 H;unfold F.DI;have hl:=Iq (H.front 1 rfl);have C:=d.lu;have j:=d.Gn;refine AK (fun st w'=>w'=w/\ ∃i:Nat,st.2.1=(i:Int)/\i<=ul.length/\st.1=(cN U i:Nat)) (fun st _=>((ul.length:Int)-st.2.1).toNat) ⟨rfl,0,rfl,Nat.zero_le _,rfl⟩ ?_;rintro⟨c,i',u⟩ _ w2 ⟨rfl,i,hi,J,v⟩;dsimp only at hi v⊢;subst hi;subst v;have T:=PE U i;refine Aa ⟨s1,H.cell rfl,AD (fun h=>Aa ⟨s1,H.cell rfl,?_⟩) fun h=> ?_⟩
 ·obtain⟨b,y⟩:=(H.front 1 rfl).own.Fe (by omega);rw[y];refine Aa ⟨⟨by omega,h⟩,tr ul i,?_,?_⟩
  ·rw[Int.toNat_natCast,Nat.mul_one];exact(H.front 1 rfl).own.cell y (JR (ZC (by omega)))
  ·rw[<-d.u i,AH (n:=(i:Int)+1),AH (n:=((cN U i:Nat):Int)+1)];have e:cN U (i+1)=cN U i+(U i).toNat:=rfl;refine AQ (fun g=>⟨⟨rfl,i+1,by omega,by omega,?_⟩,by omega⟩) fun g=>⟨⟨rfl,i+1,by omega,by omega,?_⟩,by omega⟩
   ·show((cN U i:Nat):Int)+1=(cN U (i+1):Nat);rw[e,g];rfl
   ·show((cN U i:Nat):Int)=(cN U (i+1):Nat);rw[e,g];rfl
 ·obtain rfl:i=ul.length:=by omega
  rw[cN_tr ul d.u (n:=S.Ar.toNat) (by omega)];exact O
theorem WG(H:Sat (C0 E q S U M::Z) w)(h0:0<=S.base/\S.base<18446744073709551616/\S.base %8192=0)(p0:0<=S.AB/\S.AB<=137438953472){K:Int->Int->Int->Int->Bool->Int->Int->Int->Bool->Bool->World->Prop}
  (T: ∀w',Sat (C0 E q S U M::Z) w'->K S.base S.AB S.state S.cls S.I7 S.elem S.Ar (cN U S.Ar.toNat:Nat) false false w'):F.CN E (some ⟨q,0,none⟩) K w:=by
 unfold F.CN T0.CN;refine Ad (vs:=[.int .u64 0,.int .i64 0,.int .i64 0,.int .i64 0,.bool false,.int .i64 0,.int .i64 0,.int .i64 0,.bool false,.bool false]) H fun b1 w2 O _=> ?_;have C:=O.drew.front 1 rfl;obtain⟨ul,ml,s1,s2,Y,hI,j⟩:=Sat.Ki.1 C;refine Aa ⟨_,j.A2 rfl,Aa ⟨_,j.cell rfl,Aa ⟨_,j.cell rfl,Aa ⟨_,j.cell rfl,Aa ⟨_,j.cell rfl,Aa ⟨_,j.cell rfl,Aa ⟨_,j.cell rfl,OJ C ⟨j.cell rfl,j.cell rfl,j.cell rfl,j.cell rfl,j.cell rfl,j.cell rfl,j.A2 rfl,?_⟩⟩⟩⟩⟩⟩⟩⟩;rw[AM (n:=S.base/8192*8192),show S.base/8192*8192=S.base by omega,AH (n:=S.AB)];refine Jc (news:=[.int .u64 S.base,.int .i64 S.AB,.int .i64 S.state,.int .i64 S.cls,.bool S.I7,.int .i64 S.elem,.int .i64 S.Ar,.int .i64 (cN U S.Ar.toNat:Nat),.bool false,.bool false]) O.drew rfl (by intro v J;simp at J;rcases J with rfl|rfl|rfl|rfl|rfl|rfl|rfl|rfl|rfl|rfl<;>rfl) fun y d=> ?_;exact⟨_,d.cell rfl,_,d.cell rfl,_,d.cell rfl,_,d.cell rfl,_,d.cell rfl,_,d.cell rfl,_,d.cell rfl,_,d.cell rfl,_,d.cell rfl,_,d.cell rfl,T y d.tail⟩
theorem PY(H:Sat (C0 E q S U M::Z) w)(aD:S.state≠0)(s0:0<=S.Ar){K:Int->Int->World->Prop}
  (Y:(∀i:Nat,(i:Int)<S.Ar->U i=true)->K 0 30 w)
  (J: ∀n:Nat,(n:Int)<S.Ar->U n=false->(∀i,i<n->U i=true)-> ∀w',Sat (C0 E q S (fun i=>U i||i==n) M::Z) w'->K n 0 w'):F.Bq E (some ⟨q,0,none⟩) K w:=by
 obtain⟨ul,ml,s1,s2,lk,v,H⟩:=Sat.Ki.1 H;unfold F.Bq T0.Bq;have hl:=Iq (H.front 1 rfl);have aG:=v.lu;have aF:=v.Gn;obtain⟨l0,l1⟩:=v.lk0;refine Aa ⟨_,H.cell rfl,BW (fun e=>absurd e aD) fun _=>Aa ⟨_,H.cell rfl,?_⟩⟩;refine AK (fun st w'=>w'=w/\ ∃i:Nat,st.1=(i:Int)/\(i:Int)<=S.Ar/\ ∀j,j<i->U j=true) (fun st _=>(S.Ar-st.1).toNat) ⟨rfl,lk.toNat,by show lk=_;omega,by omega,fun j T=>v.lk1 j (by omega)⟩ ?_;rintro⟨i',u⟩ _ w2 ⟨rfl,i,hi,aI,d⟩;dsimp only at hi⊢;subst hi;refine Aa ⟨s1,H.cell rfl,Rf (H.front 1 rfl) ?_⟩;rw[<-v.u i];have y:U i=true->(i:Int)<S.Ar:=fun g=>by
  rw[v.u]at g;by_cases h:i<ul.length
  ·omega
  ·rw[Mr (by omega)]at g;cases g
 rw[AH (n:=(i:Int)+1)];refine AQ (fun g=>⟨⟨rfl,i+1,rfl,by have:=y g;omega,fun j T=> ?_⟩,by have:=y g;omega⟩) fun g=>Aa ⟨_,H.cell rfl,AD (fun h=>Y fun j T=>d j (by omega)) fun h=>Aa ⟨s1,H.cell rfl,?_⟩⟩
 ·by_cases e:j=i
  ·rw[e];exact g
  ·exact d j (by omega)
 ·refine UH (H.front 1 rfl) (by omega) fun s' l' aH O hlen C=> ?_;refine Aa (Ak (C.front 1 rfl) (o:=0) (m:=7) rfl (by simp[F7]) fun aJ aC=>Aa (Ak aC (o:=0) (m:=9) rfl (by simp[F7]) fun aB aA=> ?_));refine J i (by omega) g d aB (Sat.Ki.2 ⟨l',ml,s',s2,(i:Int)+1,⟨fun j=> ?_,v.m,by omega,v.lm,v.Gn,⟨by omega,by omega⟩,fun j T=> ?_⟩,aA⟩)
  ·rw[O,v.u];by_cases e:j=i
   ·subst e;simp
   ·rw[if_neg e];simp[e]
  ·by_cases e:j=i
   ·subst e;simp
   ·rw[d j (by omega)];rfl
theorem Xv(H:Sat (C0 E q S U M::Z) w)(O:S.state≠0){K:Int->World->Prop}(y:0<cN U S.Ar.toNat->K 33 w)
  (J:cN U S.Ar.toNat=0-> ∀w',w'.cell? (Addr.mk q 0 none)=some (.int .u64 (S.base/8192))->w'.cell? ((Addr.mk q 0 none).add 1)=some (.int .u64 S.AB)->Sat Z w'->K 0 w'):F.Cd E (some ⟨q,0,none⟩) K w:=by
 obtain⟨ul,ml,s1,s2,lk,hI,H1⟩:=Sat.Ki.1 H;unfold F.Cd T0.Cd;refine An (Aa ⟨_,H1.cell rfl,BW (fun e=>absurd e O) fun _=>OJ H fun j=>AD (fun g=>y (by omega)) fun g=> ?_⟩);exact Aa (Ak H1 (o:=0) (m:=2) rfl (by simp[F7]) fun w9 Y=>Aa (Ak Y (o:=0) (m:=7) rfl (by simp[F7]) fun T C=>Aa (Ak C (o:=0) (m:=8) rfl (by simp[F7]) fun v d=>J (by omega) v (d.A2 rfl) (d.cell rfl) d.tail.tail.tail)))
theorem LA(H:Sat (C0 E q S U M::Z) w)(s0:0<=S.Ar){K:AZ->Int->World->Prop}(aK:S.state≠1->K ⟨none,0,0⟩ 33 w)(aO:S.state=1->(∃i,M i=true/\U i=false)->K ⟨none,0,0⟩ 40 w)
  (hk:S.state=1->(∀i,M i=true->U i=true)-> ∀s w',Sat (Row E.CV 1 s (ints .i64 (DU (fun i=>U i&& !M i) S.Ar.toNat))::C0 E q S (fun i=>U i&&M i) (fun _=>false)::Z) w'->K s 0 w'):
  F.Bf E (some ⟨q,0,none⟩) K w:=by
 obtain⟨ul,ml,s1,s2,lk,y,H⟩:=Sat.Ki.1 H;unfold F.Bf T0.Bf;have a8:=Iq (H.front 1 rfl);have a9:=Iq (H.front 2 rfl);have bB:=y.lu;have bD:=y.lm;have aC:=y.Gn;refine Aa ⟨_,H.cell rfl,Cz aK fun aG=> ?_⟩;refine AK (fun st w'=>w'=w/\ ∃i:Nat,st.1=(i:Int)/\i<=ml.length/\ ∀j,j<i->M j=true->U j=true) (fun st _=>((ml.length:Int)-st.1).toNat) ⟨rfl,0,rfl,Nat.zero_le _,fun j Y=>by omega⟩ ?_;rintro⟨i',u⟩ _ w4 ⟨rfl,i,hi,a3,J⟩;dsimp only at hi⊢;subst hi;refine Aa ⟨s2,H.cell rfl,AD (fun C=> ?_) fun aJ=> ?_⟩
 ·rw[AH (n:=(i:Int)+1)];obtain⟨b,O⟩:=(H.front 2 rfl).own.Fe (by omega);refine An (Aa ⟨s2,H.cell rfl,?_⟩);rw[O];refine Aa ⟨⟨by omega,C⟩,tr ml i,?_,?_⟩
  ·rw[Int.toNat_natCast,Nat.mul_one];exact(H.front 2 rfl).own.cell O (JR (ZC (by omega)))
  ·rw[<-y.m i];have nx:(M i=true->U i=true)->(w4=w4/\ ∃i2:Nat,(i:Int)+1=(i2:Int)/\i2<=ml.length/\ ∀j,j<i2->M j=true->U j=true)/\((ml.length:Int)-((i:Int)+1)).toNat<((ml.length:Int)-(i:Int)).toNat:=fun g=>⟨⟨rfl,i+1,rfl,by omega,fun j Y=>by
    by_cases e:j=i
    ·rw[e];exact g
    ·exact J j (by omega)⟩,by omega⟩
   refine AQ (fun g=>Aa ⟨s1,H.cell rfl,Rf (H.front 1 rfl) fun j=> ?_⟩) fun g j=>Ac rfl (nx fun h=>by rw[g]at h;cases h);rw[<-y.u i];exact F5 (AQ (fun h=>nx fun _=>h) fun h=>aO aG ⟨i,g,h⟩)
 ·have aQ: ∀i,M i=true->U i=true:=fun j Y=>by
   by_cases h:j<i
   ·exact J j h Y
   ·rw[y.m,Mr (by omega)]at Y;cases Y
  have H0:=(H.nil E.CV 1)
  let F:Nat->Bool:=fun i=>U i&& !M i
  refine AK (fun st w'=> ∃(k:Nat) (l:List Bool),st.2.1=(k:Int)/\k<=ul.length/\l.length=ul.length/\(∀j,tr l j=if j<k then U j&&M j else U j)/\Sat (Row E.CV 1 st.1 (ints .i64 (DU F k))::Cells q E.CF (F7 S s1 s2 lk)::Row E.Ag 1 s1 (A6 l)::Row E.Ag 1 s2 (A6 ml)::Z) w') (fun st _=>((ul.length:Int)-st.2.1).toNat)
   ⟨0,ul,rfl,Nat.zero_le _,rfl,fun j=>by rw[if_neg (by omega),y.u],H0⟩ ?_
  rintro⟨r,k',u⟩ _ aN ⟨k,l,aD,bE,aE,v,d⟩;dsimp only at aD d⊢;subst aD;have HC:=d.front 1 rfl;refine Aa ⟨s1,HC.cell rfl,AD (fun C=> ?_) fun aJ=> ?_⟩
  ·rw[AH (n:=(k:Int)+1)];obtain⟨b,O⟩:=(d.front 2 rfl).own.Fe (by omega);have aI:tr l k=U k:=by rw[v,if_neg (by omega)]
   refine AX (fun st w'=>st.1=F k/\w'=aN) (Aa ⟨s1,HC.cell rfl,?_⟩) ?_
   ·rw[O];refine Aa ⟨⟨by omega,C⟩,tr l k,?_,?_⟩
    ·rw[Int.toNat_natCast,Nat.mul_one];exact(d.front 2 rfl).own.cell O (JR (ZC (by omega)))
    ·rw[aI];refine AQ (fun g=>Aa ⟨s2,HC.cell rfl,Rf (d.front 3 rfl) ⟨?_,rfl⟩⟩) fun g=>⟨?_,rfl⟩
     ·show(!tr ml k)=(U k&& !M k);rw[<-y.m,g];rfl
     ·show false=(U k&& !M k);rw[g];rfl
   rintro⟨t,u⟩ _ aS ⟨ht,rfl⟩;dsimp only at ht⊢;subst ht;have bH:(DU F k).length<=k:=by rw[K9];exact PE _ _
   have hr:=(d).FH;rw[ints,List.length_map,Nat.mul_one]at hr;refine AQ (fun g=> ?_) fun g=>⟨⟨k+1,l,rfl,by omega,aE,fun j=> ?_,?_⟩,by show((ul.length:Int)-((k:Int)+1)).toNat<_;omega⟩
   ·have g1:U k=true/\M k=false:=by
     have g:(U k&& !M k)=true:=g;rw[Bool.and_eq_true]at g;exact⟨g.1,by simpa using g.2⟩
    refine Ad (vs:=[.int .i64 (k:Int)]) d fun aY a0 aR _=> ?_;refine GP (news:=[.int .i64 (k:Int)]) aR rfl rfl (by simp[Value.oneCell']) (by omega) (by omega) fun aZ a6 aB _=>Aa ⟨s1,(aB.front 1 rfl).cell rfl,?_⟩;rw[O];refine Aa ⟨⟨by omega,C⟩,?_⟩;rw[Int.toNat_natCast,Nat.mul_one];refine Gh (aB.front 2 rfl) (j:=k) rfl (by rw[A6,List.length_map];omega) O fun bA aA=>⟨⟨k+1,l.set k false,rfl,by omega,by rw[List.length_set];exact aE,fun j=> ?_,?_⟩,by show((ul.length:Int)-((k:Int)+1)).toNat<_;omega⟩
    ·rw[fU (by omega),v];by_cases e:j=k
     ·subst e;rw[if_pos rfl,if_pos (by omega),g1.1,g1.2];rfl
     ·rw[if_neg e];by_cases h:j<k
      ·rw[if_pos h,if_pos (by omega)]
      ·rw[if_neg h,if_neg (by omega)]
    ·have e1:ints .i64 (DU F k)++[.int .i64 (k:Int)]=ints .i64 (DU F (k+1)):=by
      rw[Rc (F:=F) (Nat.le_refl k) (fun i a b=>by omega) g];simp[ints]
     have e2:(A6 l).set k (.bool false)=A6 (l.set k false):=by unfold A6;rw[List.map_set]
     rw[e1,e2]at aA;exact(aA.front 1 rfl).perm (.cons _ (.swap _ _ _))
   ·by_cases e:j=k
    ·subst e;rw[v,if_neg (by omega),if_pos (by omega)];have g:(U j&& !M j)=false:=g;cases hu:U j with
     | false=>rfl
     | true=>rw[hu]at g;cases hm:M j with
      | true=>rfl
      | false=>rw[hm]at g;cases g
    ·rw[v];by_cases h:j<k
     ·rw[if_pos h,if_pos (by omega)]
     ·rw[if_neg h,if_neg (by omega)]
   ·show Sat (Row E.CV 1 r (ints .i64 (DU F (k+1)))::_) aS;rw[HA (F:=F) (m:=k) (n:=1) fun i a b=>by rw[show i=k by omega];exact g];exact d
  ·obtain rfl:k=ul.length:=by omega
   refine Aa (Ak HC (o:=0) (m:=8) rfl (by simp[F7]) fun bC aL=>Aa (Ak aL (o:=0) (m:=9) rfl (by simp[F7]) fun T aP=> ?_));have aM:DU F S.Ar.toNat=DU F ul.length:=by
    obtain⟨n,hn⟩:=Nat.exists_eq_add_of_le (show ul.length<=S.Ar.toNat by omega);rw[hn];exact HA fun i a b=>by show(U i&& !M i)=false;rw[y.u,Mr (by omega)];rfl
   refine hk aG aQ r T ?_;have aF:Sat (Row E.Ag 1 ⟨none,0,0⟩ (A6 [])::Cells q E.CF (F7 S s1 ⟨none,0,0⟩ 0)::Row E.CV 1 r (ints .i64 (DU F ul.length))::Row E.Ag 1 s1 (A6 l)::Z) T:=by
    have h1:=((aP.front 3 rfl).tail).nil E.Ag 1;exact h1
   have h2:Sat (C0 E q S (fun i=>U i&&M i) (fun _=>false)::Row E.CV 1 r (ints .i64 (DU F ul.length))::Z) T:=Sat.Ki.2 ⟨l,[],s1,⟨none,0,0⟩,0,⟨fun j=> ?_,fun j=>(Mr (Nat.zero_le _)).symm,by omega,by simp;omega,aC,⟨Int.le_refl _,s0⟩,fun j Y=>by omega⟩,?_⟩
   ·rw[aM];exact h2.perm (.swap _ _ _)
   ·show(U j&&M j)=tr l j;rw[v];by_cases h:j<ul.length
    ·rw[if_pos h]
    ·rw[if_neg h,y.u,Mr (by omega)];rfl
   ·-- Row s2', Cells, Row r, Row s1
    exact((aF.front 1 rfl).perm (.cons _ ((List.Perm.swap _ _ _).trans (.cons _ (.refl _))))).perm (.cons _ (by
     exact(List.perm_append_comm (l₁:=[Row E.CV 1 r (ints .i64 (DU F ul.length)),Row E.Ag 1 ⟨none,0,0⟩ (A6 [])]) (l₂:=[Row E.Ag 1 s1 (A6 l)])).append_right Z|>.trans (.cons _ (.swap _ _ _))))
theorem OK(n:Nat):Hx #[.bool false] n=⟨A6 (List.replicate n false)⟩:=by
 rw[TZ];congr 1;apply List.ext_getElem?;intro i;by_cases hi:i<n
 ·rw[Gd hi];simp[A6,hi]
 ·rw[List.getElem?_eq_none (by rw[BA];omega),List.getElem?_eq_none (by simp[A6];omega)]
instance xA(AB elem:Int):Decidable (E4 AB elem):=by unfold E4;exact inferInstance
def NI:Nat->Bool:=fun _=>false
theorem aT:(L8.all fun c=>decide (0<=c.2.2.1)&&decide (c.2.2.1<=1024))=true:=by decide+kernel
theorem WH{c:Int}(h0:0<=c)(h1:c<68):0<=(E3 c).2.2.1/\(E3 c).2.2.1<=1024:=by
 have:=List.all_eq_true.1 aT _ (List.mem_of_getElem? (NA h0 h1));simpa using this
theorem OL{page AB:Int}(h0:0<=page)(C:0<=AB){K:Bool->World->Prop}(d:K (decide (0<AB/\AB<=134217728/\page<=34359738368/\AB<=34359738368-page)) w):F.E5 E page AB K w:=by
 unfold F.E5;refine AD (fun j=>AD (fun v=>AD (fun y=> ?_) fun y=> ?_) fun v=> ?_) fun j=> ?_
 ·rw[AM (n:=34359738368-page)];have e:decide (AB<=34359738368-page)=decide (0<AB/\AB<=134217728/\page<=34359738368/\AB<=34359738368-page):=decide_eq_decide.2 ⟨fun h=>⟨j,v,y,h⟩,fun h=>h.2.2.2⟩;rw[e];exact d
 ·rw[decide_eq_false (fun h=>y h.2.2.1)]at d;exact d
 ·rw[decide_eq_false (fun h=>v h.2.1)]at d;exact d
 ·rw[decide_eq_false (fun h=>j h.1)]at d;exact d
theorem PZ{q:Nat}{S:SI}(hs:0<=S.Ar/\S.Ar<=137438953472)(H:Sat (Cells q E.CF (F7 S ⟨none,0,0⟩ ⟨none,0,0⟩ 0)::Z) w){K:World->Prop}(hK: ∀w',Sat (C0 E q S NI NI::Z) w'->K w'):
  ∃d:Int,w.cell? ((Addr.mk q 0 none).add 6)=some (.int .i64 d)/\
    ((0:Int)<=d/\(d:Int)<=d/\(d:Int)<9223372036854775808/\((1:Nat):Int)*d<=140737488355328)/\
    AL (.cells (Hx #[.bool false] (Int.toNat d*1)) E.Ag) w fun y T=>
    stCells ((Addr.mk q 0 none).add 7) 0 [.slice (some (Addr.mk y 0 none)) (Int.toNat d) (Int.toNat d)] T fun J=>
    ∃v:Int,J.cell? ((Addr.mk q 0 none).add 6)=some (.int .i64 v)/\
    ((0:Int)<=v/\(v:Int)<=v/\(v:Int)<9223372036854775808/\((1:Nat):Int)*v<=140737488355328)/\
    AL (.cells (Hx #[.bool false] (Int.toNat v*1)) E.Ag) J fun C Y=>
    stCells ((Addr.mk q 0 none).add 8) 0 [.slice (some (Addr.mk C 0 none)) (Int.toNat v) (Int.toNat v)] Y K:=by
 have hb:(0:Int)<=S.Ar/\S.Ar<=S.Ar/\S.Ar<9223372036854775808/\((1:Nat):Int)*S.Ar<=140737488355328:=⟨hs.1,Int.le_refl _,by omega,by omega⟩;have hn:(A6 (List.replicate (Int.toNat S.Ar) false)).length=Int.toNat S.Ar*1:=by simp[A6]
 refine⟨S.Ar,H.cell rfl,hb,?_⟩;rw[Nat.mul_one,OK];refine Hu (n:=Int.toNat S.Ar) (z:=1) H hn (by omega) fun y T aB=> ?_;refine Ak (aB.front 1 rfl) (o:=0) (m:=7) rfl (by simp[F7]) fun J O=>⟨S.Ar,O.cell rfl,hb,?_⟩;rw[Nat.mul_one,OK];refine Hu (n:=Int.toNat S.Ar) (z:=1) O hn (by omega) fun C Y aA=> ?_;refine Ak (aA.front 1 rfl) (o:=0) (m:=8) rfl (by simp[F7]) fun aD aC=> ?_;have tz: ∀i,NI i=tr (List.replicate (Int.toNat S.Ar) false) i:=fun i=>by
  have:=fV (l:=[]) (j:=i) (n:=Int.toNat S.Ar);rw[List.nil_append]at this;rw[this];rfl
 refine hK aD (Sat.Ki.2 ⟨List.replicate (Int.toNat S.Ar) false,List.replicate (Int.toNat S.Ar) false,⟨some ⟨y,0,none⟩,Int.toNat S.Ar,Int.toNat S.Ar⟩,⟨some ⟨C,0,none⟩,Int.toNat S.Ar,Int.toNat S.Ar⟩,0,⟨tz,tz,?_,?_,hs.2,⟨Int.le_refl _,hs.1⟩,fun i hi=>by omega⟩,?_⟩)
 ·rw[List.length_replicate];omega
 ·rw[List.length_replicate];omega
 ·exact aC.perm (.cons _ (.swap _ _ _))
theorem Rh(H:Sat Z w){page AB c:Int}{J:Bool}(h0:0<=page)(p0:0<=AB)(p1:AB<18446744073709551616){K:Option Addr->Int->World->Prop}
  (aA:E7 page AB c-> ∀w',Sat Z w'->K none 1 w')(T: ¬E7 page AB c-> ∀b w',Sat (C0 E b (IX page AB c J) NI NI::Z) w'->K (some ⟨b,0,none⟩) 0 w'):F.EP E page AB c J K w:=by
 unfold F.EP T0.EP;refine AX (fun st w'=>st.1= !decide ((0<AB/\AB<=134217728/\page<=34359738368/\AB<=34359738368-page)/\0<=c/\c<68)/\w'=w) (OL h0 p0 ?_) ?_
 ·refine F5 (AD (fun g=>AD (fun g2=>⟨?_,rfl⟩) fun g2=>⟨?_,rfl⟩) fun g=>⟨?_,rfl⟩)
  ·rw[decide_eq_false (by omega)];rfl
  ·by_cases g3:c>67
   ·rw[decide_eq_true g3,decide_eq_false (by omega)];rfl
   ·rw[decide_eq_false g3,decide_eq_true ⟨g,by omega,by omega⟩];rfl
  ·rw[decide_eq_false (fun h=>g h.1)];rfl
 rintro⟨t,u⟩ _ w3 ⟨ht,rfl⟩;dsimp only at ht⊢;subst ht;refine F5 (AD (fun g=> ?_) fun g=> ?_)
 rotate_left
 ·refine aA ?_ w3 H;unfold E7;by_cases e:c<=0∨68<=c
  ·omega
  ·have hb:=KE (c:=c) (by omega) (by omega);omega
 obtain⟨⟨g1,g2,g3,g4⟩,c0,c1⟩:=g;rw[AH (n:=AB),AH (n:=AB*8192)];refine Ad (vs:=[.int .u64 page,.int .u64 AB,.int .i64 1,.int .i64 c,.bool J,.int .i64 (AB*8192),.int .i64 1,.slice none 0 0,.slice none 0 0,.int .i64 0]) H fun b6 w7 H7 _=> ?_;have v:page*8192/8192=page:=Int.mul_ediv_cancel _ (by decide);by_cases hc:c=0
 ·refine An (Ac (decide_eq_false (by omega)) fun j=> ?_);refine PZ (S:=IX page AB c J) ?_ ?_ fun w' H'=>T (by unfold E7;omega) b6 w' H'
  ·show 0<=(if c=0 then(1:Int)else _)/\(if c=0 then(1:Int)else _)<=_;rw[if_pos hc];decide
  ·show Sat (Cells b6 E.CF [.int .u64 (page*8192/8192),.int .u64 AB,.int .i64 1,.int .i64 c,.bool J,.int .i64 (if c=0 then AB*8192 else(E3 c).1),.int .i64 (if c=0 then 1 else(E3 c).2.2.1),.slice none 0 0,.slice none 0 0,.int .i64 0]::Z) w7;rw[v,if_pos hc,if_pos hc];exact H7
 ·refine An (AV (decide_eq_true (by omega)) (WB H7 fun C aG d=> ?_));have hl:=d.IW (by decide) Av;rw[N4]at hl;obtain⟨x,hx⟩:=d.Fx (by decide) Av (i:=c.toNat) (by rw[N4];omega);have O:=NA c0 c1;have aN:=KE c0 c1;have aP:=WH c0 c1;have y:(0:Int)<=c/\c<(C.len:Nat):=⟨c0,by omega⟩;have ct: ∀{w'} {Y:List Pr},Sat (Row E.A0 4 C (Bj Hj L8)::Y) w'->w'.cell? ((Addr.mk x 0 none).add (Int.toNat c*4))=some (.int .i64 (E3 c).1)/\w'.cell? (((Addr.mk x 0 none).add (Int.toNat c*4)).add 1)=some (.int .i64 (E3 c).2.1)/\
    w'.cell? (((Addr.mk x 0 none).add (Int.toNat c*4)).add 2)=some (.int .i64 (E3 c).2.2.1):=fun h=>by
   refine⟨?_,?_,?_⟩
   ·have:=h.CD Av hx O (j:=0) rfl;rwa[Nat.add_zero]at this
   ·rw[add_add];exact h.CD Av hx O (j:=1) rfl
   ·rw[add_add];exact h.CD Av hx O (j:=2) rfl
  rw[hx];refine Aa ⟨y,_,(ct d).2.1,?_⟩;rw[AM (n:=(E3 c).2.1)];refine Cz (fun e=>aA (by unfold E7;omega) aG d.tail.tail) fun e=>Aa ⟨y,_,(ct d).1,?_⟩;refine Ak (d.front 1 rfl) (o:=0) (m:=5) rfl (by simp) fun aO aB=>Aa ⟨y,_,(ct (aB.front 1 rfl)).2.2,?_⟩;refine Ak aB (o:=0) (m:=6) rfl (by simp) fun aJ aI j=> ?_;refine PZ (S:=IX page AB c J) (Z:=Row E.A0 4 C (Bj Hj L8)::Z) ?_ ?_ fun w' H'=>T (by unfold E7;omega) b6 w' (H'.perm (.swap _ _ _)).tail
  ·show 0<=(if c=0 then(1:Int)else(E3 c).2.2.1)/\(if c=0 then(1:Int)else(E3 c).2.2.1)<=_;rw[if_neg hc];omega
  ·show Sat (Cells b6 E.CF [.int .u64 (page*8192/8192),.int .u64 AB,.int .i64 1,.int .i64 c,.bool J,.int .i64 (if c=0 then AB*8192 else(E3 c).1),.int .i64 (if c=0 then 1 else(E3 c).2.2.1),.slice none 0 0,.slice none 0 0,.int .i64 0]::Row E.A0 4 C (Bj Hj L8)::Z) aJ;rw[v,if_neg hc,if_neg hc];exact aI
theorem Ri(H:Sat Z w){page AB elem:Int}(h0:0<=page)(p0:0<=AB)(p1:AB<18446744073709551616)(T:page+AB<=34359738368∨page=0)(e1:elem<9223372036854775808){K:Option Addr->Int->World->Prop}
  (y:E4 AB elem-> ∀w',Sat Z w'->K none 1 w')(v: ¬E4 AB elem-> ∀b w',Sat (C0 E b (RQ page AB elem) NI NI::Z) w'->K (some ⟨b,0,none⟩) 0 w'):F.C6 E page AB elem K w:=by
 unfold F.C6 T0.C6;refine AX (fun st w'=>st.1= !decide (¬E4 AB elem)/\w'=w) (OL h0 p0 ?_) ?_
 ·refine F5 (AD (fun g=>AD (fun Y=>⟨?_,rfl⟩) fun Y=>⟨?_,rfl⟩) fun g=>⟨?_,rfl⟩)
  ·rw[decide_eq_false (by unfold E4;omega)];rfl
  ·rw[AH (n:=AB),AH (n:=AB*8192)];by_cases g3:elem>AB*8192
   ·rw[decide_eq_true g3,decide_eq_false (by unfold E4;omega)];rfl
   ·rw[decide_eq_false g3,decide_eq_true (by unfold E4;omega)];rfl
  ·rw[decide_eq_false (by unfold E4;omega)];rfl
 rintro⟨t,u⟩ _ w3 ⟨O,rfl⟩;dsimp only at O⊢;subst O;refine F5 (AD (fun g=> ?_) fun g=>y (Decidable.byContradiction g) w3 H);have g':=g;unfold E4 at g';have d:0<=AB*8192/elem:=Int.ediv_nonneg (by omega) (by omega);have hq:AB*8192/elem*8<=AB*8192:=Int.le_trans (Int.mul_le_mul_of_nonneg_left (show(8:Int)<=elem by omega) d) (Int.ediv_mul_le _ (by omega));have hs:Int.tdiv (AB*8192) elem=AB*8192/elem:=Int.tdiv_eq_ediv_of_nonneg (by omega);refine⟨by omega,?_⟩;rw[AH (n:=AB),AH (n:=AB*8192),hs,AH (n:=AB*8192/elem)];refine Ad (vs:=[.int .u64 page,.int .u64 AB,.int .i64 2,.int .i64 0,.bool false,.int .i64 elem,.int .i64 (AB*8192/elem),.slice none 0 0,.slice none 0 0,.int .i64 0]) H fun J C H7 _=> ?_;have j:page*8192/8192=page:=Int.mul_ediv_cancel _ (by decide);refine v g J C (Sat.Ki.2 ⟨[],[],⟨none,0,0⟩,⟨none,0,0⟩,0,⟨fun i=>(Mr (Nat.zero_le _)).symm,fun i=>(Mr (Nat.zero_le _)).symm,d,d,by show AB*8192/elem<=_;omega,⟨Int.le_refl _,d⟩,fun i hi=>by omega⟩,?_⟩);have h1:=(H7.nil E.Ag 1).nil E.Ag 1;show Sat (Cells J E.CF [.int .u64 (page*8192/8192),.int .u64 AB,.int .i64 2,.int .i64 0,.bool false,.int .i64 elem,.int .i64 (AB*8192/elem),.slice none 0 0,.slice none 0 0,.int .i64 0]::Row E.Ag 1 ⟨none,0,0⟩ []::Row E.Ag 1 ⟨none,0,0⟩ []::Z) C;rw[j];exact h1.front 2 rfl
end
end Go.Sh
set_option linter.all false
set_option maxRecDepth 8000
set_option maxHeartbeats 4000000
namespace Go.Sh
def QC(k:Int->Int)(i j:Int):Int->Int:=fun q=>if q=i then k j else if q=j then k i else k q
def JN(k:Int->Int)(a b:Int):Prop:= ∀i j,a<=i->i<j->j<b->k i<=k j
theorem OM(k:Int->Int)(i j:Int):QC k i j i=k j:=if_pos rfl
theorem ON(k:Int->Int)(i j:Int):QC k i j j=k i:=by unfold QC;by_cases e:j=i<;>simp[e]
theorem MD(k:Int->Int)(i j:Int):QC k i j=QC k j i:=by
 funext q;unfold QC;by_cases e:q=i<;>by_cases g:q=j<;>simp[e,g]
 all_goals (intros;subst_vars;first|rfl|omega)
theorem Gb{k:Int->Int}{i j q:Int}(h1:q≠i)(d:q≠j):QC k i j q=k q:=by unfold QC;rw[if_neg h1,if_neg d]
def Rj(k:Int->Int)(a i j:Int):Prop:=(∀p q,a<=p->p<q->q<=i->p≠j->q≠j->k p<=k q)/\ ∀q,j<q->q<=i->k j<=k q
theorem Rj.start{k:Int->Int}{a i:Int}(h:JN k a i):Rj k a i i:=⟨fun p q h1 d y j v=>h p q h1 d (by omega),fun q h1 d=>by omega⟩
theorem Rj.step{k:Int->Int}{a i j:Int}(h:Rj k a i j)(J:a<j)(K:j<=i)(lt:k j<k (j-1)):Rj (QC k (j-1) j) a i (j-1):=by
 refine⟨fun p q h1 d v y C=> ?_,fun q h1 d=> ?_⟩
 ·by_cases e1:p=j
  ·rw[e1,ON,Gb (by omega) (by omega)];exact h.1 _ _ (by omega) (by omega) v (by omega) (by omega)
  ·rw[Gb y e1];by_cases e2:q=j
   ·rw[e2,ON];exact h.1 _ _ h1 (by omega) (by omega) e1 (by omega)
   ·rw[Gb C e2];exact h.1 _ _ h1 d v e1 e2
 ·rw[OM];by_cases e:q=j
  ·rw[e,ON];omega
  ·rw[Gb (by omega) e];exact h.2 q (by omega) d
theorem Rj.fin{k:Int->Int}{a i j:Int}(h:Rj k a i j)(d:j=a∨k (j-1)<=k j):JN k a (i+1):=fun p q h1 v y=>by
 by_cases e1:p=j
 ·rw[e1];exact h.2 q (by omega) (by omega)
 ·by_cases e2:q=j
  ·rcases d with d|d
   ·omega
   ·by_cases e3:p=j-1
    ·rw[e2,e3];exact d
    ·have:=h.1 p (j-1) h1 (by omega) (by omega) e1 (by omega);rw[e2];omega
  ·exact h.1 p q h1 v (by omega) e1 e2
def ME(k:Int->Int)(f lo hi:Int):Prop:= ∀c,1<=c->c<hi->lo<=(c-1)/2->k (f+c)<=k (f+(c-1)/2)
def OO(k:Int->Int)(f lo hi r:Int):Prop:=(∀c,1<=c->c<hi->lo<=(c-1)/2->(c-1)/2≠r->k (f+c)<=k (f+(c-1)/2))/\
 ∀c,1<=c->c<hi->(c-1)/2=r->1<=r->lo<=(r-1)/2->k (f+c)<=k (f+(r-1)/2)
theorem OO.start{k:Int->Int}{f lo hi:Int}(h0:0<=lo)(h:ME k f (lo+1) hi):OO k f lo hi lo:=⟨fun c h1 d v j=>h c h1 d (by omega),fun c h1 d v j y=>by omega⟩
theorem OO.step{k:Int->Int}{f lo hi r c:Int}(h:OO k f lo hi r)(h0:0<=lo)(K:lo<=r)(c1:1<=c)(J:c<hi)(y:(c-1)/2=r)(hm: ∀d,1<=d->d<hi->(d-1)/2=r->k (f+d)<=k (f+c))(lt:k (f+r)<k (f+c)):
  OO (QC k (f+r) (f+c)) f lo hi c:=by
 refine⟨fun d h1 j v C=> ?_,fun d h1 j v C O=> ?_⟩
 ·by_cases e1:d=c
  ·rw[e1,y,ON,OM];omega
  ·by_cases e2:d=r
   ·rw[e2,OM,Gb (by omega) (by omega)];exact h.2 c c1 J y (by omega) (by rw[<-e2];exact v)
   ·rw[Gb (q:=f+d) (by omega) (by omega)];by_cases e3:(d-1)/2=r
    ·rw[e3,OM];exact hm d h1 j e3
    ·rw[Gb (by omega) (by omega)];exact h.1 d h1 j v e3
 ·rw[y,OM,Gb (by omega) (by omega)];have:=h.1 d h1 j (by omega) (by omega);rw[v]at this;exact this
theorem OO.fin{k:Int->Int}{f lo hi r:Int}(h:OO k f lo hi r)(hm: ∀d,1<=d->d<hi->(d-1)/2=r->k (f+d)<=k (f+r)):ME k f lo hi:=fun c h1 j v=>by
 by_cases e:(c-1)/2=r
 ·rw[e];exact hm c h1 j e
 ·exact h.1 c h1 j v e
theorem ME.max{k:Int->Int}{f hi:Int}(h:ME k f 0 hi): ∀n:Nat,∀c:Int,c.toNat<=n->0<=c->c<hi->k (f+c)<=k f
 | 0,c,hn,h0,_=>by rw[show f+c=f by omega];exact Int.le_refl _
 | n+1,c,hn,h0,h1=>by
  by_cases e:c=0
  ·rw[e,Int.add_zero];exact Int.le_refl _
  ·have d:=h c (by omega) h1 (by omega);have j:=ME.max h n ((c-1)/2) (by omega) (by omega) (by omega);omega
def el(l:List Int)(i:Int):Int:=if i<0 then 0 else l.getD i.toNat 0
def sw(l:List Int)(i j:Int):List Int:=(l.set j.toNat (el l i)).set i.toNat (el l j)
theorem LB{l:List Int}{i:Int}(h0:0<=i)(h1:i.toNat<l.length):el l i=l[i.toNat]:=by
 unfold el;rw[if_neg (by omega),List.getD_eq_getElem?_getD,List.getElem?_eq_getElem h1];rfl
theorem fW{l:List Int}{j:Int}(y:0<=j)(d:j.toNat<l.length)(v q:Int):el (l.set j.toNat v) q=if q=j then v else el l q:=by
 unfold el;by_cases e:q=j
 ·subst e;rw[if_neg (by omega),if_pos rfl,List.getD_eq_getElem?_getD,List.getElem?_set_self d];rfl
 ·rw[if_neg e];by_cases g:q<0
  ·rw[if_pos g,if_pos g]
  ·rw[if_neg g,if_neg g,List.getD_eq_getElem?_getD,List.getD_eq_getElem?_getD,List.getElem?_set_ne (by omega)]
theorem fX{l:List Int}{i j:Int}(i0:0<=i)(i1:i.toNat<l.length)(d:0<=j)(v:j.toNat<l.length)(q:Int):el (sw l i j) q=if q=i then el l j else if q=j then el l i else el l q:=by
 unfold sw;rw[fW i0 (by simpa using i1),fW d v]
def kf(key:Int->Int)(l:List Int):Int->Int:=fun i=>key (el l i)
theorem OP{key:Int->Int}{l:List Int}{i j:Int}(i0:0<=i)(i1:i.toNat<l.length)(d:0<=j)(v:j.toNat<l.length):kf key (sw l i j)=QC (kf key l) i j:=by
 funext q;unfold kf QC;rw[fX i0 i1 d v];by_cases e:q=i
 ·rw[if_pos e,if_pos e]
 ·rw[if_neg e,if_neg e];by_cases g:q=j
  ·rw[if_pos g,if_pos g]
  ·rw[if_neg g,if_neg g]
structure Mv(a b:Int)(l l':List Int):Prop where
 out: ∀i,(i<a∨b<=i)->el l' i=el l i
 GH: ∀P:Int->Prop,(∀i,a<=i->i<b->P (el l i))-> ∀i,a<=i->i<b->P (el l' i)
theorem Mv.refl(a b:Int)(l:List Int):Mv a b l l:=⟨fun _ _=>rfl,fun _ h=>h⟩
theorem Mv.trans{a b:Int}{l l1 l2:List Int}(h:Mv a b l l1)(g:Mv a b l1 l2):Mv a b l l2:=⟨fun i hi=>(g.out i hi).trans (h.out i hi),fun P d=>g.GH P (h.GH P d)⟩
theorem Mv.wide{a b d y:Int}{l l1:List Int}(h:Mv a b l l1)(J:d<=a)(T:b<=y):Mv d y l l1:=
 ⟨fun i hi=>h.out i (by omega),fun P v i h1 C=>by
  by_cases g:a<=i/\i<b
  ·exact h.GH P (fun j K O=>v j (by omega) (by omega)) i g.1 g.2
  ·rw[h.out i (by omega)];exact v i h1 C⟩
theorem Mv.sw{a b:Int}{l:List Int}{i j:Int}(h0:0<=a)(i0:a<=i)(i1:i<b)(C:a<=j)(y:j<b)(K:b<=l.length):Mv a b l (sw l i j):=
 ⟨fun q J=>by rw[fX (by omega) (by omega) (by omega) (by omega),if_neg (by omega),if_neg (by omega)],fun P d q h1 v=>by
  rw[fX (by omega) (by omega) (by omega) (by omega)];by_cases e:q=i
  ·rw[if_pos e];exact d j C y
  ·rw[if_neg e];by_cases g:q=j
   ·rw[if_pos g];exact d i i0 i1
   ·rw[if_neg g];exact d q h1 v⟩
def SO(E:Env)(s:AZ)(Z:List Pr)(l0 l:List Int)(w:World):Prop:=l.Perm l0/\Sat (Row E.CV 1 s (ints .i64 l)::Z) w
def NJ(E:Env)(cmp:Value)(s:AZ)(Z:List Pr)(key:Int->Int)(l0:List Int):Prop:= ∀x y l w (R:Value->World->Prop),x∈l0->y∈l0->SO E s Z l0 l w->(∀r w',(r<0↔key x<key y)->SO E s Z l0 l w'->R (.int .i64 r) w')->DYN E.call cmp #[.int .i64 x,.int .i64 y] w R
section
variable{E:Env}{cmp:Value}{s:AZ}{Z:List Pr}{key:Int->Int}{l0 l:List Int}{w:World}
theorem SO.drew(h:SO E s Z l0 l w):SO E s Z l0 l w.drew:=⟨h.1,h.2.drew⟩
theorem SO.len(h:SO E s Z l0 l w):l.length=s.len:=by
 have:=h.2.FH;rw[ints,List.length_map,Nat.mul_one]at this;exact this
theorem SO.at(h:SO E s Z l0 l w){i:Int}(h0:0<=i)(h1:i<s.len): ∃p,s.base=some p/\w.cell? (p.add (Int.toNat i*1))=some (.int .i64 (el l i))/\el l i∈l0:=by
 have v:=h.len;have hi:i.toNat<l.length:=by omega
 obtain⟨b,d⟩:=h.2.own.Fe (by omega);rw[LB h0 hi];refine⟨_,d,?_,h.1.mem_iff.1 (List.getElem_mem hi)⟩;have j:(ints IntKind.i64 l)[i.toNat]? =some (.int .i64 l[i.toNat]):=Iz (List.getElem?_eq_getElem hi);rw[Nat.mul_one];exact h.2.own.cell d j
theorem HB(hC:NJ E cmp s Z key l0)(C:SO E s Z l0 l w){i j:Int}(i0:0<=i)(i1:i<s.len)(O:0<=j)(K:j<s.len){R:Int->World->Prop}(hR: ∀z w',(z<0↔kf key l i<kf key l j)->SO E s Z l0 l w'->R z w'):
  NC s.base fun p=>((0:Int)<=i/\(i:Int)<(s.len:Nat))/\ ∃x:Int,w.drew.cell? (p.add (Int.toNat i*1))=some (.int .i64 x)/\
  NC s.base fun q=>((0:Int)<=j/\(j:Int)<(s.len:Nat))/\ ∃y:Int,w.drew.cell? (q.add (Int.toNat j*1))=some (.int .i64 y)/\
  DYN E.call cmp #[.int .i64 x,.int .i64 y] w.drew fun r w'=> ∃z:Int,r= .int .i64 z/\R z w':=by
 obtain⟨p,T,hx,v⟩:=C.drew.at i0 i1;obtain⟨q,d,hy,J⟩:=C.drew.at O K;rw[T]at d;cases d;rw[T];simp only[AI];exact⟨⟨i0,i1⟩,_,hx,⟨O,K⟩,_,hy,hC _ _ l _ _ v J C.drew fun r w' Y h=>⟨r,rfl,hR r w' Y h⟩⟩
theorem FQ(O:SO E s Z l0 l w){i j:Int}(i0:0<=i)(i1:i<s.len)(C:0<=j)(K:j<s.len){R:World->Prop}(hR: ∀w',SO E s Z l0 (sw l i j) w'->R w'):
  NC s.base fun p=>((0:Int)<=i/\(i:Int)<(s.len:Nat))/\ ∃x:Int,w.drew.cell? (p.add (Int.toNat i*1))=some (.int .i64 x)/\
  NC s.base fun q=>((0:Int)<=j/\(j:Int)<(s.len:Nat))/\ ∃y:Int,w.drew.cell? (q.add (Int.toNat j*1))=some (.int .i64 y)/\
  NC s.base fun p'=>((0:Int)<=j/\(j:Int)<(s.len:Nat))/\stCells (p'.add (Int.toNat j*1)) 0 [.int .i64 x] w.drew fun w1=>
  NC s.base fun Y=>((0:Int)<=i/\(i:Int)<(s.len:Nat))/\stCells (Y.add (Int.toNat i*1)) 0 [.int .i64 y] w1 fun J=>R J:=by
 have hl:=O.len;obtain⟨hp,hs⟩:=O.drew;have hi:i.toNat<l.length:=by omega
 have d:j.toNat<l.length:=by omega
 obtain⟨b,v⟩:=hs.own.Fe (by omega);have T:(ints IntKind.i64 l)[i.toNat]? =some (.int .i64 (el l i)):=by rw[LB i0 hi];exact Iz (List.getElem?_eq_getElem hi)
 have gj:(ints IntKind.i64 l)[j.toNat]? =some (.int .i64 (el l j)):=by rw[LB C d];exact Iz (List.getElem?_eq_getElem d)
 rw[v];simp only[AI,Nat.mul_one];refine⟨⟨i0,i1⟩,_,hs.own.cell v T,⟨C,K⟩,_,hs.own.cell v gj,⟨C,K⟩,?_⟩;refine Gh hs (j:=j.toNat) rfl (by rw[ints,List.length_map];exact d) v fun w1 H1=>⟨⟨i0,i1⟩,?_⟩;refine Gh H1 (j:=i.toNat) rfl (by rw[List.length_set,ints,List.length_map];exact hi) v fun J H2=> ?_;refine hR J ⟨?_,?_⟩
 ·have:((l.set j.toNat l[i.toNat]).set i.toNat l[j.toNat]).Perm l:=List.set_set_perm d hi;unfold sw;rw[LB i0 hi,LB C d];exact this.trans hp
 ·have e:ints IntKind.i64 (sw l i j)=((ints .i64 l).set j.toNat (.int .i64 (el l i))).set i.toNat (.int .i64 (el l j)):=by
   unfold ints sw;rw[List.map_set,List.map_set]
  rw[e];exact H2
variable(hC:NJ E cmp s Z key l0)(hsm:s.len<1099511627776)
include hC hsm
theorem Pp(hS:SO E s Z l0 l w){a b:Int}(a0:0<=a)(ab:a<=b)(b1:b<=s.len){K:World->Prop}(hK: ∀l' w',Mv a b l l'->JN (kf key l') a b->SO E s Z l0 l' w'->K w'):F.BT E s a b cmp K w:=by
 unfold F.BT;by_cases hab:a+1<=b
 ·rw[AH (n:=a+1)];refine AK (fun st w'=>a+1<=st.1/\st.1<=b/\ ∃l1,Mv a b l l1/\JN (kf key l1) a st.1/\SO E s Z l0 l1 w') (fun st _=>(b-st.1).toNat) ⟨Int.le_refl _,hab,l,Mv.refl _ _ _,fun i j h1 h2 h3=>by dsimp only at h3;omega,hS⟩ ?_;rintro⟨i,u⟩ _ w2 ⟨h1,h2,l1,Y,C,aB⟩;dsimp only at h1 h2 C⊢;refine AD (fun T=> ?_) fun _=>hK l1 w2 Y (by rw[show b=i by omega];exact C) aB;have aA: ∀l' w',Mv a b l l'->JN (kf key l') a (i+1)->SO E s Z l0 l' w'->(a+1<=i64 (i+1)/\i64 (i+1)<=b/\ ∃l1,Mv a b l l1/\JN (kf key l1) a (i64 (i+1))/\SO E s Z l0 l1 w')/\(b-i64 (i+1)).toNat<(b-i).toNat:=fun l' w' hM hO h=>by
   rw[AH (n:=i+1)];exact⟨⟨by omega,by omega,l',hM,hO,h⟩,by omega⟩
  refine AK (fun st w'=>a<=st.1/\st.1<=i/\ ∃l2,Mv a b l l2/\Rj (kf key l2) a i st.1/\SO E s Z l0 l2 w') (fun st _=>(st.1-a).toNat) ⟨by show a<=i;omega,Int.le_refl _,l1,Y,Rj.start C,aB⟩ ?_;rintro⟨j,u⟩ _ w5 ⟨h3,h4,l2,O,v,J⟩;dsimp only at h3 h4 v⊢;have aP:=J.len;refine AD (fun aE=> ?_) fun aK=>aA l2 _ O (v.fin (.inl (by omega))) J.drew;rw[AH (n:=j-1)];refine HB hC J (by omega) (by omega) (by omega) (by omega) fun z aL hz y=>AD (fun d=> ?_) fun d=>aA l2 _ O (v.fin (.inr (by have:=mt hz.2 d;omega))) y;exact FQ y (by omega) (by omega) (by omega) (by omega) fun aN aC=>⟨⟨by show a<=j-1;omega,by show j-1<=i;omega,_,O.trans (Mv.sw a0 (by omega) (by omega) (by omega) (by omega) (by omega)),
   by rw[OP (by omega) (by omega) (by omega) (by omega)];exact v.step aE h4 (hz.1 d),aC⟩,by show(j-1-a).toNat<(j-a).toNat;omega⟩
 ·refine AK (fun st w'=>b<=st.1/\w'=w) (fun _ _=>0) ⟨?_,rfl⟩ ?_
  ·rw[AH (n:=a+1)];omega
  ·rintro⟨i,u⟩ _ w2 ⟨h1,rfl⟩;exact AD (fun T=>by dsimp only at h1 T;omega) fun _=>hK l _ (Mv.refl _ _ _) (fun i j h1 h2 h3=>by omega) hS
theorem MF(hS:SO E s Z l0 l w){lo hi first:Int}(h0:0<=lo)(f0:0<=first)(hh:0<=hi)(h1:first+hi<=s.len)(hH:ME (kf key l) first (lo+1) hi){K:World->Prop}
  (hK: ∀l' w',Mv (first+lo) (first+hi) l l'->ME (kf key l') first lo hi->SO E s Z l0 l' w'->K w')(aB:lo<1099511627776):F.Cy E s lo hi first cmp K w:=by
 unfold F.Cy;refine AK (fun st w'=>lo<=st.1/\st.1<1099511627776/\ ∃l1,Mv (first+lo) (first+hi) l l1/\OO (kf key l1) first lo hi st.1/\SO E s Z l0 l1 w') (fun st _=>(1099511627776-st.1).toNat) ⟨Int.le_refl _,aB,l,Mv.refl _ _ _,OO.start h0 hH,hS⟩ ?_;rintro⟨root,u⟩ _ w2 ⟨r0,r1,l1,T,C,J⟩;dsimp only at r0 r1 C⊢;have aO:=J.len;refine AU fun child aA=> ?_;rw[AH (n:=2*root),AH (n:=2*root+1)]at aA;refine AD (fun aI=>hK l1 w2 T (C.fin fun d d1 d2 d3=>by omega) J) fun aJ=> ?_;refine AX (fun st w'=>root<st.1/\st.1<hi/\(st.1-1)/2=root/\(∀d,1<=d->d<hi->(d-1)/2=root->kf key l1 (first+d)<=kf key l1 (first+st.1))/\SO E s Z l0 l1 w') ?_ ?_
 ·refine An ?_;rw[AH (n:=child+1)];refine AD (fun aE=> ?_) fun aE j=>Ac rfl ⟨by show root<child;omega,by show child<hi;omega,by show(child-1)/2=root;omega,fun d d1 d2 d3=>by rw[show d=child by omega];exact Int.le_refl _,J.drew⟩;rw[AH (n:=first+child),AH (n:=first+child+1)];refine HB hC J (by omega) (by omega) (by omega) (by omega) fun z aN hz O j=>AD (fun v=>⟨by show root<child+1;omega,by show child+1<hi;omega,by show(child+1-1)/2=root;omega,fun d d1 d2 d3=> ?_,O⟩) fun v=>⟨by show root<child;omega,by show child<hi;omega,by show(child-1)/2=root;omega,fun d d1 d2 d3=> ?_,O⟩
  ·have hq:=hz.1 v;show _<=kf key l1 (first+(child+1));rw[show first+(child+1)=first+child+1 by omega];by_cases e:d=child
   ·rw[e];omega
   ·rw[show first+d=first+child+1 by omega];exact Int.le_refl _
  ·have hq:=mt hz.2 v;show _<=kf key l1 (first+child);by_cases e:d=child
   ·rw[e];exact Int.le_refl _
   ·rw[show first+d=first+child+1 by omega];omega
 ·rintro⟨c,u⟩ _ w7 ⟨c0,c1,c2,hm,aC⟩;dsimp only at c0 c1 c2 hm⊢;rw[AH (n:=first+root),AH (n:=first+c)];refine HB hC aC (by omega) (by omega) (by omega) (by omega) fun z aD hz y=>F5 (AD (fun v=> ?_) fun v=>hK l1 aD T (C.fin fun d d1 d2 d3=> ?_) y)
  ·have hl:=y.len;exact FQ y (by omega) (by omega) (by omega) (by omega) fun aG Y=>⟨⟨by show lo<=c;omega,by show c<_;omega,_,T.trans (Mv.sw (by omega) (by omega) (by omega) (by omega) (by omega) (by omega)),
    by rw[OP (by omega) (by omega) (by omega) (by omega),MD];exact C.step h0 r0 (by omega) c1 c2 hm (hz.1 v),Y⟩,by show(1099511627776-c).toNat<(1099511627776-root).toNat;omega⟩
  ·have:=mt hz.2 v;have:=hm d d1 d2 d3;omega
end
end Go.Sh
set_option linter.all false
set_option maxRecDepth 8000
set_option maxHeartbeats 4000000
namespace Go.Sh
section
variable{E:Env}{cmp:Value}{s:AZ}{Z:List Pr}{key:Int->Int}{l0 l:List Int}{w:World}
theorem Mv.below{key:Int->Int}{a b v:Int}{l l':List Int}(h:Mv a b l l')(g: ∀i,a<=i->i<b->kf key l i<=v): ∀i,a<=i->i<b->kf key l' i<=v:=h.GH (fun x=>key x<=v) g
theorem Mv.ZE{key:Int->Int}{a b v:Int}{l l':List Int}(h:Mv a b l l')(g: ∀i,a<=i->i<b->v<=kf key l i): ∀i,a<=i->i<b->v<=kf key l' i:=h.GH (fun x=>v<=key x) g
theorem Mv.same{key:Int->Int}{a b i:Int}{l l':List Int}(h:Mv a b l l')(hi:i<a∨b<=i):kf key l' i=kf key l i:=by unfold kf;rw[h.out i hi]
structure xB(k:Int->Int)(a m b:Int):Prop where
 hp:ME k a 0 (m-a)
 so:JN k m b
 up: ∀p q,a<=p->p<m->m<=q->q<b->k p<=k q
theorem xB.top{k:Int->Int}{a m b:Int}(h:xB k a m b){p:Int}(h0:a<=p)(h1:p<m):k p<=k a:=by
 have:=h.hp.max (p-a).toNat (p-a) (Nat.le_refl _) (by omega) (by omega);rwa[show a+(p-a)=p by omega]at this
theorem xB.cut{k:Int->Int}{a m b:Int}(h:xB k a m b)(j:a<m):ME (QC k a (m-1)) a 1 (m-1-a)/\JN (QC k a (m-1)) (m-1) b/\ ∀p q,a<=p->p<m-1->m-1<=q->q<b->QC k a (m-1) p<=QC k a (m-1) q:=by
 have low: ∀p,a<=p->p<m->QC k a (m-1) p<=k a:=fun p h0 h1=>by
  by_cases e:p=a
  ·rw[e,OM];exact h.top (by omega) (by omega)
  ·by_cases g:p=m-1
   ·rw[g,ON];exact Int.le_refl _
   ·rw[Gb e g];exact h.top h0 h1
 have v: ∀p q,a<=p->p<m->m<=q->q<b->QC k a (m-1) p<=QC k a (m-1) q:=fun p q h0 h1 d y=>by
  rw[Gb (q:=q) (by omega) (by omega)];have:=low p h0 h1;have:=h.up a q (Int.le_refl _) j d y;omega
 refine⟨fun c c1 c2 c3=> ?_,fun p q h0 h1 d=> ?_,fun p q h0 h1 d y=> ?_⟩
 ·rw[Gb (by omega) (by omega),Gb (by omega) (by omega)];exact h.hp c c1 (by omega) (by omega)
 ·by_cases e:p=m-1
  ·rw[e,ON];rw[Gb (by omega) (by omega)];exact h.up a q (Int.le_refl _) j (by omega) d
  ·rw[Gb (by omega) e,Gb (by omega) (by omega)];exact h.so p q (by omega) h1 d
 ·by_cases e:q=m-1
  ·rw[e,ON];exact low p h0 (by omega)
  ·exact v p q h0 (by omega) (by omega) y
def UZ(k:Int->Int)(a x y b:Int):Prop:= ∀i j,a<=i->i<j->j<b->(i<x∨y<=j)->k i<=k j
theorem UZ.mv{a x y b:Int}{l l':List Int}(h:UZ (kf key l) a x y b)(g:Mv x y l l')(Y:y<=b)(T:a<=x):UZ (kf key l') a x y b:=fun i j h0 h1 C O=>by
 by_cases e:i<x
 ·rw[g.same (i:=i) (.inl e)];by_cases d:x<=j/\j<y
  ·exact g.ZE (key:=key) (v:=kf key l i) (fun q J K=>h i q h0 (by omega) (by omega) (.inl e)) j d.1 d.2
  ·rw[g.same (i:=j) (by omega)];exact h i j h0 h1 C (.inl e)
 ·have d:y<=j:=by omega
  rw[g.same (i:=j) (.inr d)];by_cases ei:i<y
  ·exact g.below (key:=key) (v:=kf key l j) (fun q J K=>h q j (by omega) (by omega) C (.inr d)) i (by omega) ei
  ·rw[g.same (i:=i) (by omega)];exact h i j h0 h1 C (.inr d)
theorem UZ.fin{k:Int->Int}{a x y b:Int}(h:UZ k a x y b)(g:JN k x y):JN k a b:=fun i j h0 h1 d=>by
 by_cases e:i<x∨y<=j
 ·exact h i j h0 h1 d e
 ·exact g i j (by omega) h1 (by omega)
theorem UZ.left{k:Int->Int}{a x y b r:Int}(h:UZ k a x y b)(Y:x<=r)(T:r<y)(h1:JN k x r)(J: ∀i,x<=i->i<r->k i<=k r)(v: ∀i,r<i->i<y->k r<=k i):UZ k a (r+1) y b:=fun i j i0 d K C=>by
 by_cases e:i<x∨y<=j
 ·exact h i j i0 d K e
 ·by_cases e1:j<r
  ·exact h1 i j (by omega) d e1
  ·by_cases e2:i=r
   ·rw[e2];exact v j (by omega) (by omega)
   ·have O:=J i (by omega) (by omega);by_cases e3:j=r
    ·rw[e3];exact O
    ·have:=v j (by omega) (by omega);omega
theorem UZ.right{k:Int->Int}{a x y b r:Int}(h:UZ k a x y b)(Y:x<=r)(T:r<y)(h1:JN k (r+1) y)(J: ∀i,x<=i->i<r->k i<=k r)(v: ∀i,r<i->i<y->k r<=k i):UZ k a x r b:=fun i j i0 d K C=>by
 by_cases e:i<x∨y<=j
 ·exact h i j i0 d K e
 ·by_cases e1:r<i
  ·exact h1 i j (by omega) d (by omega)
  ·by_cases e2:i=r
   ·rw[e2];exact v j (by omega) (by omega)
   ·have O:=J i (by omega) (by omega);by_cases e3:j=r
    ·rw[e3];exact O
    ·have:=v j (by omega) (by omega);omega
variable(hC:NJ E cmp s Z key l0)(hsm:s.len<1099511627776)
include hC hsm
theorem Rk(hS:SO E s Z l0 l w){a b:Int}(a0:0<=a)(ab:a<b)(b1:b<=s.len){K:World->Prop}(hK: ∀l' w',Mv a b l l'->JN (kf key l') a b->SO E s Z l0 l' w'->K w'):F.A5 E s a b cmp K w:=by
 unfold F.A5 T0.A5;rw[AH (n:=b-a),AH (n:=b-a-1),Int.tdiv_eq_ediv_of_nonneg (by omega),AH (n:=(b-a-1)/2)];refine⟨by decide,AU fun i hi=> ?_⟩;refine AK (fun st w'=> -1<=st.1/\st.1<b-a/\ ∃l1,Mv a b l l1/\ME (kf key l1) a (st.1+1) (b-a)/\SO E s Z l0 l1 w') (fun st _=>(st.1+1).toNat) ⟨by show-1<=i;omega,by show i<b-a;omega,l,Mv.refl _ _ _,fun c c1 c2 c3=>by dsimp only at c3;omega,hS⟩ ?_;rintro⟨k,u⟩ _ w3 ⟨k0,k1,l1,aB,v,Y⟩;dsimp only at k0 k1 v⊢;refine AD (fun C=> ?_) fun aD=> ?_
 ·refine MF hC hsm Y C a0 (by omega) (by omega) v (fun l2 w5 y aE aH=> ?_) (by omega);rw[AH (n:=k-1)];exact⟨⟨by show-1<=k-1;omega,by show k-1<b-a;omega,l2,aB.trans (y.wide (by omega) (by omega)),by show ME _ a (k-1+1) (b-a);rw[show k-1+1=k by omega];exact aE,aH⟩,by show(k-1+1).toNat<(k+1).toNat;omega⟩
 ·have hk:k= -1:=by omega
  rw[hk]at v;refine AU fun i2 aO=> ?_;refine AK (fun st w'=> -1<=st.1/\st.1<b-a/\ ∃l1,Mv a b l l1/\xB (kf key l1) a (a+st.1+1) b/\SO E s Z l0 l1 w') (fun st _=>(st.1+1).toNat) ⟨by show-1<=i2;omega,by show i2<b-a;omega,l1,aB,?_,Y⟩ ?_
  ·refine⟨?_,fun p q h1 T h3=> ?_,fun p q h0 h1 T h3=> ?_⟩
   ·dsimp only;rw[show a+i2+1-a=b-a by omega];exact v
   ·dsimp only at h1;omega
   ·dsimp only at T;omega
  rintro⟨k,u⟩ _ w8 ⟨k0,k1,l2,y,J,O⟩;dsimp only at k0 k1 J⊢;have aN:=O.len;refine AD (fun C=> ?_) fun aD=>hK l2 w8 y (by have:=J.so;rwa[show a+k+1=a by omega]at this) O;rw[AH (n:=a+k)];refine FQ O (by omega) (by omega) (by omega) (by omega) fun aL aA=> ?_;obtain⟨c1,c2,c3⟩:=J.cut (by omega);rw[show a+k+1-1=a+k by omega]at c1 c2 c3;rw[MD,<-OP (l:=l2) (key:=key) (i:=a+k) (j:=a) (by omega) (by omega) (by omega) (by omega)]at c1 c2 c3;refine MF hC hsm aA (Int.le_refl 0) a0 C (by omega) (by rw[show a+k-a=k by omega]at c1;exact c1) (fun l3 aJ d aI aC=> ?_) (by decide);rw[AH (n:=k-1)];rw[Int.add_zero]at d;refine⟨⟨by show-1<=k-1;omega,by show k-1<b-a;omega,l3,(y.trans (Mv.sw a0 (by omega) (by omega) (by omega) (by omega) (by omega))).trans (d.wide (by omega) (by omega)),?_,aC⟩,by show(k-1+1).toNat<(k+1).toNat;omega⟩;show xB _ a (a+(k-1)+1) b;rw[show a+(k-1)+1=a+k by omega];refine⟨by rw[show a+k-a=k by omega];exact aI,fun p q h0 h1 T=> ?_,fun p q h0 h1 T h3=> ?_⟩
  ·rw[d.same (.inr (by omega)),d.same (.inr (by omega))];exact c2 p q h0 h1 T
  ·rw[d.same (i:=q) (.inr (by omega))];exact d.below (key:=key) (fun i i0 i1=>c3 i q i0 i1 T h3) p h0 h1
theorem SJ(hS:SO E s Z l0 l w){a b:Int}(a0:0<=a)(ab:a<b)(b1:b<=s.len){K:World->Prop}(O: ∀l' w',Mv a b l l'->SO E s Z l0 l' w'->K w'):F.Bc E s a b cmp K w:=by
 unfold F.Bc;rw[AH (n:=b-1)];refine AK (fun st w'=>a<=st.1/\st.2.1<b/\a<=st.2.1+1/\st.1<=b/\ ∃l1,Mv a b l l1/\SO E s Z l0 l1 w') (fun st _=>(st.2.1-st.1).toNat) ⟨Int.le_refl _,by show b-1<b;omega,by show a<=b-1+1;omega,by show a<=b;omega,l,Mv.refl _ _ _,hS⟩ ?_;rintro⟨i,j,u⟩ _ T ⟨i0,C,j0,i1,l1,v,d⟩;dsimp only at i0 C j0 i1⊢;refine AD (fun J=> ?_) fun _=>O l1 T v d;have hl:=d.len;rw[AH (n:=i+1),AH (n:=j-1)];exact FQ d (by omega) (by omega) (by omega) (by omega) fun Y y=>⟨⟨by show a<=i+1;omega,by show j-1<b;omega,by show a<=j-1+1;omega,by show i+1<=b;omega,_,v.trans (Mv.sw a0 (by omega) (by omega) (by omega) (by omega) (by omega)),y⟩,by show(j-1-(i+1)).toNat<(j-i).toNat;omega⟩
theorem LC(hS:SO E s Z l0 l w){a b:Int}(a0:0<=a)(ab:a<b)(b1:b<=s.len)(aV:0<a-> ∀i,a<=i->i<b->kf key l (a-1)<=kf key l i){K:Bool->World->Prop}
  (hK: ∀r l' w',Mv a b l l'->(r=true->JN (kf key l') a b)->SO E s Z l0 l' w'->K r w'):F.A1 E s a b cmp K w:=by
 unfold F.A1;rw[AH (n:=a+1)];refine AK (fun st w'=>a+1<=st.1/\st.1<=b/\0<=st.2.1/\st.2.1<=5/\ ∃l1,Mv a b l l1/\JN (kf key l1) a st.1/\SO E s Z l0 l1 w') (fun st _=>(5-st.2.1).toNat) ⟨Int.le_refl _,by show a+1<=b;omega,Int.le_refl 0,by show(0:Int)<=5;decide,l,Mv.refl _ _ _,fun i j h1 h2 h3=>by dsimp only at h3;omega,hS⟩ ?_;rintro⟨i,n,u⟩ _ w2 ⟨i0,i1,n0,n1,l1,Y,aX,aT⟩;dsimp only at i0 i1 n0 n1 aX⊢;have hf: ∀l' w',Mv a b l l'->SO E s Z l0 l' w'->K false w':=fun l' w' hM h=>hK false l' w' hM (fun e=>by cases e) h;refine AD (fun hn=> ?_) fun _=>hf l1 w2 Y aT;refine AX (fun st w'=>i<=st.1/\st.1<=b/\JN (kf key l1) a st.1/\SO E s Z l0 l1 w') ?_ ?_
 ·refine AK (fun st w'=>i<=st.1/\st.1<=b/\JN (kf key l1) a st.1/\SO E s Z l0 l1 w') (fun st _=>(b-st.1).toNat) ⟨Int.le_refl _,i1,aX,aT⟩ ?_;rintro⟨k,u⟩ _ w8 ⟨k0,k1,v,aU⟩;dsimp only at k0 k1 v⊢;refine AD (fun aA=> ?_) fun _=>⟨k0,k1,v,aU.drew⟩;rw[AH (n:=k-1),AH (n:=k+1)];refine HB hC aU (by omega) (by omega) (by omega) (by omega) fun z bK hz aE=>F5 (AD (fun _=>⟨k0,k1,v,aE⟩) fun y=>⟨⟨by show i<=k+1;omega,by show k+1<=b;omega,fun p q h0 h1 h2=> ?_,aE⟩,by show(b-(k+1)).toNat<(b-k).toNat;omega⟩)
  try dsimp only at h2
  have hle:=mt hz.2 y;by_cases e:q=k
  ·rw[e];by_cases g:p=k-1
   ·rw[g];omega
   ·have:=v p (k-1) h0 (by omega) (by omega);omega
  ·exact v p q h0 h1 (by omega)
 rintro⟨k,u⟩ _ w6 ⟨k0,k1,v,aB⟩;dsimp only at k0 k1 v⊢;have bL:=aB.len;refine BW (fun e=>hK true l1 w6 Y (fun _=>by rw[<-e];exact v) aB) fun bE=> ?_;rw[AH (n:=b-a)];refine AD (fun _=>hf l1 w6 Y aB) fun _=> ?_;rw[AH (n:=k-1),AH (n:=k-a),AH (n:=b-k),AH (n:=k+1),AH (n:=n+1)];have aG: ∀l' w',Mv a b l l'->JN (kf key l') a k->SO E s Z l0 l' w'->(a+1<=k/\k<=b/\0<=n+1/\n+1<=5/\ ∃l1,Mv a b l l1/\JN (kf key l1) a k/\SO E s Z l0 l1 w')/\(5-(n+1)).toNat<(5-n).toNat:=fun l' w' hM hO h=>⟨⟨by omega,by omega,by omega,by omega,l',hM,hO,h⟩,by omega⟩;have aQ: ∀l',Mv a b l l'->0<a->kf key l' (a-1)<=kf key l' a:=fun l' hM ha=>by
  rw[hM.same (i:=a-1) (.inl (by omega))];exact hM.ZE (key:=key) (aV ha) a (Int.le_refl _) ab
 refine FQ aB (by omega) (by omega) (by omega) (by omega) fun a4 C=> ?_;have aK: ∃l2,Mv a b l l2/\Rj (kf key l2) a (k-1) (k-1)/\SO E s Z l0 l2 a4:=by
  refine⟨_,Y.trans (Mv.sw a0 (by omega) (by omega) (by omega) (by omega) (by omega)),⟨fun p q h0 h1 h2 h3 h4=> ?_,fun q h0 h1=>by omega⟩,C⟩;rw[OP (by omega) (by omega) (by omega) (by omega),Gb (by omega) (by omega),Gb (by omega) (by omega)];exact v p q h0 h1 (by omega)
 clear C;obtain⟨l2,aW,a2,C⟩:=aK;refine AX (fun _ w'=> ∃d,Mv a b l d/\JN (kf key d) a k/\SO E s Z l0 d w') ?_ ?_
 ·refine AD (fun a5=> ?_) fun a5=>⟨l2,aW,fun p q h0 h1 h2=>by omega,C⟩;refine AK (fun st w'=>a<=st.1/\st.1<=k-1/\ ∃d,Mv a b l d/\Rj (kf key d) a (k-1) st.1/\SO E s Z l0 d w') (fun st _=>st.1.toNat) ⟨by show a<=k-1;omega,Int.le_refl _,l2,aW,a2,C⟩ ?_;rintro⟨j,u⟩ _ bF ⟨j0,j1,d,J,aI,T⟩;dsimp only at j0 j1 aI⊢;have hl:=T.len;have fin: ∀{w'},(j=a∨kf key d (j-1)<=kf key d j)->SO E s Z l0 d w'-> ∃d,Mv a b l d/\JN (kf key d) a k/\SO E s Z l0 d w':=fun hj h=>⟨d,J,by have:=aI.fin hj;rwa[show k-1+1=k by omega]at this,h⟩;refine AD (fun bA=> ?_) fun aA=>fin (.inl (by omega)) T;rw[AH (n:=j-1)];refine HB hC T (by omega) (by omega) (by omega) (by omega) fun z bH hz aC=>F5 (AD (fun y=> ?_) fun y=>fin (.inr (by have:=mt hz.2 y;omega)) aC);have aA:=hz.1 y;have a3:a<j:=by
   rcases Int.lt_or_eq_of_le j0 with h|h
   ·exact h
   ·subst h;have:=aQ d J (by omega);omega
  exact FQ aC (by omega) (by omega) (by omega) (by omega) fun bJ aS=>⟨⟨by show a<=j-1;omega,by show j-1<=k-1;omega,_,J.trans (Mv.sw a0 (by omega) (by omega) (by omega) (by omega) (by omega)),
   by rw[OP (by omega) (by omega) (by omega) (by omega)];exact aI.step a3 j1 aA,aS⟩,by show(j-1).toNat<j.toNat;omega⟩
 ·rintro _ _ a1 ⟨d,J,aP,aD⟩;refine AD (fun _=> ?_) fun _=>aG d a1 J aP aD;refine AK (fun st w'=>k+1<=st.1/\st.1<=b/\ ∃l4,Mv a b l l4/\JN (kf key l4) a k/\SO E s Z l0 l4 w') (fun st _=>(b-st.1).toNat) ⟨Int.le_refl _,by show k+1<=b;omega,d,J,aP,aD⟩ ?_;rintro⟨j,u⟩ _ a9 ⟨j0,j1,l4,aH,aJ,O⟩;dsimp only at j0 j1⊢;have hl:=O.len;refine AD (fun aA=> ?_) fun _=>aG l4 _ aH aJ O;rw[AH (n:=j-1),AH (n:=j+1)];refine HB hC O (by omega) (by omega) (by omega) (by omega) fun z bG hz aF=>F5 (AD (fun _=> ?_) fun _=>aG l4 _ aH aJ aF);exact FQ aF (by omega) (by omega) (by omega) (by omega) fun bB aO=>⟨⟨by show k+1<=j+1;omega,by show j+1<=b;omega,_,aH.trans (Mv.sw a0 (by omega) (by omega) (by omega) (by omega) (by omega)),fun p q h0 h1 h2=>by
   rw[OP (by omega) (by omega) (by omega) (by omega),Gb (by omega) (by omega),Gb (by omega) (by omega)];exact aJ p q h0 h1 h2,aO⟩,by show(b-(j+1)).toNat<(b-j).toNat;omega⟩
end
end Go.Sh

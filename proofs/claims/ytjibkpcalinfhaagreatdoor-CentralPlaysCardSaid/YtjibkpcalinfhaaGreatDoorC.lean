/- Records, classes and spans do what they say. No further condition. -/
import Derived.Test.YtjibkpcalinfhaaGreatDoorA
import Derived.Test.YtjibkpcalinfhaaGreatDoorM
import Derived.Test.YtjibkpcalinfhaaGreatDoorY
import Derived.Test.YtjibkpcalinfhaaGreatDoorF
import Derived.Test.YtjibkpcalinfhaaGreatDoorSh
set_option linter.all false
set_option maxRecDepth 50000
set_option maxHeartbeats 2000000
namespace Go.Sh
section
variable{α:Type}{f:α->List Value}{z:Nat}
def Ao(f:α->List Value)(L:List α):List Value:=L.flatMap f
def FK(x:α)(L:List α):Ao f (x::L)=f x++Ao f L:=by simp[Ao]
def FR(L M:List α):Ao f (L++M)=Ao f L++Ao f M:=by simp[Ao]
def De(hf: ∀x,(f x).length=z): ∀L:List α,(Ao f L).length=L.length*z
 | []=>by simp[Ao]
 | x::r=>by rw[FK,List.length_append,De hf r,hf,List.length_cons,Nat.succ_mul];omega
def Xq(hf: ∀x,(f x).length=z): ∀{L:List α} {i:Nat} {x:α} {j:Nat} {v:Value},L[i]? =some x->(f x)[j]? =some v->(Ao f L)[i*z+j]? =some v
 | y::r,0,x,j,v,h,hj=>by
  have h:y=x:=Option.some.inj h;subst h;have:=(List.getElem?_eq_some_iff.1 hj).1;rw[FK,Nat.zero_mul,Nat.zero_add,List.getElem?_append_left this];exact hj
 | y::r,i+1,x,j,v,h,hj=>by
  rw[FK,Nat.succ_mul,List.getElem?_append_right (by grind),hf,show i*z+z+j-z=i*z+j by omega];exact Xq hf (L:=r) h hj
def VB(hf: ∀x,(f x).length=z): ∀(L:List α) (i:Nat),(Ao f L).take (i*z)=Ao f (L.take i)
 | [],i=>by simp[Ao]
 | y::r,0=>by simp[Ao]
 | y::r,i+1=>by
  rw[FK,List.take_succ_cons,FK,List.take_append,hf,List.take_of_length_le (by grind),Nat.succ_mul,show i*z+z-z=i*z by omega,VB hf r i]
def VC(hf: ∀x,(f x).length=z): ∀(L:List α) (i:Nat),(Ao f L).drop (i*z)=Ao f (L.drop i)
 | [],i=>by simp[Ao]
 | y::r,0=>by simp
 | y::r,i+1=>by
  rw[FK,List.drop_succ_cons,List.drop_append,hf,List.drop_eq_nil_iff.2 (by grind),List.nil_append,Nat.succ_mul,show i*z+z-z=i*z by omega,VC hf r i]
def HE(j: ∀x,∀v∈f x,v.oneCell'=true)(L:List α): ∀v∈Ao f L,v.oneCell'=true:=by
 intro v d;simp only[Ao,List.mem_flatMap]at d
 grind
def IV(hf: ∀x,(f x).length=z): ∀{L:List α} {i:Nat} {x y:α} {j:Nat} {v:Value},L[i]? =some x->j<z->(f x).set j v=f y->(Ao f L).set (i*z+j) v=Ao f (L.set i y)
 | c::r,0,x,y,j,v,h,hj,he=>by
  have h:c=x:=Option.some.inj h;subst h;rw[FK,Nat.zero_mul,Nat.zero_add,List.set_append_left _ _ (by rw[hf];exact hj),he,List.set_cons_zero,FK]
 | c::r,i+1,x,y,j,v,h,hj,he=>by
  rw[FK,List.set_cons_succ,FK,Nat.succ_mul,List.set_append_right _ _ (by grind),hf,show i*z+z+j-z=i*z+j by omega,IV hf (L:=r) h hj he]
def Xr(hf: ∀x,(f x).length=z): ∀{L:List α} {i:Nat} {y:α},i<L.length->(Ao f L).take (i*z)++f y++(Ao f L).drop (i*z+z)=Ao f (L.set i y)
 | c::r,0,y,h=>by
  rw[FK,Nat.zero_mul,Nat.zero_add,List.set_cons_zero,FK,List.take_zero,List.nil_append,List.drop_append,hf,List.drop_eq_nil_iff.2 (by rw[hf];omega),Nat.sub_self,List.drop_zero,List.nil_append]
 | c::r,i+1,y,h=>by
  have d:=Xr hf (L:=r) (i:=i) (y:=y) (by simpa using h);rw[FK,List.set_cons_succ,FK,<-d,Nat.succ_mul,List.take_append,List.drop_append,hf,List.take_of_length_le (by grind),List.drop_eq_nil_iff.2 (by grind),List.nil_append,show i*z+z-z=i*z by omega,show i*z+z+z-z=i*z+z by omega]
  grind
def pos(key:α->Int):List α->Int->Nat
 | [],_=>0
 | c::r,n=>if key c<n then pos key r n+1 else 0
def IW(key:α->Int)(L:List α):Prop:=L.Pairwise λa b=>key a<key b
variable{key:α->Int}
def MP: ∀(L:List α) (n:Int),pos key L n<=L.length
 | [],_=>Nat.le_refl _
 | c::r,n=>by simp only[pos];split;exact Nat.succ_le_succ (MP r n);omega
def Gv: ∀{L:List α} {n:Int} {j:Nat} {c:α},L[j]? =some c->j<pos key L n->key c<n
 | c::r,n,0,x,h,hj=>by
  have h:c=x:=Option.some.inj h;subst h;simp only[pos]at hj;grind
 | c::r,n,j+1,x,h,hj=>by
  simp only[pos]at hj;split at hj
  .exact Gv (L:=r) h (by omega)
  .omega
def pos_at: ∀{L:List α} {n:Int} {c:α},L[pos key L n]? =some c->n<=key c
 | c::r,n,x,h=>by
  simp only[pos]at h;split at h
  .exact pos_at (L:=r) h
  .have h:c=x:=Option.some.inj h
   grind
def IW.lt{L:List α}(hs:IW key L){i j:Nat}{a b:α}(d:L[i]? =some a)(v:L[j]? =some b)(h:i<j):key a<key b:=by
 have h1:=(List.getElem?_eq_some_iff.1 d);have h2:=(List.getElem?_eq_some_iff.1 v);have:=List.pairwise_iff_getElem.1 hs i j h1.1 h2.1 h
 grind
def Qg{L:List α}(hs:IW key L){n:Int}{j:Nat}{c:α}(h:L[j]? =some c)(v:pos key L n<=j):n<=key c:=by
 have y:=(List.getElem?_eq_some_iff.1 h).1;have d:=List.getElem?_eq_getElem (show pos key L n<L.length by omega);have h1:=pos_at d;rcases Nat.lt_or_eq_of_le v with h2|h2
 .have:=hs.lt d h h2;omega
 grind
def MQ{L:List α}(hs:IW key L){n:Int}{c:α}(y:c∈L)(K:key c=n):L[pos key L n]? =some c:=by
 obtain⟨j,d⟩:=List.mem_iff_getElem?.1 y;rcases Nat.lt_or_ge j (pos key L n)with h|h
 .have:=Gv d h;omega
 .have J:=(List.getElem?_eq_some_iff.1 d).1;rcases Nat.lt_or_eq_of_le h with h2|h2
  .have v:=List.getElem?_eq_getElem (show pos key L n<L.length by omega);have:=pos_at v;have C:=hs.lt v d h2;omega
  grind
def Ta{L:List α}(hs:IW key L){n:Int}{i:Nat}(v:i<=L.length)(h1: ∀(j:Nat) c,L[j]? =some c->j<i->key c<n)(h2: ∀(j:Nat) c,L[j]? =some c->i<=j->n<=key c):i=pos key L n:=by
 have hp:=MP (key:=key) L n;rcases Nat.lt_trichotomy i (pos key L n)with h|h|h
 .have d:=List.getElem?_eq_getElem (show i<L.length by omega);have:=h2 i _ d (Nat.le_refl _);have:=Gv d h;omega
 .exact h
 .have d:=List.getElem?_eq_getElem (show pos key L n<L.length by omega);have:=h1 _ _ d h;have:=pos_at d;omega
def IW.take{L:List α}(hs:IW key L)(i:Nat):IW key (L.take i):=List.Pairwise.sublist (List.take_sublist _ _) hs
def IW.drop{L:List α}(hs:IW key L)(i:Nat):IW key (L.drop i):=List.Pairwise.sublist (List.drop_sublist _ _) hs
def IW.filter{L:List α}(hs:IW key L)(p:α->Bool):IW key (L.filter p):=List.Pairwise.sublist List.filter_sublist hs
def IW.inj{L:List α}(hs:IW key L){a b:α}(d:a∈L)(j:b∈L)(h:key a=key b):a=b:=by
 have h1:=MQ hs d rfl;have h2:=MQ hs j h.symm
 grind
def Kb{L:List α}{n:Int}{c:α}(v:c∈L.take (pos key L n)):c∈L/\key c<n:=by
 obtain⟨j,d⟩:=List.mem_iff_getElem?.1 v;rw[List.getElem?_take]at d;split at d
 .rename_i h;exact⟨List.mem_of_getElem? d,Gv d h⟩
 .cases d
def Kc{L:List α}(hs:IW key L){n:Int}{c:α}(v:c∈L.drop (pos key L n)):c∈L/\n<=key c:=by
 obtain⟨j,d⟩:=List.mem_iff_getElem?.1 v;rw[List.getElem?_drop]at d;exact⟨List.mem_of_getElem? d,Qg hs d (by omega)⟩
def fY{L:List α}{n:Int}{c:α}(hs:IW key L)(d:c∈L)(h:key c<n):c∈L.take (pos key L n):=by
 rw[<-List.take_append_drop (pos key L n) L]at d;rcases List.mem_append.1 d with h1|h1
 .exact h1
 .have:=(Kc hs h1).2;omega
def fZ{L:List α}{n:Int}{c:α}(d:c∈L)(h:n<=key c):c∈L.drop (pos key L n):=by
 rw[<-List.take_append_drop (pos key L n) L]at d;rcases List.mem_append.1 d with h1|h1
 .have:=(Kb h1).2;omega
 .exact h1
def IW.gA{L M N:List α}(j:IW key L)(v:IW key M)(C:IW key N){a b:Int}(J:a<=b)(h1: ∀c∈L,key c<a)(h2: ∀c∈M,a<=key c/\key c<b)(O: ∀c∈N,b<=key c):IW key (L++M++N):=by
 unfold IW;rw[List.append_assoc,List.pairwise_append,List.pairwise_append];refine⟨j,⟨v,C,λx d y K=> ?_⟩,λx d y K=> ?_⟩
 .have:=(h2 x d).2;grind
 .have:=h1 x d
  grind
def IW.KV: ∀{L:List α} (hs:IW key L) {a b:Int},a<=b->(∀c∈L,a<=key c/\key c<b)->(L.length:Int)<=b-a
 | [],_,a,b,h,_=>by simp;omega
 | c::r,hs,a,b,h,hc=>by
  have h1:=hc c (by simp);have h2:IW key r:=(List.pairwise_cons.1 hs).2;have:=IW.KV h2 (a:=key c+1) (b:=b) (by omega) λd hd=>⟨by have:=(List.pairwise_cons.1 hs).1 d hd;omega,(hc d (by simp[hd])).2⟩
  grind
def lC{L:List α}(hs:IW key L)(n:Int):pos key L (n+1)=pos key L n+(if ∃c∈L,key c=n then 1 else 0):=by
 symm
 have hp:=MP (key:=key) L n;by_cases e: ∃c∈L,key c=n
 .rw[if_pos e];obtain⟨c,y,he⟩:=e;have h1:=MQ hs y he;have h2:=(List.getElem?_eq_some_iff.1 h1).1;refine Ta hs (by omega) (λj d hd v=> ?_) λj d hd v=> ?_
  .rcases Nat.lt_or_eq_of_le (Nat.le_of_lt_succ v)with g|g
   .have:=Gv hd g;omega
   .subst g;rw[h1]at hd;cases hd;omega
  .have:=hs.lt h1 hd (by omega);omega
 .rw[if_neg e];refine Ta hs (by omega) (λj d hd v=> ?_) λj d hd v=> ?_
  .have:=Gv hd v;omega
  .have:=Qg hs hd v
   grind
def dD{L:List α}(hs:IW key L){l:Iv}(d:Ok l)(hm: ∀p,mem l p↔ ∃c∈L,key c=p)(a:Int): ∀n:Nat,((pos key L (a+n):Nat):Int)=pos key L a+cnt l a (a+n)
 | 0=>by
  rw[show a+((0:Nat):Int)=a by omega];have:=(Dn d (Int.le_refl a)).2 λn h1 h2=>by omega
  omega
 | n+1=>by
  have v:=dD hs d hm a n;rw[show a+((n+1:Nat):Int)=a+n+1 by omega,lC hs];have j:=JI d (a:=a) (k:=a+n) (by omega)
  grind
end
section
variable{α:Type}{f:α->List Value}{z t:Nat}{F:List Pr}{w:World}{s:AX}{L:List α}
def Sat.F9(hz:0<z)(hf: ∀x,(f x).length=z)(H:Sat (Row t z s (Ao f L)::F) w):L.length=s.len/\s.len<=s.cap/\s.cap<9223372036854775808:=by
 have h:=H.C1;rw[De hf]at h;exact⟨Nat.eq_of_mul_eq_mul_right hz h,H.own.cap,H.own.top⟩
def Sat.FZ(hz:0<z)(hf: ∀x,(f x).length=z)(H:Sat (Row t z s (Ao f L)::F) w){i:Nat}(d:i<L.length): ∃b,s.base=some ⟨b,0,none⟩:=
 H.own.Ep (by have:=H.F9 hz hf;omega)
def Sat.Bu(hf: ∀x,(f x).length=z)(H:Sat (Row t z s (Ao f L)::F) w){a:Addr}(d:s.base=some a){i:Nat}{x:α}(y:L[i]? =some x){j:Nat}{v:Value}(C:(f x)[j]? =some v):w.cell? (a.add (i*z+j))=some v:=
 H.own.cell d (Xq hf y C)
def SN: ∀(news:List Value) {vs:List Value} {w:World} (o i:Nat),Sat (Row t z s vs::F) w->o+i+news.length<=vs.length->(∀v∈news,v.oneCell'=true)-> ∀{a:Addr},s.base=some a-> ∀{K:World->Prop},
  (∀w',Sat (Row t z s (vs.take (o+i)++news++vs.drop (o+i+news.length))::F) w'->K w')->stCells (a.add o) i news w K
 | [],vs,w,o,i,H,hl,ho,a,ha,K,hK=>by
  refine hK w ?_;simpa using H
 | v::r,vs,w,o,i,H,hl,ho,a,ha,K,hK=>by
  have d:o+i<vs.length:=by grind
  have h1:=Gp H (j:=o+i) (v:=v) (ho v (by simp)) d ha (K:=λw'=>stCells (a.add o) (i+1) r w' K) λw' C=>SN r o (i+1) C (by grind) (λu hu=>ho u (by simp[hu])) ha λy J=>hK y ?_
  .simp only[stCells,add_zero]at h1⊢;rw[add_add];exact h1
  .have:(vs.set (o+i) v).take (o+(i+1))++r++(vs.set (o+i) v).drop (o+(i+1)+r.length)=vs.take (o+i)++(v::r)++vs.drop (o+i+(v::r).length):=by
    rw[show o+(i+1)=o+i+1 from by omega,List.take_set,List.take_succ_eq_append_getElem d,List.set_append_right _ _ (by simp;omega)];simp only[List.length_take,Nat.min_eq_left (Nat.le_of_lt d),Nat.sub_self,List.set_cons_zero,List.append_assoc,List.singleton_append,List.length_cons,List.cons_append];congr 2;rw[List.drop_set_of_lt (by omega),show o+i+1+r.length=o+i+(r.length+1)from by omega];simp
   grind
def vA(hf: ∀x,(f x).length=z)(O: ∀x,∀v∈f x,v.oneCell'=true)(H:Sat (Row t z s (Ao f L)::F) w){i:Nat}(j:i<L.length)(y:α){a:Addr}(J:s.base=some a){K:World->Prop}
  (C: ∀w',Sat (Row t z s (Ao f (L.set i y))::F) w'->K w'):stCells (a.add (i*z)) 0 (f y) w K:=by
 have hle:i*z+z<=L.length*z:=by rw[<-Nat.succ_mul];exact Nat.mul_le_mul_right _ j
 refine SN (f y) (i*z) 0 H (by rw[De hf,hf];omega) (O y) J λw' d=>C w' ?_;rw[Nat.add_zero,hf,Xr hf j]at d;exact d
def Sat.Nx(hz:0<z)(hf: ∀x,(f x).length=z)(H:Sat (Row t z s (Ao f L)::F) w){i:Nat}(d:i<=L.length):rowAt w (GN s.base s.cap 0 z) (i*z) (Ao f (L.take i)):=by
 have j:=H.F9 hz hf;rw[Ll];have:=Kr H.JJ (m:=i*z) (Nat.mul_le_mul_right _ (by omega)) H.C1;rwa[VB hf]at this
def Sat.Ny(hz:0<z)(hf: ∀x,(f x).length=z)(H:Sat (Row t z s (Ao f L)::F) w){i:Nat}(j:i<=L.length):rowAt w (GN s.base s.cap i z) ((s.len-i)*z) (Ao f (L.drop i)):=by
 have d:=H.F9 hz hf;have:=Ip (z:=z) H.JJ rfl (k:=i) (by omega) d.2.1 H.C1;rwa[VC hf]at this
def bsearch{key:α->Int}{c o:Nat}(hz:0<z)(hf: ∀x,(f x).length=z)(hk: ∀x,(f x)[0]? =some (.int .u64 (key x)))(hs:IW key L)(H:Sat (Row t z s (Ao f L)::F) w)
  (hc:w.cell? ((Addr.mk c 0 none).add o)=some (.slice s.base s.len s.cap))(hlen:s.len<4611686018427387904)(n:Int){K:(Int×Int×Unit)->World->Prop}(hK: ∀st:Int×Int×Unit,st.1=(pos key L n:Nat)->K st w):
  Az (Int×Int×Unit) (0,((s.len:Nat):Int),()) w λs3 _ T C=>
  CND (decide ((s3.1:Int)<s3.2.1)) (
   2≠(0:Int)/\
   HX (i64 (Int.tdiv (i64 (s3.1+s3.2.1)) 2):Int) λd=>
   NC (some (Addr.mk c 0 none)) λp7=>
   ∃x8:AX,T.cell? (p7.add o)=some (.slice x8.base x8.len x8.cap)/\
   NC x8.base λp9=>
   ((0:Int)<=d/\(d:Int)<(x8.len:Nat))/\
   ∃Y:Int,T.cell? (p9.add (Int.toNat d*z))=some (.int .u64 Y)/\
   CND (decide ((Y:Int)<n)) (
    C (i64 (d+1),s3.2.1,()) T
   ) (
    C (s3.1,d,()) T
   )
  ) (K s3 T):=by
 have hL:=H.F9 hz hf;refine AI (λst w'=>w'=w/\0<=st.1/\st.1<=st.2.1/\st.2.1<=s.len/\(∀(j:Nat) x,L[j]? =some x->(j:Int)<st.1->key x<n)/\(∀(j:Nat) x,L[j]? =some x->st.2.1<=(j:Int)->n<=key x)) (λst _=>(st.2.1-st.1).toNat)
  ⟨rfl,Int.le_refl _,Int.natCast_nonneg _,Int.le_refl _,λj x _ h=>by dsimp only at h;omega,λj x J h=>by have:=(List.getElem?_eq_some_iff.1 J).1;grind⟩ ?_
 rintro⟨lo,hi,v⟩ _ w' ⟨rfl,h0,h1,h2,h3,h4⟩;dsimp only at h0 h1 h2 h3 h4⊢;refine AB (λaK=>⟨by decide,AY λgA O=> ?_⟩) λaJ=>hK _ ?_
 .rw[AF (n:=lo+hi),Int.tdiv_eq_ediv_of_nonneg (by omega),AF (n:=(lo+hi)/2)]at O;obtain⟨x,J⟩: ∃x,L[gA.toNat]? =some x:=⟨_,List.getElem?_eq_getElem (by omega)⟩;obtain⟨b,hb⟩:=H.FZ hz hf (i:=gA.toNat) (by omega);simp only[AG];refine⟨s,hc,?_⟩;have Cr:=H.Bu hf hb J (hk x);rw[hb];refine⟨⟨by omega,by omega⟩,key x,by omega,AB (λg=> ?_) λg=> ?_⟩
  .rw[AF (n:=gA+1)];refine⟨⟨by trivial,by omega,by omega,by omega,λj y hy hj=> ?_,h4⟩,by omega⟩;rcases Int.lt_or_le (j:Int) gA with q|q
   .have:=hs.lt hy J (by omega);omega
   .have:gA.toNat=j:=by omega
    grind
  .refine⟨⟨by trivial,by omega,by omega,by omega,h3,λj y hy hj=> ?_⟩,by omega⟩;rcases Int.lt_or_le gA (j:Int)with q|q
   .have:=hs.lt J hy (by omega);omega
   .have:gA.toNat=j:=by omega
    grind
 .have:=Ta hs (n:=n) (i:=lo.toNat) (by omega) (λj x J hj=>h3 j x J (by omega)) λj x J hj=>h4 j x J (by omega);omega
end
structure FX where
 n:Nat
 bk:List Nat
def afterL:List Nat->Nat->Option Nat
 | [],_=>none
 | a::r,i=>if a=i then r.head? else afterL r i
def Tb(R:Nat->Nat)(x:Option Nat):Option Addr:=x.map λi=>⟨R i,0,none⟩
def recC(E:Env)(R:Nat->Nat)(bk:List Nat)(i:Nat):Pr:=Cells (R i) E.GD [.int .i64 ((i:Int)+1),.bool (!bk.contains i),.pointer (Tb R (afterL bk i))]
structure Xs(X:FX):Prop where
 nd:X.bk.Nodup
 lt: ∀i∈X.bk,i<X.n
 KV:X.n<=1099511627776
def lD(E:Env)(b:Nat)(X:FX)(s:AX)(R:Nat->Nat)(c:Int):List Pr:=
 [Cells b E.Km [.int .i64 1,FJ s,.pointer (Tb R X.bk.head?),.int .i64 c],Row E.Fb 1 s ((List.range X.n).map λi=>.pointer (some ⟨R i,0,none⟩)),Aa (recC E R X.bk) (List.range X.n)]
def GW(E:Env)(b:Nat)(X:FX):Pr:=Ex λx:AX×(Nat->Nat)×Int=>Jj (Xs X) (Lo (lD E b X x.1 x.2.1 x.2.2))
section
variable{E:Env}{b:Nat}{X:FX}{Z:List Pr}{w:World}{s:AX}{R:Nat->Nat}{c:Int}
def Sat.fix:Sat (GW E b X::Z) w↔ ∃s R c,Xs X/\Sat (lD E b X s R c++Z) w:=by
 unfold GW;rw[Sat.ex];constructor
 .rintro⟨⟨s,R,c⟩,h⟩;rw[Sat.where,Sat.star]at h
  grind
 .rintro⟨s,R,c,h1,h2⟩;refine⟨⟨s,R,c⟩,?_⟩;rw[Sat.where,Sat.star]
  grind
def gB(H:Sat Z w){K:Option Addr->Int->World->Prop}(v: ∀b w',Sat (GW E b ⟨0,[]⟩::Z) w'->K (some ⟨b,0,none⟩) 0 w'):F.SK E 1 K w:=by
 unfold F.SK;refine AU (AP (by decide) λj=>AP (by decide) ?_);refine AO (vs:=[.int .i64 1,.slice none 0 0,.pointer none,.int .i64 0]) H λb w' d _=>v b w' (Sat.fix.2 ⟨⟨none,0,0⟩,λ_=>0,0,⟨.nil,λi h=>(by cases h),by decide⟩,?_⟩);have h1:=d.nil E.Fb 1;have h2:Sat (Aa (recC E (λ_=>0) []) []::_) w':=h1.LH (recC E (λ_=>0) []);exact h2.perm ((List.reverse_perm [_,_,_]).symm.append_right Z)
def VD{l:List Nat}{i:Nat}(h:i∉l):afterL l i=none:=by
 induction l with
 | nil=>rfl
 | cons a r ih=>
  unfold afterL
  grind
def Tc{n a x:Nat}(v:a<n)(j:x∈(List.range n).eraseIdx a):x≠a:=by
 obtain⟨i,d⟩:=List.mem_iff_getElem?.1 j;rw[List.getElem?_eraseIdx]at d;split at d
 .rename_i h;rw[List.getElem?_range (by omega)]at d;cases d;omega
 .rename_i h;have y:=(List.getElem?_eq_some_iff.1 d).1
  grind
def Zw(H:Sat (GW E b X::Z) w)(aV:X.n<1099511627776){K:Int->World->Prop}
  (aO:X.bk=[]-> ∀w',Sat (GW E b ⟨X.n+1,[]⟩::Z) w'->K ((X.n:Int)+1) w')
  (aP: ∀a r,X.bk=a::r-> ∀w',Sat (GW E b ⟨X.n,r⟩::Z) w'->K ((a:Int)+1) w'):F.Ka E (some ⟨b,0,none⟩) K w:=by
 obtain⟨s,R,c,hI,H⟩:=Sat.fix.1 H;unfold F.Ka;simp only[AG];refine⟨_,H.cell rfl,?_⟩;cases hb:X.bk with
 | nil=>
  unfold lD at H;rw[hb]at H;have hl:=(H.front 1 rfl).C1;rw[List.length_map,List.length_range,Nat.mul_one]at hl;refine AU (AR rfl ⟨s,H.cell rfl,?_⟩);rw[AF (n:=((s.len:Nat):Int)+1),<-hl];refine AO (vs:=[.int .i64 ((X.n:Int)+1),.bool false,.pointer none]) H λd w9 H9 _=>⟨s,(H9.front 1 rfl).cell rfl,?_⟩;refine AO (vs:=[.pointer (some ⟨d,0,none⟩)]) H9 λa0 a4 aD _=> ?_;refine Er (news:=[.pointer (some ⟨d,0,none⟩)]) (aD.EM 2 rfl) rfl rfl (by intro v hv;simp at hv;subst hv;rfl) (by omega) (by omega) λOA a5 aE _=> ?_;refine Ab (aE.front 2 rfl) (o:=0) (m:=1) rfl (by simp) λa6 aF j=> ?_;simp only[AG];have aG:=aF.front 2 rfl;refine Ab aG (o:=0) (m:=1) rfl (by simp) λaR Y=>Ab Y (o:=0) (m:=2) rfl (by simp) λaS aA=> ?_;have y:=aA.front 1 rfl;refine⟨_,y.cell rfl,Ab y (o:=0) (m:=3) rfl (by simp) λJ C=>⟨_,(C.front 1 rfl).Af rfl,aO hb J ?_⟩⟩;refine Sat.fix.2 ⟨OA,λi=>if i=X.n then d else R i,i64 (c+1),⟨.nil,λi h=>(by cases h),by grind⟩,?_⟩;have e1:(List.range (X.n+1)).map (λi=>Value.pointer (some ⟨(if i=X.n then d else R i),0,none⟩))=((List.range X.n).map λi=>Value.pointer (some ⟨R i,0,none⟩))++[.pointer (some ⟨d,0,none⟩)]:=by
   rw[List.range_succ,List.map_append];congr 1
   .refine List.map_congr_left λi hi=> ?_
    grind
   .simp
  have e2:Aa (recC E R []) (List.range X.n)=Aa (recC E (λi=>if i=X.n then d else R i) []) (List.range X.n):=Aa.congr λx hx=>by
   have:=List.mem_range.1 hx;show recC E R [] x=Cells (if x=X.n then d else R x) _ _;rw[if_neg (by omega)];rfl
  have e3:recC E (λi=>if i=X.n then d else R i) [] X.n=Cells d E.GD [.int .i64 ((X.n:Int)+1),.bool true,.pointer none]:=by
   show Cells (if X.n=X.n then d else R X.n) _ _=_;rw[if_pos rfl];rfl
  have O:=(C.front 3 rfl).EM 1 rfl|>λh=>h.perm (.swap _ _ _);have aB:Sat (recC E (λi=>if i=X.n then d else R i) [] X.n::Aa (recC E (λi=>if i=X.n then d else R i) []) (List.range X.n)::Cells b E.Km [.int .i64 1,FJ OA,.pointer none,.int .i64 (i64 (c+1))]::Row E.Fb 1 OA (((List.range X.n).map λi=>Value.pointer (some ⟨R i,0,none⟩))++[.pointer (some ⟨d,0,none⟩)])::Z) J:=by
   rw[e3,<-e2];exact O
  have T:=aB.S7;rw[<-List.range_succ]at T;unfold lD;rw[e1];exact T.perm (by
   have: ∀(a b c:Pr),(a::b::c::Z).Perm (b::c::a::Z):=λa b c=>(List.perm_middle (l₁:=[b,c]) (a:=a)).symm;exact this _ _ _)
 | cons a r=>
  unfold lD at H;rw[hb]at H;have ha:a<X.n:=hI.lt a (by rw[hb];simp);have aC:=hI.nd;rw[hb]at aC;have aN:a∉r:=(List.nodup_cons.1 aC).1;have hg:(List.range X.n)[a]? =some a:=List.getElem?_range ha;have H2:=(H.front 2 rfl).F0 hg;have e0:Tb R (afterL (a::r) a)=Tb R r.head?:=by unfold afterL;grind
  have aK:recC E R (a::r) a=Cells (R a) E.GD [.int .i64 ((a:Int)+1),.bool (!(a::r).contains a),.pointer (Tb R r.head?)]:=by unfold recC;rw[e0]
  rw[aK]at H2;refine AU (AP rfl ?_);show NC (some (Addr.mk (R a) 0 none)) _;simp only[AG];refine⟨_,H2.cell rfl,Ab (H2.front 2 rfl) (o:=0) (m:=2) rfl (by simp) λa7 aI j=> ?_⟩;show NC (some (Addr.mk (R a) 0 none)) _;simp only[AG];have aJ:=aI.front 1 rfl;refine Ab aJ (o:=0) (m:=1) rfl (by simp) λaR Y=> ?_;show NC (some (Addr.mk (R a) 0 none)) _;simp only[AG];refine Ab Y (o:=0) (m:=2) rfl (by simp) λaS aA=> ?_;have y:=aA.front 1 rfl;refine⟨_,y.cell rfl,Ab y (o:=0) (m:=3) rfl (by simp) λJ C=> ?_⟩;show NC (some (Addr.mk (R a) 0 none)) _;simp only[AG];refine⟨_,(C.front 1 rfl).Af rfl,aP a r hb J ?_⟩;refine Sat.fix.2 ⟨s,R,i64 (c+1),⟨(List.nodup_cons.1 aC).2,λi hi=>hI.lt i (by rw[hb];simp[hi]),hI.KV⟩,?_⟩;have e3:recC E R r a=Cells (R a) E.GD [.int .i64 ((a:Int)+1),.bool true,.pointer none]:=by
   unfold recC;rw[VD aN];have:r.contains a=false:=by grind
   rw[this];rfl
  have e2:Aa (recC E R (a::r)) ((List.range X.n).eraseIdx a)=Aa (recC E R r) ((List.range X.n).eraseIdx a):=Aa.congr λx hx=>by
   have a3:=Tc ha hx;unfold recC;have h1:(a::r).contains x=r.contains x:=by grind
   have h2:afterL (a::r) x=afterL r x:=by
    show(if a=x then r.head? else afterL r x)=_
    grind
   rw[h1,h2]
  have O:=(C.front 1 rfl).EM 1 rfl;rw[e2]at O;have aB:Sat (recC E R r a::Aa (recC E R r) ((List.range X.n).eraseIdx a)::Cells b E.Km [.int .i64 1,FJ s,.pointer (Tb R r.head?),.int .i64 (i64 (c+1))]::Row E.Fb 1 s ((List.range X.n).map λi=>.pointer (some ⟨R i,0,none⟩))::Z) J:=by
   rw[e3];exact O
  have T:=aB.G5 hg;exact T.perm (by
   have: ∀(a b c:Pr),(a::b::c::Z).Perm (b::c::a::Z):=λa b c=>(List.perm_middle (l₁:=[b,c]) (a:=a)).symm;exact this _ _ _)
def Zx(H:Sat (GW E b X::Z) w){a:Nat}(ha:a<X.n)(y:a∉X.bk){K:Int->World->Prop}(hK: ∀w',Sat (GW E b ⟨X.n,a::X.bk⟩::Z) w'->K 0 w'):F.GJ E (some ⟨b,0,none⟩) ((a:Int)+1) K w:=by
 obtain⟨s,R,c,hI,H⟩:=Sat.fix.1 H;have aG:=hI.KV;have hl:=(H.front 1 rfl).C1;rw[List.length_map,List.length_range,Nat.mul_one]at hl;have hg:(List.range X.n)[a]? =some a:=List.getElem?_range ha;have aE:((List.range X.n).map λi=>Value.pointer (some ⟨R i,0,none⟩))[a]? =some (.pointer (some ⟨R a,0,none⟩)):=by grind
 obtain⟨x,C⟩:=(H.front 1 rfl).own.Ep (by omega);have hc:=(H.front 1 rfl).own.cell C aE;unfold F.GJ T0.GJ F.MJ;simp only[AG,Nat.mul_one];have et:Int.toNat (i64 (((a:Int)+1)-1))=a:=by rw[AF];omega
 have H2:=(H.front 2 rfl).F0 hg;have e0:recC E R X.bk a=Cells (R a) E.GD [.int .i64 ((a:Int)+1),.bool true,.pointer none]:=by
  unfold recC;rw[VD y];have:X.bk.contains a=false:=by grind
  rw[this];rfl
 rw[e0]at H2;refine AR (decide_eq_true (by omega)) ⟨s,H.cell rfl,AR (decide_eq_true (by omega)) ⟨s,H.cell rfl,?_⟩⟩;rw[C];simp only[AG];rw[et];have v:(0:Int)<=i64 (((a:Int)+1)-1)/\i64 (((a:Int)+1)-1)<(s.len:Nat):=by rw[AF];omega
 refine⟨v,_,hc,?_⟩;simp only[AG];refine⟨true,H2.cell rfl,AP rfl ⟨s,H.cell rfl,?_⟩⟩;rw[C];simp only[AG];refine⟨v,_,hc,_,H.cell rfl,?_⟩;simp only[AG];refine Ab H2 (o:=0) (m:=1) rfl (by simp) λaQ O=>Ab O (o:=0) (m:=2) rfl (by simp) λaR T=> ?_;refine Ab (T.front 2 rfl) (o:=0) (m:=2) rfl (by simp) λaS d=>⟨_,d.cell rfl,Ab d (o:=0) (m:=3) rfl (by simp) λJ Y=>hK J ?_⟩;refine Sat.fix.2 ⟨s,R,i64 (c-1),⟨List.nodup_cons.2 ⟨y,hI.nd⟩,λi hi=> ?_,hI.KV⟩,?_⟩
 .rcases List.mem_cons.1 hi with h|h
  .subst h;exact ha
  .exact hI.lt i h
 .have e3:recC E R (a::X.bk) a=Cells (R a) E.GD [.int .i64 ((a:Int)+1),.bool false,.pointer (Tb R X.bk.head?)]:=by
   unfold recC;have:(a::X.bk).contains a=true:=by simp
   rw[this];have:afterL (a::X.bk) a=X.bk.head?:=by unfold afterL;grind
   grind
  have e2:Aa (recC E R X.bk) ((List.range X.n).eraseIdx a)=Aa (recC E R (a::X.bk)) ((List.range X.n).eraseIdx a):=Aa.congr λx C=>by
   have aP:=Tc ha C;unfold recC;have h1:(a::X.bk).contains x=X.bk.contains x:=by grind
   have h2:afterL (a::X.bk) x=afterL X.bk x:=by
    show(if a=x then X.bk.head? else afterL X.bk x)=_
    grind
   rw[h1,h2]
  have j:=(Y.front 1 rfl).EM 1 rfl;rw[e2]at j;have aB:Sat (recC E R (a::X.bk) a::Aa (recC E R (a::X.bk)) ((List.range X.n).eraseIdx a)::Cells b E.Km [.int .i64 1,FJ s,.pointer (some ⟨R a,0,none⟩),.int .i64 (i64 (c-1))]::Row E.Fb 1 s ((List.range X.n).map λi=>.pointer (some ⟨R i,0,none⟩))::Z) J:=by
   rw[e3];exact j
  have aC:=Sat.G5 aB hg;exact aC.perm (by
   have: ∀(a b c:Pr),(a::b::c::Z).Perm (b::c::a::Z):=λa b c=>(List.perm_middle (l₁:=[b,c]) (a:=a)).symm;exact this _ _ _)
end
abbrev gC:=Int×Int×Int×Int
def HW(e:gC):List Value:=[.int .i64 e.1,.int .i64 e.2.1,.int .i64 e.2.2.1,.int .u32 e.2.2.2]
def Al(e:gC):(HW e).length=4:=rfl
def Xt(e:gC): ∀v∈HW e,v.oneCell'=true:=by intro v d;simp[HW]at d;rcases d with rfl|rfl|rfl|rfl<;>rfl
def V9(n:Int):Bool:=(n !=0)&&(Dj .u64 0 n (u64 (n-1))==0)
def I7(size d:Int):Int:=if V9 (u64 size)=false then d else if 2048<=size then 256 else if 128<=size then i64 (Int.tdiv size 8)else if 32<=size then 16 else d
def bytesF(size:Int):Nat->Int->Int
 | 0,n=>n
 | k+1,n=>if Int.tmod n size>i64 (Int.tdiv n 8)then bytesF size k (i64 (n+8192))else n
def dE(size n:Int):Bool:=decide (¬Int.tmod n size>i64 (Int.tdiv n 8))
structure Po where
 L5:Int
 size:Int
 l:List gC
def Po.last(s:Po):gC:=s.l.getLastD (0,0,0,0)
def Po.same(s:Po):Bool:=decide (1<s.l.length)&&(s.last.2.1==i64 (Int.tdiv (bytesF s.size 16 8192) 8192)&&(i64 (Int.tdiv (i64 (s.last.2.1*8192)) s.last.1)==i64 (Int.tdiv (bytesF s.size 16 8192) s.size)))
def Po.next(s:Po):Po:=
 ⟨I7 s.size s.L5,i64 (s.size+I7 s.size s.L5),
  if s.same=true then s.l.dropLast++[(s.size,s.last.2)]else s.l++[(s.size,i64 (Int.tdiv (bytesF s.size 16 8192) 8192),0,0)]⟩
def Po.lE(s:Po):Bool:=decide (8<=s.size)&&(decide (s.size<=32768)&&(dE s.size (bytesF s.size 16 8192)&&(decide (0<s.l.length)&&(decide (s.l.length<=200)&&((decide (8<=I7 s.size s.L5)&&decide (I7 s.size s.L5<=10000))&&(decide (s.l.length=1)||s.last.1 !=0))))))
def OM:Nat->Po
 | 0=>⟨8,8,[(0,0,0,0)]⟩
 | n+1=>(OM n).next
def runAll:Nat->Po->Bool×Po
 | 0,s=>(true,s)
 | n+1,s=>match s.lE with
  | true=>runAll n s.next
  | false=>(false,s)
def RL: ∀(n k:Nat) {s:Po},(runAll n (OM k))=(true,s)->(∀j,j<n->(OM (k+j)).lE=true)/\OM (k+n)=s
 | 0,k,s,h=>⟨λj d=>by omega,(Prod.mk.inj h).2⟩
 | n+1,k,s,h=>by
  unfold runAll at h;split at h
  .rename_i hg;have v:=RL n (k+1) (s:=s) h;refine⟨λj d=> ?_,by rw[<-v.2,show k+1+n=k+(n+1) by omega]⟩;cases j with
   | zero=>exact hg
   | succ j=>grind
  .cases h
def EJ(c:gC):gC:=
 let n:=i64 (c.2.1*8192)
 let wide:=i64 (i64 (Int.tdiv (i64 (Int.tdiv n (i64 (Int.tdiv n c.1)))) 128)*128)
 let sz:=if wide>c.1 then wide else c.1
 (sz,c.2.1,i64 (Int.tdiv n sz),if IntKind.wrap .u32 sz<2 then 0 else IntKind.wrap .u32 (IntKind.wrap .u32 (Int.tdiv 4294967295 (IntKind.wrap .u32 sz))+1))
def Xu(c:gC):Bool:=(c.1 !=0)&&((i64 (Int.tdiv (i64 (c.2.1*8192)) c.1) !=0)&&((EJ c).1 !=0&&(decide (IntKind.wrap .u32 (EJ c).1<2)||IntKind.wrap .u32 (EJ c).1 !=0)))
def rounds:Nat:=162
def Xv:Po:=(runAll rounds (OM 0)).2
def KH:List gC:=match Xv.l with
 | []=>[]
 | c::r=>c::r.map EJ
def vB:(runAll rounds (OM 0)).1=true:=by decide+kernel
def dF:Xv.size>32768:=by decide+kernel
def dG:Xv.l.length=68:=by decide+kernel
def dH:(Xv.l.tail.all Xu)=true:=by decide+kernel
def Jb:KH.length=68:=by decide+kernel
def runs:(∀j,j<rounds->(OM j).lE=true)/\OM rounds=Xv:=by
 have h:runAll rounds (OM 0)=(true,Xv):=Prod.ext vB rfl;have:=RL rounds 0 h
 grind
structure MkG(s:Po):Prop where
 s0:8<=s.size
 s1:s.size<=32768
 L5:Int.tmod (bytesF s.size 16 8192) s.size<=i64 (Int.tdiv (bytesF s.size 16 8192) 8)
 l0:0<s.l.length
 l1:s.l.length<=200
 st0:8<=I7 s.size s.L5
 st1:I7 s.size s.L5<=10000
 nz:1<s.l.length->s.last.1≠0
def Pp{s:Po}(h:s.lE=true):MkG s:=by
 unfold Po.lE dE at h;simp only[Bool.and_eq_true,decide_eq_true_eq,Bool.or_eq_true,bne_iff_ne]at h;obtain⟨h1,h2,C,d,j,⟨v,y⟩,J⟩:=h;exact⟨h1,h2,by omega,d,j,v,y,λh=>by omega⟩
section
variable{E:Env}{w:World}{Z:List Pr}
def Td{n:Int}{K:Bool->World->Prop}(d:K (V9 n) w):F.PY E n K w:=by
 unfold F.PY;unfold V9 at d;refine Gq (λh=> ?_) λh=> ?_
 .rw[show(n !=0)=true by grind,Bool.true_and]at d;exact d
 .subst h;exact d
def gE{size j:Int}(h0:8<=size){K:Int->World->Prop}(d:K (I7 size j) w):F.Ha E size j K w:=by
 unfold F.Ha T0.Ha;unfold I7 at d;refine Td ?_;cases hp:V9 (u64 size)
 .rw[hp,if_pos rfl]at d;exact AR rfl d
 .rw[hp,if_neg (by decide)]at d;refine AP rfl (AB (λh=> ?_) λh=>AB (λh2=>⟨by decide,?_⟩) λh2=>AB (λv=> ?_) λv=> ?_)
  .rw[if_pos h]at d;exact d
  .rw[if_neg h,if_pos h2]at d;exact d
  .rw[if_neg h,if_neg h2,if_pos v]at d;exact d
  .rw[if_neg h,if_neg h2,if_neg v]at d;exact d
def Zy{size:Int}(hs:size≠0)(A6:Int.tmod (bytesF size 16 8192) size<=i64 (Int.tdiv (bytesF size 16 8192) 8)){K:Int->World->Prop}(J:K (bytesF size 16 8192) w):F.LK E size 8192 K w:=by
 unfold F.LK;refine AI (λst w'=>w'=w/\ ∃i:Nat,i<=16/\st.1=8192+i*8192/\bytesF size (16-i) st.1=bytesF size 16 8192) (λst _=>(200000-st.1).toNat) ⟨rfl,0,by decide,by omega,rfl⟩ ?_;rintro⟨n,v⟩ _ T ⟨rfl,i,O,C,d⟩;dsimp only at C d⊢;refine⟨hs,by decide,AB (λj=> ?_) λhle=> ?_⟩
 .rcases Nat.lt_or_ge i 16 with y|y
  .obtain⟨k,hk⟩: ∃k,16-i=k+1:=⟨15-i,by omega⟩;rw[hk]at d;rw[AF (n:=n+8192)];refine⟨⟨by trivial,i+1,by omega,by omega,?_⟩,by omega⟩;rw[<-d,show 16-(i+1)=k by omega];unfold bytesF;rw[if_pos j,AF (n:=n+8192)];cases k<;>rfl
  .have:i=16:=by omega
   subst this;have:bytesF size 0 n=n:=rfl
   grind
 .have:bytesF size (16-i) n=n:=by
   cases h:16-i with
   | zero=>rfl
   | succ k=>unfold bytesF;rw[if_neg (by omega)]
  grind
def Zz{n:Int}(v:n<2∨n≠0){K:Int->World->Prop}(d:K (if n<2 then 0 else IntKind.wrap .u32 (IntKind.wrap .u32 (Int.tdiv 4294967295 n)+1)) w):F.Nv E n K w:=by
 unfold F.Nv;refine AB (λh=> ?_) λh=>⟨by omega,AY λx j=> ?_⟩
 .rw[if_pos h]at d;exact d
 .rw[if_neg h]at d;rw[j];exact d
def Xw{L:List gC}(h:0<L.length)(y:gC):L.set (L.length-1) y=L.dropLast++[y]:=by
 apply List.ext_getElem?
 grind
def Xx{L:List gC}(h:0<L.length):L[L.length-1]? =some (L.getLastD (0,0,0,0)):=by grind
def MR(H:Sat Z w){K:AX->World->Prop}(hK: ∀s w',Sat (Row E.Ar 4 s (Ao HW KH)::Z) w'->K s w'):F.Fc E K w:=by
 unfold F.Fc T0.Fc F.Is T0.Is;have p1:V9 (u64 8192)=true:=by decide+kernel
 have p2:V9 (u64 32768)=true:=by decide+kernel
 refine AU (AP (by decide) (AP (by decide) (Td ?_)));rw[p1];refine AP rfl (AP (by decide) (AP (by decide+kernel) (Td ?_)));rw[p2];refine λj=>AP rfl ?_;obtain⟨Y,aF⟩:=runs;refine Gs (n:=1) (z:=4) H rfl (by decide) λb8 w9 H9=> ?_;refine AI (λst w'=> ∃k:Nat,k<=rounds/\st.2.1=(OM k).L5/\st.2.2.1=(OM k).size/\Sat (Row E.Ar 4 st.1 (Ao HW (OM k).l)::Z) w') (λst _=>(40000-st.2.2.1).toNat)
  ⟨0,Nat.zero_le _,rfl,rfl,H9⟩ ?_
 rintro⟨D6,L5,size,v⟩ _ bX ⟨k,hk,aH,aE,C⟩;dsimp only at aH aE C⊢;have hl:=C.F9 (by decide) Al;refine AB (λhle=> ?_) λaU=> ?_
 .have aI:k<rounds:=by
   rcases Nat.lt_or_eq_of_le hk with g|g
   .exact g
   .subst g;rw[aF]at aE;have:=dF;omega
  have hg:=Pp (Y k aI);rw[aH,aE];generalize hS:OM k=S at hg aE aH C hl⊢;have aC:OM (k+1)=S.next:=by rw[<-hS];rfl
  have bK:=hg.s0;have bL:=hg.s1;have aT:=hg.l0;have a7:=hg.l1;refine gE hg.s0 (Zy (by omega) hg.L5 ?_);have d:=Xx aT;obtain⟨b,J⟩:=C.FZ (by decide) Al (i:=S.l.length-1) (by omega);rw[J];simp only[AG];rw[AF (n:=((D6.len:Nat):Int)-1)];have et:Int.toNat (((D6.len:Nat):Int)-1)=S.l.length-1:=by omega
  rw[et];have Hd:=C.drew;have c0:=Hd.Bu Al J d (j:=0) rfl;have c1:=Hd.Bu Al J d (j:=1) rfl;have aJ:S.l.getLastD (0,0,0,0)=S.last:=rfl;rw[aJ]at c0 c1 d;rw[Nat.add_zero]at c0;have bB:=hg.st0;have bC:=hg.st1;rw[AF (n:=S.size+I7 S.size S.L5)];have bA:S.next.size=S.size+I7 S.size S.L5:=AF;refine⟨⟨by omega,by omega⟩,?_⟩;refine AV (λst w'=>st.1=S.same/\Sat (Row E.Ar 4 D6 (Ao HW S.l)::Z) w') ?_ ?_
  .unfold Po.same;refine AB (λh1=>⟨S.last.2.1,by rw[add_add];exact c1,by decide,Bc (λe1=> ?_) λe1=> ?_⟩) λh1=> ?_
   .have d1:decide (1<S.l.length)=true:=decide_eq_true (by omega);have a0:=c0;have a1:=c1;refine⟨S.last.2.1,by rw[add_add];exact a1,S.last.1,a0,hg.nz (by omega),by omega,?_,Hd⟩
    grind
   .refine⟨?_,Hd⟩
    grind
   .refine⟨?_,Hd⟩
    grind
  rintro⟨x,v⟩ _ bY ⟨hx,aM⟩;dsimp only at hx;subst hx;refine AS (λe=> ?_) λe=>⟨by decide,?_⟩
  .have hs:=Gp aM (j:=(S.l.length-1)*4) (v:=.int .i64 S.size) (K:=λaW=>(∃k:Nat,k<=rounds/\I7 S.size S.L5=(OM k).L5/\S.size+I7 S.size S.L5=(OM k).size/\Sat (Row E.Ar 4 D6 (Ao HW (OM k).l)::Z) aW)/\(40000-(S.size+I7 S.size S.L5)).toNat<(40000-S.size).toNat) rfl (by rw[De Al];omega) J λaW aX=>⟨⟨k+1,by omega,by rw[aC];rfl,by grind,?_⟩,by omega⟩
   .exact hs
   .have:=IV Al d (j:=0) (y:=(S.size,S.last.2)) (v:=.int .i64 S.size) (by decide) rfl;rw[Nat.add_zero]at this;rw[this,Xw aT]at aX;rw[aC];unfold Po.next
    grind
  .refine AO aM λbH bZ aY _=> ?_;refine Er (news:=HW (S.size,i64 (Int.tdiv (bytesF S.size 16 8192) 8192),0,0)) aY rfl rfl (Xt _) (by omega) (by omega) λPW b0 aZ _=>⟨⟨k+1,by omega,by rw[aC];rfl,by grind,?_⟩,by omega⟩;have e1:Ao HW S.l++HW (S.size,i64 (Int.tdiv (bytesF S.size 16 8192) 8192),0,0)=Ao HW (S.l++[(S.size,i64 (Int.tdiv (bytesF S.size 16 8192) 8192),0,0)]):=by rw[FR];simp[Ao]
   rw[e1]at aZ;rw[aC];unfold Po.next
   grind
 .have aI:k=rounds:=by
   rcases Nat.lt_or_eq_of_le hk with g|g
   .have:=(Pp (Y k g)).s1;omega
   .exact g
  subst aI;rw[aF]at C hl;have hlen:=dG;cases hL:Xv.l with
  | nil=>grind
  | cons c0 T=>
   rw[hL]at C hl hlen;have hT:T.length=67:=by grind
   have aS: ∀i c,T[i]? =some c->Xu c=true:=λi c hc=>by
    have:=dH;rw[hL]at this;exact List.all_eq_true.1 this c (List.mem_of_getElem? hc)
   have bD:KH=c0::T.map EJ:=by unfold KH;rw[hL]
   refine⟨⟨by decide,by omega⟩,?_⟩;refine AI (λst w'=> ∃i:Nat,st.1=(i:Int)/\i<=67/\Sat (Row E.Ar 4 D6 (Ao HW (c0::((T.take i).map EJ++T.drop i)))::Z) w') (λst _=>(67-st.1).toNat) ⟨0,rfl,by decide,C⟩ ?_;rintro⟨i',v⟩ _ a6 ⟨i,hi,a9,O⟩;dsimp only at hi⊢;subst hi;refine AB (λbP=> ?_) λbM=> ?_
   .have bO:i<67:=by omega
    obtain⟨c,hc⟩: ∃c,T[i]? =some c:=⟨_,List.getElem?_eq_getElem (by omega)⟩;have A6:=aS i c hc;unfold Xu at A6;simp only[Bool.and_eq_true,Bool.or_eq_true,decide_eq_true_eq,bne_iff_ne]at A6;obtain⟨o1,o2,o3,o4⟩:=A6;rw[AF (n:=(i:Int)+1)];have et:Int.toNat ((i:Int)+1)=i+1:=by omega
    rw[et];generalize hF:(c0::((T.take i).map EJ++T.drop i))=FX at O;have bJ:FX.length=68:=by grind
    have aB:FX[i+1]? =some c:=by grind
    have a3:FX.set (i+1) (EJ c)=c0::((T.take (i+1)).map EJ++T.drop (i+1)):=by
     rw[<-hF,List.set_cons_succ];congr 1;have a4:c=T[i]:=by rw[List.getElem?_eq_getElem (by omega)]at hc;exact(Option.some.inj hc).symm
     rw[List.set_append_right _ _ (by rw[List.length_map,List.length_take];omega),List.length_map,List.length_take,Nat.min_eq_left (by omega),Nat.sub_self,List.take_succ_eq_append_getElem (by omega),List.map_append,List.drop_eq_getElem_cons (by omega),List.set_cons_zero,List.append_assoc,a4];rfl
    obtain⟨b,J⟩:=O.FZ (by decide) Al (i:=i+1) (by omega);rw[J];simp only[AG];have d0:=O.Bu Al J aB (j:=0) rfl;have d1:=O.Bu Al J aB (j:=1) rfl;rw[Nat.add_zero]at d0;refine⟨⟨by omega,by omega⟩,c.2.1,by rw[add_add];exact d1,?_⟩;refine AV (λ_ w'=>Sat (Row E.Ar 4 D6 (Ao HW (FX.set (i+1) ((EJ c).1,c.2)))::Z) w') ?_ ?_
    .refine⟨c.1,d0,o1,o2,by decide,AY λwide aK=>⟨c.1,d0,AB (λaU=> ?_) λbQ=> ?_⟩⟩
     .have e1:(EJ c).1=wide:=by unfold EJ;dsimp only;rw[<-aK,if_pos aU]
      refine Gp O (j:=(i+1)*4) rfl (by rw[De Al];omega) J λb3 bF=> ?_;have:=IV Al aB (j:=0) (y:=(wide,c.2)) (v:=.int .i64 wide) (by decide) rfl
      grind
     .have e1:(EJ c).1=c.1:=by unfold EJ;grind
      show Sat (Row E.Ar 4 D6 (Ao HW (FX.set (i+1) ((EJ c).1,c.2)))::Z) a6;rw[e1];have:FX.set (i+1) (c.1,c.2)=FX:=by
       have:=List.getElem?_eq_some_iff.1 aB;rw[show(c.1,c.2)=FX[i+1]from this.2.symm,List.set_getElem_self]
      grind
    rintro _ _ b1 aN;have g1:(FX.set (i+1) ((EJ c).1,c.2))[i+1]? =some ((EJ c).1,c.2):=by grind
    have f0:=aN.Bu Al J g1 (j:=0) rfl;rw[Nat.add_zero]at f0;have aD:i64 (Int.tdiv (i64 (c.2.1*8192)) (EJ c).1)=(EJ c).2.2.1:=rfl;refine⟨(EJ c).1,f0,o3,?_⟩;rw[aD,add_add];refine Gp aN (j:=(i+1)*4+2) rfl (by rw[De Al,List.length_set];omega) J λb4 aG=> ?_;have:=IV Al g1 (j:=2) (y:=((EJ c).1,c.2.1,(EJ c).2.2.1,c.2.2.2)) (v:=.int .i64 (EJ c).2.2.1) (by decide) rfl;rw[this,List.set_set]at aG;have g2:(FX.set (i+1) ((EJ c).1,c.2.1,(EJ c).2.2.1,c.2.2.2))[i+1]? =some ((EJ c).1,c.2.1,(EJ c).2.2.1,c.2.2.2):=by grind
    have aQ:=aG.Bu Al J g2 (j:=0) rfl;rw[Nat.add_zero]at aQ;refine⟨(EJ c).1,aQ,Zz o4 ?_⟩;have aV:(if IntKind.wrap .u32 (EJ c).1<2 then(0:Int)else IntKind.wrap .u32 (IntKind.wrap .u32 (Int.tdiv 4294967295 (IntKind.wrap .u32 (EJ c).1))+1))=(EJ c).2.2.2:=rfl;rw[aV,add_add];refine Gp aG (j:=(i+1)*4+3) rfl (by rw[De Al,List.length_set];omega) J λb5 aO=>⟨⟨i+1,by omega,by omega,?_⟩,by omega⟩;have h3:=IV Al g2 (j:=3) (y:=EJ c) (v:=.int .u32 (EJ c).2.2.2) (by decide) rfl;rw[h3,List.set_set,a3]at aO;exact aO
   .have bN:i=67:=by omega
    grind
end
structure SI where
 base:Int
 AA:Int
 state:Int
 cls:Int
 Fv:Bool
 elem:Int
 AK:Int
 used:Int
 f8:Bool
 f9:Bool
 Lw:Int
 uw:List Int
 mw:List Int
 look:Int
def F3(S:SI)(d sm:AX):List Value:=[.int .u64 S.base,.int .i64 S.AA,.int .i64 S.state,.int .i64 S.cls,.bool S.Fv,.int .i64 S.elem,.int .i64 S.AK,.int .i64 S.used,.bool S.f8,.bool S.f9,.int .u32 S.Lw,FJ d,FJ sm,.int .i64 S.look]
def Xy(E:Env)(b:Nat)(S:SI)(d sm:AX):List Pr:=[Cells b E.Ey (F3 S d sm),Row E.AD 1 d (ints .u64 S.uw),Row E.AD 1 sm (ints .u64 S.mw)]
def Cz(E:Env)(b:Nat)(S:SI):Pr:=Ex λx:AX×AX=>Lo (Xy E b S x.1 x.2)
def Aj(c:Int):gC:=KH.getD c.toNat (0,0,0,0)
def F7(page AA c:Int):Prop:=AA=0∨34359738368<page∨34359738368-page<AA∨c<0∨68<=c∨(c=0/\134217728<AA)∨(0<c/\AA≠(Aj c).2.1)
def Gw(page AA c:Int)(Fv:Bool):SI:=⟨page*8192,AA,1,c,Fv,if c=0 then AA*8192 else(Aj c).1,if c=0 then 1 else(Aj c).2.2.1,0,false,false,(Aj c).2.2.2,[],[],0⟩
def gF:(KH.all λc=>decide (0<=c.2.1)&&decide (c.2.1<=100))=true:=by decide+kernel
def Ky{c:Int}(h0:0<=c)(h1:c<68):KH[c.toNat]? =some (Aj c):=by
 have d:c.toNat<KH.length:=by rw[Jb];omega
 unfold Aj
 grind
def Ke{c:Int}(h0:0<=c)(h1:c<68):0<=(Aj c).2.1/\(Aj c).2.1<=100:=by
 have:=List.all_eq_true.1 gF _ (List.mem_of_getElem? (Ky h0 h1))
 grind
section
variable{E:Env}{b:Nat}{S:SI}{Z:List Pr}{w:World}
def Sat.span:Sat (Cz E b S::Z) w↔ ∃d sm,Sat (Xy E b S d sm++Z) w:=by
 unfold Cz;rw[Sat.ex];constructor
 .rintro⟨⟨d,sm⟩,h⟩;exact⟨d,sm,Sat.star.1 h⟩
 .rintro⟨d,sm,h⟩;exact⟨⟨d,sm⟩,Sat.star.2 h⟩
def Te(H:Sat Z w){page AA c:Int}{np:Bool}(h0:0<=page)(p0:0<=AA)(p1:AA<18446744073709551616){K:Option Addr->Int->World->Prop}
  (aP:F7 page AA c-> ∀w',Sat Z w'->K none 1 w')(aQ: ¬F7 page AA c-> ∀b w',Sat (Cz E b (Gw page AA c np)::Z) w'->K (some ⟨b,0,none⟩) 0 w'):F.KE E page AA c np K w:=by
 unfold F.KE T0.KE;refine MR H λr1 w2 H2=> ?_;have hl:=H2.F9 (by decide) Al;rw[Jb]at hl;have ct:0<=c->c<68-> ∃x,r1.base=some ⟨x,0,none⟩/\ ∀{w'} {Y:List Pr},Sat (Row E.Ar 4 r1 (Ao HW KH)::Y) w'->w'.cell? ((Addr.mk x 0 none).add (Int.toNat c*4))=some (.int .i64 (Aj c).1)/\w'.cell? (((Addr.mk x 0 none).add (Int.toNat c*4)).add 1)=some (.int .i64 (Aj c).2.1)/\
   w'.cell? (((Addr.mk x 0 none).add (Int.toNat c*4)).add 2)=some (.int .i64 (Aj c).2.2.1)/\w'.cell? (((Addr.mk x 0 none).add (Int.toNat c*4)).add 3)=some (.int .u32 (Aj c).2.2.2):=λc0 c1=>by
  obtain⟨x,C⟩:=H2.FZ (by decide) Al (i:=c.toNat) (by rw[Jb];omega);refine⟨x,C,λh=>⟨?_,?_,?_,?_⟩⟩
  .have:=h.Bu Al C (Ky c0 c1) (j:=0) rfl;omega
  .rw[add_add];exact h.Bu Al C (Ky c0 c1) (j:=1) rfl
  .rw[add_add];exact h.Bu Al C (Ky c0 c1) (j:=2) rfl
  .rw[add_add];exact h.Bu Al C (Ky c0 c1) (j:=3) rfl
 have d:F7 page AA c->K none 1 w2:=λh=>aP h w2 H2.tail;have main: ¬F7 page AA c->
   NC r1.base λaG=>
   ((0:Int)<=c/\(c:Int)<(r1.len:Nat))/\
   ∃aA:Int,w2.drew.cell? (aG.add (Int.toNat c*4))=some (.int .i64 aA)/\
   NC r1.base λaH=>
   ((0:Int)<=c/\(c:Int)<(r1.len:Nat))/\
   ∃aB:Int,w2.drew.cell? ((aH.add (Int.toNat c*4)).add 2)=some (.int .i64 aB)/\
   NC r1.base λaI=>
   ((0:Int)<=c/\(c:Int)<(r1.len:Nat))/\
   ∃aC:Int,w2.drew.cell? ((aI.add (Int.toNat c*4)).add 3)=some (.int .u32 aC)/\
   AL (.cells #[.int .u64 (u64 (page*8192)),.int .i64 (i64 (AA)),.int .i64 1,.int .i64 c,.bool np,.int .i64 aA,.int .i64 aB,.int .i64 0,.bool false,.bool false,.int .u32 aC,.slice none 0 0,.slice none 0 0,.int .i64 0] E.Ey) w2.drew λv y=>
   y.cell? ((aI.add (Int.toNat c*4)).add 3)=some (.int .u32 aC)/\
   y.cell? ((aH.add (Int.toNat c*4)).add 2)=some (.int .i64 aB)/\
   y.cell? (aG.add (Int.toNat c*4))=some (.int .i64 aA)/\
   CND ((c:Int)==0) (
    stCells ((Addr.mk v 0 none).add 5) 0 [.int .i64 (i64 ((i64 (AA))*8192))] y λaJ=>
    stCells ((Addr.mk v 0 none).add 6) 0 [.int .i64 1] aJ λaK=>
    K (some (Addr.mk v 0 none)) 0 aK
   ) (
    K (some (Addr.mk v 0 none)) 0 y
   ):=λaF=>by
  have J:=aF;unfold F7 at J;have c0:0<=c:=by omega
  have c1:c<68:=by omega
  have aO:=Ke c0 c1;have aY:AA<=134217728:=by
   by_cases e:c=0
   .omega
   .have:AA=(Aj c).2.1:=Classical.byContradiction λh=>J (.inr (.inr (.inr (.inr (.inr (.inr ⟨by omega,h⟩))))));omega
  obtain⟨x,C,Cr⟩:=ct c0 c1;have Hd:=H2.drew;obtain⟨d0,d1,d2,d3⟩:=Cr Hd;have T:(0:Int)<=c/\(c:Int)<(r1.len:Nat):=by omega
  rw[C];simp only[AG];refine⟨T,_,d0,T,_,d2,T,_,d3,?_⟩;rw[AM (n:=page*8192),AF (n:=AA),AF (n:=AA*8192)];refine AO (vs:=[.int .u64 (page*8192),.int .i64 AA,.int .i64 1,.int .i64 c,.bool np,.int .i64 (Aj c).1,.int .i64 (Aj c).2.2.1,.int .i64 0,.bool false,.bool false,.int .u32 (Aj c).2.2.2,.slice none 0 0,.slice none 0 0,.int .i64 0]) Hd λv y O _=> ?_;obtain⟨f0,f1,f2,f3⟩:=Cr (O.front 1 rfl);have fin: ∀{w'} {el sl:Int},el=(if c=0 then AA*8192 else(Aj c).1)->sl=(if c=0 then 1 else(Aj c).2.2.1)->
    Sat (Cells v E.Ey [.int .u64 (page*8192),.int .i64 AA,.int .i64 1,.int .i64 c,.bool np,.int .i64 el,.int .i64 sl,.int .i64 0,.bool false,.bool false,.int .u32 (Aj c).2.2.2,.slice none 0 0,.slice none 0 0,.int .i64 0]::Row E.Ar 4 r1 (Ao HW KH)::Z) w'->K (some ⟨v,0,none⟩) 0 w':=λe1 e2 h=>by
   subst e1;subst e2;refine aQ aF v _ (Sat.span.2 ⟨⟨none,0,0⟩,⟨none,0,0⟩,?_⟩);have h1:=(h.front 1 rfl).tail;have h2:=h1.nil E.AD 1;have h3:=h2.nil E.AD 1;exact h3.perm ((List.reverse_perm [_,_,_]).symm.append_right Z)
  refine⟨f3,f2,f0,Bc (λe=> ?_) λe=>fin (by omega) (by omega) O⟩;refine Ab O (o:=0) (m:=5) rfl (by simp) λaJ aL=>Ab aL (o:=0) (m:=6) rfl (by simp) λaK aM=>fin (by omega) (by omega) aM
 refine AU (Bc (λe j=>AR rfl (d (.inl e))) λn1=>AB (λe j=>AR rfl (d (.inr (.inl (by omega))))) λn2=> ?_);rw[AM (n:=34359738368-page)];refine AB (λe j=>AR rfl (d (.inr (.inr (.inl (by omega)))))) λn3=>AB (λe j=>AR rfl (d (.inr (.inr (.inr (.inl e)))))) λn4=>AB (λe j=>AR rfl (d (.inr (.inr (.inr (.inr (.inl (by omega)))))))) λn5=>Bc (λe0=>AB (λe j=>AR rfl (d (.inr (.inr (.inr (.inr (.inr (.inl ⟨e0,by omega⟩)))))))) λn6=>AB (λe=>by omega) λn7 j=>AP rfl (main ?_)) λe0=>AB (λe=> ?_) λn7=>by omega
 .unfold F7;omega
 .obtain⟨x,C,Cr⟩:=ct (by omega) (by omega);have aO:=Ke (c:=c) (by omega) (by omega);have aN:=(Cr H2).2.1;have m':=main;rw[C]at m'⊢;simp only[AG]at m'⊢;refine⟨⟨by omega,by omega⟩,_,aN,λj=> ?_⟩;rw[AM (n:=(Aj c).2.1)];refine Gq (λh=>d (.inr (.inr (.inr (.inr (.inr (.inr ⟨by omega,h⟩))))))) λh=>m' ?_;unfold F7;omega
def I8(H:Sat (Cz E b S::Z) w){K:Int->Int->Int->Int->Bool->Int->Int->Int->Bool->Bool->World->Prop}(y: ∀w',Sat (Cz E b S::Z) w'->K S.base S.AA S.state S.cls S.Fv S.elem S.AK S.used S.f8 S.f9 w'):
  F.B7 E (some ⟨b,0,none⟩) K w:=by
 obtain⟨C,sm,H⟩:=Sat.span.1 H;unfold F.B7;simp only[AG];refine AO (vs:=[.int .u64 0,.int .i64 0,.int .i64 0,.int .i64 0,.bool false,.int .i64 0,.int .i64 0,.int .i64 0,.bool false,.bool false]) H λb1 J v _=> ?_;have h:=v.front 1 rfl;refine⟨_,h.cell rfl,_,h.cell rfl,_,h.cell rfl,_,h.cell rfl,_,h.cell rfl,_,h.cell rfl,_,h.cell rfl,_,h.cell rfl,_,h.cell rfl,_,h.cell rfl,?_⟩;refine Fp (news:=[.int .u64 S.base,.int .i64 S.AA,.int .i64 S.state,.int .i64 S.cls,.bool S.Fv,.int .i64 S.elem,.int .i64 S.AK,.int .i64 S.used,.bool S.f8,.bool S.f9]) v rfl (by simp[Value.oneCell']) λj d=> ?_;exact⟨_,d.cell rfl,_,d.cell rfl,_,d.cell rfl,_,d.cell rfl,_,d.cell rfl,_,d.cell rfl,_,d.cell rfl,_,d.cell rfl,_,d.cell rfl,_,d.cell rfl,y j (Sat.span.2 ⟨C,sm,d.tail⟩)⟩
def Z0(H:Sat (Cz E b S::Z) w){K:Int->World->Prop}(d:(S.state=0∨0<S.used)->K 33 w)
  (v: ¬(S.state=0∨0<S.used)-> ∀w',Sat (Cz E b {S with state:=0,used:=0,uw:=[],mw:=[]}::Z) w'->K 0 w'):F.Jz E (some ⟨b,0,none⟩) K w:=by
 obtain⟨su,sm,H⟩:=Sat.span.1 H;unfold F.Jz;simp only[AG];refine AU ⟨_,H.cell rfl,Bc (λe j=>AR rfl (d (.inl e))) λn1=>⟨_,H.cell rfl,λj=>AB (λe=>d (.inr e)) λn2=> ?_⟩⟩;refine Ab H (o:=0) (m:=2) rfl (by simp[F3]) λw1 H1=>Ab H1 (o:=0) (m:=7) rfl (by simp[F3]) λw2 y=>Ab y (o:=0) (m:=11) rfl (by simp[F3]) λw3 C=>Ab C (o:=0) (m:=12) rfl (by simp[F3]) λY J=>v (by omega) Y (Sat.span.2 ⟨⟨none,0,0⟩,⟨none,0,0⟩,?_⟩);have h1:=(J.front 1 rfl).tail;have h2:=(h1.front 1 rfl).tail;have O:=h2.nil E.AD 1;have T:=O.nil E.AD 1;exact T.perm ((List.reverse_perm [_,_,_]).symm.append_right Z)
end
end Go.Sh

/- Records, classes and spans do what they say. No further condition. -/
import Derived.Test.YtcnbbdhhgcbjmaaGreatDoorA
import Derived.Test.YtcnbbdhhgcbjmaaGreatDoorM
import Derived.Test.YtcnbbdhhgcbjmaaGreatDoorY
import Derived.Test.YtcnbbdhhgcbjmaaGreatDoorF
import Derived.Test.YtcnbbdhhgcbjmaaGreatDoorSh
set_option linter.all false
set_option maxRecDepth 50000
set_option maxHeartbeats 2000000
namespace Go.Sh
section
variable{α:Type}{f:α->List Value}{z:Nat}
def Ao(f:α->List Value)(L:List α):List Value:=L.flatMap f
def F2(x:α)(L:List α):Ao f (x::L)=f x++Ao f L:=by simp[Ao]
def F9(L M:List α):Ao f (L++M)=Ao f L++Ao f M:=by simp[Ao]
def D8(hf: ∀x,(f x).length=z): ∀L:List α,(Ao f L).length=L.length*z
 | []=>by simp[Ao]
 | x::r=>by rw[F2,List.length_append,D8 hf r,hf,List.length_cons,Nat.succ_mul];omega
def Z6(hf: ∀x,(f x).length=z): ∀{L:List α} {i:Nat} {x:α} {j:Nat} {v:Value},L[i]? =some x->(f x)[j]? =some v->(Ao f L)[i*z+j]? =some v
 | y::r,0,x,j,v,h,hj=>by
  have h:y=x:=Option.some.inj h;subst h;have:=(List.getElem?_eq_some_iff.1 hj).1;rw[F2,Nat.zero_mul,Nat.zero_add,List.getElem?_append_left this];exact hj
 | y::r,i+1,x,j,v,h,hj=>by
  rw[F2,Nat.succ_mul,List.getElem?_append_right (by grind),hf,show i*z+z+j-z=i*z+j by omega];exact Z6 hf (L:=r) h hj
def W5(hf: ∀x,(f x).length=z): ∀(L:List α) (i:Nat),(Ao f L).take (i*z)=Ao f (L.take i)
 | [],i=>by simp[Ao]
 | y::r,0=>by simp[Ao]
 | y::r,i+1=>by
  rw[F2,List.take_succ_cons,F2,List.take_append,hf,List.take_of_length_le (by grind),Nat.succ_mul,show i*z+z-z=i*z by omega,W5 hf r i]
def W6(hf: ∀x,(f x).length=z): ∀(L:List α) (i:Nat),(Ao f L).drop (i*z)=Ao f (L.drop i)
 | [],i=>by simp[Ao]
 | y::r,0=>by simp
 | y::r,i+1=>by
  rw[F2,List.drop_succ_cons,List.drop_append,hf,List.drop_eq_nil_iff.2 (by grind),List.nil_append,Nat.succ_mul,show i*z+z-z=i*z by omega,W6 hf r i]
def IE(y: ∀x,∀v∈f x,v.oneCell'=true)(L:List α): ∀v∈Ao f L,v.oneCell'=true:=by
 intro v j;simp only[Ao,List.mem_flatMap]at j
 grind
def JS(hf: ∀x,(f x).length=z): ∀{L:List α} {i:Nat} {x y:α} {j:Nat} {v:Value},L[i]? =some x->j<z->(f x).set j v=f y->(Ao f L).set (i*z+j) v=Ao f (L.set i y)
 | c::r,0,x,y,j,v,h,hj,he=>by
  have h:c=x:=Option.some.inj h;subst h;rw[F2,Nat.zero_mul,Nat.zero_add,List.set_append_left _ _ (by rw[hf];exact hj),he,List.set_cons_zero,F2]
 | c::r,i+1,x,y,j,v,h,hj,he=>by
  rw[F2,List.set_cons_succ,F2,Nat.succ_mul,List.set_append_right _ _ (by grind),hf,show i*z+z+j-z=i*z+j by omega,JS hf (L:=r) h hj he]
def Z7(hf: ∀x,(f x).length=z): ∀{L:List α} {i:Nat} {y:α},i<L.length->(Ao f L).take (i*z)++f y++(Ao f L).drop (i*z+z)=Ao f (L.set i y)
 | c::r,0,y,h=>by
  rw[F2,Nat.zero_mul,Nat.zero_add,List.set_cons_zero,F2,List.take_zero,List.nil_append,List.drop_append,hf,List.drop_eq_nil_iff.2 (by rw[hf];omega),Nat.sub_self,List.drop_zero,List.nil_append]
 | c::r,i+1,y,h=>by
  have j:=Z7 hf (L:=r) (i:=i) (y:=y) (by simpa using h);rw[F2,List.set_cons_succ,F2,<-j,Nat.succ_mul,List.take_append,List.drop_append,hf,List.take_of_length_le (by grind),List.drop_eq_nil_iff.2 (by grind),List.nil_append,show i*z+z-z=i*z by omega,show i*z+z+z-z=i*z+z by omega]
  grind
def pos(key:α->Int):List α->Int->Nat
 | [],_=>0
 | c::r,n=>if key c<n then pos key r n+1 else 0
def JH(key:α->Int)(L:List α):Prop:=L.Pairwise λa b=>key a<key b
variable{key:α->Int}
def Nf: ∀(L:List α) (n:Int),pos key L n<=L.length
 | [],_=>Nat.le_refl _
 | c::r,n=>by simp only[pos];split;exact Nat.succ_le_succ (Nf r n);omega
def Hj: ∀{L:List α} {n:Int} {j:Nat} {c:α},L[j]? =some c->j<pos key L n->key c<n
 | c::r,n,0,x,h,hj=>by
  have h:c=x:=Option.some.inj h;subst h;simp only[pos]at hj;grind
 | c::r,n,j+1,x,h,hj=>by
  simp only[pos]at hj;split at hj
  .exact Hj (L:=r) h (by omega)
  .omega
def pos_at: ∀{L:List α} {n:Int} {c:α},L[pos key L n]? =some c->n<=key c
 | c::r,n,x,h=>by
  simp only[pos]at h;split at h
  .exact pos_at (L:=r) h
  .have h:c=x:=Option.some.inj h
   grind
def JH.lt{L:List α}(hs:JH key L){i j:Nat}{a b:α}(v:L[i]? =some a)(y:L[j]? =some b)(h:i<j):key a<key b:=by
 have h1:=(List.getElem?_eq_some_iff.1 v);have h2:=(List.getElem?_eq_some_iff.1 y);have:=List.pairwise_iff_getElem.1 hs i j h1.1 h2.1 h
 grind
def SG{L:List α}(hs:JH key L){n:Int}{j:Nat}{c:α}(h:L[j]? =some c)(y:pos key L n<=j):n<=key c:=by
 have J:=(List.getElem?_eq_some_iff.1 h).1;have v:=List.getElem?_eq_getElem (show pos key L n<L.length by omega);have h1:=pos_at v;rcases Nat.lt_or_eq_of_le y with h2|h2
 .have:=hs.lt v h h2;omega
 grind
def Ng{L:List α}(hs:JH key L){n:Int}{c:α}(J:c∈L)(T:key c=n):L[pos key L n]? =some c:=by
 obtain⟨j,v⟩:=List.mem_iff_getElem?.1 J;rcases Nat.lt_or_ge j (pos key L n)with h|h
 .have:=Hj v h;omega
 .have O:=(List.getElem?_eq_some_iff.1 v).1;rcases Nat.lt_or_eq_of_le h with h2|h2
  .have y:=List.getElem?_eq_getElem (show pos key L n<L.length by omega);have:=pos_at y;have K:=hs.lt y v h2;omega
  grind
def U0{L:List α}(hs:JH key L){n:Int}{i:Nat}(y:i<=L.length)(h1: ∀(j:Nat) c,L[j]? =some c->j<i->key c<n)(h2: ∀(j:Nat) c,L[j]? =some c->i<=j->n<=key c):i=pos key L n:=by
 have hp:=Nf (key:=key) L n;rcases Nat.lt_trichotomy i (pos key L n)with h|h|h
 .have v:=List.getElem?_eq_getElem (show i<L.length by omega);have:=h2 i _ v (Nat.le_refl _);have:=Hj v h;omega
 .exact h
 .have v:=List.getElem?_eq_getElem (show pos key L n<L.length by omega);have:=h1 _ _ v h;have:=pos_at v;omega
def JH.take{L:List α}(hs:JH key L)(i:Nat):JH key (L.take i):=List.Pairwise.sublist (List.take_sublist _ _) hs
def JH.drop{L:List α}(hs:JH key L)(i:Nat):JH key (L.drop i):=List.Pairwise.sublist (List.drop_sublist _ _) hs
def JH.filter{L:List α}(hs:JH key L)(p:α->Bool):JH key (L.filter p):=List.Pairwise.sublist List.filter_sublist hs
def JH.inj{L:List α}(hs:JH key L){a b:α}(j:a∈L)(v:b∈L)(h:key a=key b):a=b:=by
 have h1:=Ng hs j rfl;have h2:=Ng hs v h.symm
 grind
def Lk{L:List α}{n:Int}{c:α}(y:c∈L.take (pos key L n)):c∈L/\key c<n:=by
 obtain⟨j,v⟩:=List.mem_iff_getElem?.1 y;rw[List.getElem?_take]at v;split at v
 .rename_i h;exact⟨List.mem_of_getElem? v,Hj v h⟩
 .cases v
def Ll{L:List α}(hs:JH key L){n:Int}{c:α}(y:c∈L.drop (pos key L n)):c∈L/\n<=key c:=by
 obtain⟨j,v⟩:=List.mem_iff_getElem?.1 y;rw[List.getElem?_drop]at v;exact⟨List.mem_of_getElem? v,SG hs v (by omega)⟩
def mG{L:List α}{n:Int}{c:α}(hs:JH key L)(j:c∈L)(h:key c<n):c∈L.take (pos key L n):=by
 rw[<-List.take_append_drop (pos key L n) L]at j;rcases List.mem_append.1 j with h1|h1
 .exact h1
 .have:=(Ll hs h1).2;omega
def mH{L:List α}{n:Int}{c:α}(j:c∈L)(h:n<=key c):c∈L.drop (pos key L n):=by
 rw[<-List.take_append_drop (pos key L n) L]at j;rcases List.mem_append.1 j with h1|h1
 .have:=(Lk h1).2;omega
 .exact h1
def JH.tO{L M N:List α}(v:JH key L)(J:JH key M)(K:JH key N){a b:Int}(O:a<=b)(h1: ∀c∈L,key c<a)(h2: ∀c∈M,a<=key c/\key c<b)(Y: ∀c∈N,b<=key c):JH key (L++M++N):=by
 unfold JH;rw[List.append_assoc,List.pairwise_append,List.pairwise_append];refine⟨v,⟨J,K,λx j y T=> ?_⟩,λx j y T=> ?_⟩
 .have:=(h2 x j).2;grind
 .have:=h1 x j
  grind
def JH.JI: ∀{L:List α} (hs:JH key L) {a b:Int},a<=b->(∀c∈L,a<=key c/\key c<b)->(L.length:Int)<=b-a
 | [],_,a,b,h,_=>by simp;omega
 | c::r,hs,a,b,h,hc=>by
  have h1:=hc c (by simp);have h2:JH key r:=(List.pairwise_cons.1 hs).2;have:=JH.JI h2 (a:=key c+1) (b:=b) (by omega) λd hd=>⟨by have:=(List.pairwise_cons.1 hs).1 d hd;omega,(hc d (by simp[hd])).2⟩
  grind
def qH{L:List α}(hs:JH key L)(n:Int):pos key L (n+1)=pos key L n+(if ∃c∈L,key c=n then 1 else 0):=by
 symm
 have hp:=Nf (key:=key) L n;by_cases e: ∃c∈L,key c=n
 .rw[if_pos e];obtain⟨c,y,he⟩:=e;have h1:=Ng hs y he;have h2:=(List.getElem?_eq_some_iff.1 h1).1;refine U0 hs (by omega) (λj d hd v=> ?_) λj d hd v=> ?_
  .rcases Nat.lt_or_eq_of_le (Nat.le_of_lt_succ v)with g|g
   .have:=Hj hd g;omega
   .subst g;rw[h1]at hd;cases hd;omega
  .have:=hs.lt h1 hd (by omega);omega
 .rw[if_neg e];refine U0 hs (by omega) (λj d hd v=> ?_) λj d hd v=> ?_
  .have:=Hj hd v;omega
  .have:=SG hs hd v
   grind
def X5{L:List α}(hs:JH key L){l:Iv}(j:Ok l)(hm: ∀p,mem l p↔ ∃c∈L,key c=p)(a:Int): ∀n:Nat,((pos key L (a+n):Nat):Int)=pos key L a+cnt l a (a+n)
 | 0=>by
  rw[show a+((0:Nat):Int)=a by omega];have:=(Di j (Int.le_refl a)).2 λn h1 h2=>by omega
  omega
 | n+1=>by
  have y:=X5 hs j hm a n;rw[show a+((n+1:Nat):Int)=a+n+1 by omega,qH hs];have v:=KM j (a:=a) (k:=a+n) (by omega)
  grind
def vV{L:List α}{a:Int}(h: ∀c∈L,a<=key c):pos key L a=0:=by
 cases L with
 | nil=>rfl
 | cons c r=>simp only[pos];rw[if_neg (by have:=h c (by simp);omega)]
def Z8: ∀{L:List α} {a:Int},(∀c∈L,key c<a)->pos key L a=L.length
 | [],_,_=>rfl
 | c::r,a,h=>by
  simp only[pos];rw[if_pos (h c (by simp)),Z8 λd hd=>h d (by simp[hd]),List.length_cons]
def vW{L:List α}(hs:JH key L){l:Iv}(y:Ok l)(hm: ∀p,mem l p↔ ∃c∈L,key c=p){a:Int}{n:Nat}(v: ∀p,mem l p->a<=p/\p<a+n):(L.length:Int)=HE l:=by
 have h1:=X5 hs y hm a n;rw[vV λc j=>(v _ ((hm _).2 ⟨c,j,rfl⟩)).1,Z8 λc j=>(v _ ((hm _).2 ⟨c,j,rfl⟩)).2,MP (Ok.dY y) v]at h1;omega
end
section
variable{α:Type}{f:α->List Value}{z t:Nat}{F:List Pr}{w:World}{s:Ac}{L:List α}
def Sat.Gb(hz:0<z)(hf: ∀x,(f x).length=z)(H:Sat (Row t z s (Ao f L)::F) w):L.length=s.len/\s.len<=s.cap/\s.cap<9223372036854775808:=by
 have h:=H.EA;rw[D8 hf]at h;exact⟨Nat.eq_of_mul_eq_mul_right hz h,H.own.cap,H.own.top⟩
def Sat.FY(hz:0<z)(hf: ∀x,(f x).length=z)(H:Sat (Row t z s (Ao f L)::F) w){i:Nat}(j:i<L.length): ∃b,s.base=some ⟨b,0,none⟩:=
 H.own.Gf (by have:=H.Gb hz hf;omega)
def Sat.Bp(hf: ∀x,(f x).length=z)(H:Sat (Row t z s (Ao f L)::F) w){a:Addr}(y:s.base=some a){i:Nat}{x:α}(J:L[i]? =some x){j:Nat}{v:Value}(K:(f x)[j]? =some v):w.cell? (a.add (i*z+j))=some v:=
 H.own.cell y (Z6 hf J K)
def Tt: ∀(news:List Value) {vs:List Value} {w:World} (o i:Nat),Sat (Row t z s vs::F) w->o+i+news.length<=vs.length->(∀v∈news,v.oneCell'=true)-> ∀{a:Addr},s.base=some a-> ∀{K:World->Prop},
  (∀w',Sat (Row t z s (vs.take (o+i)++news++vs.drop (o+i+news.length))::F) w'->K w')->stCells (a.add o) i news w K
 | [],vs,w,o,i,H,hl,ho,a,ha,K,hK=>by
  refine hK w ?_;simpa using H
 | v::r,vs,w,o,i,H,hl,ho,a,ha,K,hK=>by
  have y:o+i<vs.length:=by grind
  have h1:=Il H (j:=o+i) (v:=v) (ho v (by simp)) y ha (K:=λw'=>stCells (a.add o) (i+1) r w' K) λw' O=>Tt r o (i+1) O (by grind) (λu hu=>ho u (by simp[hu])) ha λJ T=>hK J ?_
  .simp only[stCells,add_zero]at h1⊢;rw[add_add];exact h1
  .have:(vs.set (o+i) v).take (o+(i+1))++r++(vs.set (o+i) v).drop (o+(i+1)+r.length)=vs.take (o+i)++(v::r)++vs.drop (o+i+(v::r).length):=by
    rw[show o+(i+1)=o+i+1 from by omega,List.take_set,List.take_succ_eq_append_getElem y,List.set_append_right _ _ (by simp;omega)];simp only[List.length_take,Nat.min_eq_left (Nat.le_of_lt y),Nat.sub_self,List.set_cons_zero,List.append_assoc,List.singleton_append,List.length_cons,List.cons_append];congr 2;rw[List.drop_set_of_lt (by omega),show o+i+1+r.length=o+i+(r.length+1)from by omega];simp
   grind
def st_rec(hf: ∀x,(f x).length=z)(Y: ∀x,∀v∈f x,v.oneCell'=true)(H:Sat (Row t z s (Ao f L)::F) w){i:Nat}(J:i<L.length)(y:α){a:Addr}(T:s.base=some a){K:World->Prop}
  (O: ∀w',Sat (Row t z s (Ao f (L.set i y))::F) w'->K w'):stCells (a.add (i*z)) 0 (f y) w K:=by
 have hle:i*z+z<=L.length*z:=by rw[<-Nat.succ_mul];exact Nat.mul_le_mul_right _ J
 refine Tt (f y) (i*z) 0 H (by rw[D8 hf,hf];omega) (Y y) T λw' j=>O w' ?_;rw[Nat.add_zero,hf,Z7 hf J]at j;exact j
def Sat.RC(hz:0<z)(hf: ∀x,(f x).length=z)(H:Sat (Row t z s (Ao f L)::F) w){i:Nat}(j:i<=L.length):rowAt w (HU s.base s.cap 0 z) (i*z) (Ao f (L.take i)):=by
 have v:=H.Gb hz hf;rw[Mr];have:=Lw H.KN (m:=i*z) (Nat.mul_le_mul_right _ (by omega)) H.EA;rwa[W5 hf]at this
def Sat.RD(hz:0<z)(hf: ∀x,(f x).length=z)(H:Sat (Row t z s (Ao f L)::F) w){i:Nat}(v:i<=L.length):rowAt w (HU s.base s.cap i z) ((s.len-i)*z) (Ao f (L.drop i)):=by
 have j:=H.Gb hz hf;have:=Jf (z:=z) H.KN rfl (k:=i) (by omega) j.2.1 H.EA;rwa[W6 hf]at this
def bsearch{key:α->Int}{c o:Nat}(hz:0<z)(hf: ∀x,(f x).length=z)(hk: ∀x,(f x)[0]? =some (.int .u64 (key x)))(hs:JH key L)(H:Sat (Row t z s (Ao f L)::F) w)
  (hc:w.cell? ((Addr.mk c 0 none).add o)=some (.slice s.base s.len s.cap))(hlen:s.len<4611686018427387904)(n:Int){K:(Int×Int×Unit)->World->Prop}(hK: ∀st:Int×Int×Unit,st.1=(pos key L n:Nat)->K st w):
  A9 (Int×Int×Unit) (0,((s.len:Nat):Int),()) w λs3 _ w4 O=>
  CND (decide ((s3.1:Int)<s3.2.1)) (
   2≠(0:Int)/\
   Kj (i64 (Int.tdiv (i64 (s3.1+s3.2.1)) 2):Int) λJ=>
   NC (some (Addr.mk c 0 none)) λp7=>
   ∃x8:Ac,w4.cell? (p7.add o)=some (.slice x8.base x8.len x8.cap)/\
   NC x8.base λp9=>
   ((0:Int)<=J/\(J:Int)<(x8.len:Nat))/\
   ∃aB:Int,w4.cell? (p9.add (Int.toNat J*z))=some (.int .u64 aB)/\
   CND (decide ((aB:Int)<n)) (
    O (i64 (J+1),s3.2.1,()) w4
   ) (
    O (s3.1,J,()) w4
   )
  ) (K s3 w4):=by
 have hL:=H.Gb hz hf;refine AJ (λst w'=>w'=w/\0<=st.1/\st.1<=st.2.1/\st.2.1<=s.len/\(∀(j:Nat) x,L[j]? =some x->(j:Int)<st.1->key x<n)/\(∀(j:Nat) x,L[j]? =some x->st.2.1<=(j:Int)->n<=key x)) (λst _=>(st.2.1-st.1).toNat)
  ⟨rfl,Int.le_refl _,Int.natCast_nonneg _,Int.le_refl _,λj x _ h=>by dsimp only at h;omega,λj x T h=>by have:=(List.getElem?_eq_some_iff.1 T).1;grind⟩ ?_
 rintro⟨lo,hi,v⟩ _ w' ⟨rfl,h0,h1,h2,h3,h4⟩;dsimp only at h0 h1 h2 h3 h4⊢;refine AB (λaN=>⟨by decide,Am λtO Y=> ?_⟩) λaM=>hK _ ?_
 .rw[AM (n:=lo+hi),Int.tdiv_eq_ediv_of_nonneg (by omega),AM (n:=(lo+hi)/2)]at Y;obtain⟨x,T⟩: ∃x,L[tO.toNat]? =some x:=⟨_,List.getElem?_eq_getElem (by omega)⟩;obtain⟨b,hb⟩:=H.FY hz hf (i:=tO.toNat) (by omega);simp only[AH];refine⟨s,hc,?_⟩;have Ch:=H.Bp hf hb T (hk x);rw[hb];refine⟨⟨by omega,by omega⟩,key x,by omega,AB (λg=> ?_) λg=> ?_⟩
  .rw[AM (n:=tO+1)];refine⟨⟨by trivial,by omega,by omega,by omega,λj y hy hj=> ?_,h4⟩,by omega⟩;rcases Int.lt_or_le (j:Int) tO with q|q
   .have:=hs.lt hy T (by omega);omega
   .have:tO.toNat=j:=by omega
    grind
  .refine⟨⟨by trivial,by omega,by omega,by omega,h3,λj y hy hj=> ?_⟩,by omega⟩;rcases Int.lt_or_le tO (j:Int)with q|q
   .have:=hs.lt T hy (by omega);omega
   .have:tO.toNat=j:=by omega
    grind
 .have:=U0 hs (n:=n) (i:=lo.toNat) (by omega) (λj x T hj=>h3 j x T (by omega)) λj x T hj=>h4 j x T (by omega);omega
end
structure FX where
 n:Nat
 bk:List Nat
def afterL:List Nat->Nat->Option Nat
 | [],_=>none
 | a::r,i=>if a=i then r.head? else afterL r i
def U5(R:Nat->Nat)(x:Option Nat):Option Addr:=x.map λi=>⟨R i,0,none⟩
def recC(E:Env)(R:Nat->Nat)(bk:List Nat)(i:Nat):Pr:=Cells (R i) E.Gr [.int .i64 ((i:Int)+1),.bool (!bk.contains i),.pointer (U5 R (afterL bk i))]
structure Z9(X:FX):Prop where
 nd:X.bk.Nodup
 lt: ∀i∈X.bk,i<X.n
 JI:X.n<=1099511627776
def qI(E:Env)(b:Nat)(X:FX)(s:Ac)(R:Nat->Nat)(c:Int):List Pr:=
 [Cells b E.Lr [.int .i64 1,GJ s,.pointer (U5 R X.bk.head?),.int .i64 c],Row E.GM 1 s ((List.range X.n).map λi=>.pointer (some ⟨R i,0,none⟩)),Ad (recC E R X.bk) (List.range X.n)]
def IP(E:Env)(b:Nat)(X:FX):Pr:=Ex λx:Ac×(Nat->Nat)×Int=>Kk (Z9 X) (NR (qI E b X x.1 x.2.1 x.2.2))
section
variable{E:Env}{b:Nat}{X:FX}{Z:List Pr}{w:World}{s:Ac}{R:Nat->Nat}{c:Int}
def Sat.fix:Sat (IP E b X::Z) w↔ ∃s R c,Z9 X/\Sat (qI E b X s R c++Z) w:=by
 unfold IP;rw[Sat.ex];constructor
 .rintro⟨⟨s,R,c⟩,h⟩;rw[Sat.where,Sat.star]at h
  grind
 .rintro⟨s,R,c,h1,h2⟩;refine⟨⟨s,R,c⟩,?_⟩;rw[Sat.where,Sat.star]
  grind
def mI(H:Sat Z w){K:Option Addr->Int->World->Prop}(y: ∀b w',Sat (IP E b ⟨0,[]⟩::Z) w'->K (some ⟨b,0,none⟩) 0 w'):F.Tp E 1 K w:=by
 unfold F.Tp;refine AU (AO (by decide) λj=>AO (by decide) ?_);refine AQ (vs:=[.int .i64 1,.slice none 0 0,.pointer none,.int .i64 0]) H λb w' v _=>y b w' (Sat.fix.2 ⟨⟨none,0,0⟩,λ_=>0,0,⟨.nil,λi h=>(by cases h),by decide⟩,?_⟩);have h1:=v.nil E.GM 1;have h2:Sat (Ad (recC E (λ_=>0) []) []::_) w':=h1.MQ (recC E (λ_=>0) []);exact h2.perm ((List.reverse_perm [_,_,_]).symm.append_right Z)
def W7{l:List Nat}{i:Nat}(h:i∉l):afterL l i=none:=by
 induction l with
 | nil=>rfl
 | cons a r ih=>
  unfold afterL
  grind
def U6{n a x:Nat}(y:a<n)(v:x∈(List.range n).eraseIdx a):x≠a:=by
 obtain⟨i,j⟩:=List.mem_iff_getElem?.1 v;rw[List.getElem?_eraseIdx]at j;split at j
 .rename_i h;rw[List.getElem?_range (by omega)]at j;cases j;omega
 .rename_i h;have J:=(List.getElem?_eq_some_iff.1 j).1
  grind
def e8(H:Sat (IP E b X::Z) w)(aX:X.n<1099511627776){K:Int->World->Prop}
  (aQ:X.bk=[]-> ∀w',Sat (IP E b ⟨X.n+1,[]⟩::Z) w'->K ((X.n:Int)+1) w')
  (aR: ∀a r,X.bk=a::r-> ∀w',Sat (IP E b ⟨X.n,r⟩::Z) w'->K ((a:Int)+1) w'):F.Lj E (some ⟨b,0,none⟩) K w:=by
 obtain⟨s,R,c,hI,H⟩:=Sat.fix.1 H;unfold F.Lj;simp only[AH];refine⟨_,H.cell rfl,?_⟩;cases hb:X.bk with
 | nil=>
  unfold qI at H;rw[hb]at H;have hl:=(H.front 1 rfl).EA;rw[List.length_map,List.length_range,Nat.mul_one]at hl;refine AU (AS rfl ⟨s,H.cell rfl,?_⟩);rw[AM (n:=((s.len:Nat):Int)+1),<-hl];refine AQ (vs:=[.int .i64 ((X.n:Int)+1),.bool false,.pointer none]) H λy w9 H9 _=>⟨s,(H9.front 1 rfl).cell rfl,?_⟩;refine AQ (vs:=[.pointer (some ⟨y,0,none⟩)]) H9 λa2 a6 aF _=> ?_;refine GD (news:=[.pointer (some ⟨y,0,none⟩)]) (aF.FP 2 rfl) rfl rfl (by intro v hv;simp at hv;subst hv;rfl) (by omega) (by omega) λWB a7 aG _=> ?_;refine AV (aG.front 2 rfl) (o:=0) (m:=1) rfl (by simp) λa8 aH j=> ?_;simp only[AH];have aI:=aH.front 2 rfl;refine AV aI (o:=0) (m:=1) rfl (by simp) λaT aB=>AV aB (o:=0) (m:=2) rfl (by simp) λaU aC=> ?_;have J:=aC.front 1 rfl;refine⟨_,J.cell rfl,AV J (o:=0) (m:=3) rfl (by simp) λT O=>⟨_,(O.front 1 rfl).Aa rfl,aQ hb T ?_⟩⟩;refine Sat.fix.2 ⟨WB,λi=>if i=X.n then y else R i,i64 (c+1),⟨.nil,λi h=>(by cases h),by grind⟩,?_⟩;have e1:(List.range (X.n+1)).map (λi=>Value.pointer (some ⟨(if i=X.n then y else R i),0,none⟩))=((List.range X.n).map λi=>Value.pointer (some ⟨R i,0,none⟩))++[.pointer (some ⟨y,0,none⟩)]:=by
   rw[List.range_succ,List.map_append];congr 1
   .refine List.map_congr_left λi hi=> ?_
    grind
   .simp
  have e2:Ad (recC E R []) (List.range X.n)=Ad (recC E (λi=>if i=X.n then y else R i) []) (List.range X.n):=Ad.congr λx hx=>by
   have:=List.mem_range.1 hx;show recC E R [] x=Cells (if x=X.n then y else R x) _ _;rw[if_neg (by omega)];rfl
  have e3:recC E (λi=>if i=X.n then y else R i) [] X.n=Cells y E.Gr [.int .i64 ((X.n:Int)+1),.bool true,.pointer none]:=by
   show Cells (if X.n=X.n then y else R X.n) _ _=_;rw[if_pos rfl];rfl
  have Y:=(O.front 3 rfl).FP 1 rfl|>λh=>h.perm (.swap _ _ _);have aD:Sat (recC E (λi=>if i=X.n then y else R i) [] X.n::Ad (recC E (λi=>if i=X.n then y else R i) []) (List.range X.n)::Cells b E.Lr [.int .i64 1,GJ WB,.pointer none,.int .i64 (i64 (c+1))]::Row E.GM 1 WB (((List.range X.n).map λi=>Value.pointer (some ⟨R i,0,none⟩))++[.pointer (some ⟨y,0,none⟩)])::Z) T:=by
   rw[e3,<-e2];exact Y
  have aA:=aD.Ua;rw[<-List.range_succ]at aA;unfold qI;rw[e1];exact aA.perm (by
   have: ∀(a b c:Pr),(a::b::c::Z).Perm (b::c::a::Z):=λa b c=>(List.perm_middle (l₁:=[b,c]) (a:=a)).symm;exact this _ _ _)
 | cons a r=>
  unfold qI at H;rw[hb]at H;have ha:a<X.n:=hI.lt a (by rw[hb];simp);have aE:=hI.nd;rw[hb]at aE;have aP:a∉r:=(List.nodup_cons.1 aE).1;have hg:(List.range X.n)[a]? =some a:=List.getElem?_range ha;have H2:=(H.front 2 rfl).HA hg;have e0:U5 R (afterL (a::r) a)=U5 R r.head?:=by unfold afterL;grind
  have aM:recC E R (a::r) a=Cells (R a) E.Gr [.int .i64 ((a:Int)+1),.bool (!(a::r).contains a),.pointer (U5 R r.head?)]:=by unfold recC;rw[e0]
  rw[aM]at H2;refine AU (AO rfl ?_);show NC (some (Addr.mk (R a) 0 none)) _;simp only[AH];refine⟨_,H2.cell rfl,AV (H2.front 2 rfl) (o:=0) (m:=2) rfl (by simp) λa9 aK j=> ?_⟩;show NC (some (Addr.mk (R a) 0 none)) _;simp only[AH];have aL:=aK.front 1 rfl;refine AV aL (o:=0) (m:=1) rfl (by simp) λaT aB=> ?_;show NC (some (Addr.mk (R a) 0 none)) _;simp only[AH];refine AV aB (o:=0) (m:=2) rfl (by simp) λaU aC=> ?_;have J:=aC.front 1 rfl;refine⟨_,J.cell rfl,AV J (o:=0) (m:=3) rfl (by simp) λT O=> ?_⟩;show NC (some (Addr.mk (R a) 0 none)) _;simp only[AH];refine⟨_,(O.front 1 rfl).Aa rfl,aR a r hb T ?_⟩;refine Sat.fix.2 ⟨s,R,i64 (c+1),⟨(List.nodup_cons.1 aE).2,λi hi=>hI.lt i (by rw[hb];simp[hi]),hI.JI⟩,?_⟩;have e3:recC E R r a=Cells (R a) E.Gr [.int .i64 ((a:Int)+1),.bool true,.pointer none]:=by
   unfold recC;rw[W7 aP];have:r.contains a=false:=by grind
   rw[this];rfl
  have e2:Ad (recC E R (a::r)) ((List.range X.n).eraseIdx a)=Ad (recC E R r) ((List.range X.n).eraseIdx a):=Ad.congr λx hx=>by
   have a5:=U6 ha hx;unfold recC;have h1:(a::r).contains x=r.contains x:=by grind
   have h2:afterL (a::r) x=afterL r x:=by
    show(if a=x then r.head? else afterL r x)=_
    grind
   rw[h1,h2]
  have Y:=(O.front 1 rfl).FP 1 rfl;rw[e2]at Y;have aD:Sat (recC E R r a::Ad (recC E R r) ((List.range X.n).eraseIdx a)::Cells b E.Lr [.int .i64 1,GJ s,.pointer (U5 R r.head?),.int .i64 (i64 (c+1))]::Row E.GM 1 s ((List.range X.n).map λi=>.pointer (some ⟨R i,0,none⟩))::Z) T:=by
   rw[e3];exact Y
  have aA:=aD.JN hg;exact aA.perm (by
   have: ∀(a b c:Pr),(a::b::c::Z).Perm (b::c::a::Z):=λa b c=>(List.perm_middle (l₁:=[b,c]) (a:=a)).symm;exact this _ _ _)
def e9(H:Sat (IP E b X::Z) w){a:Nat}(ha:a<X.n)(J:a∉X.bk){K:Int->World->Prop}(hK: ∀w',Sat (IP E b ⟨X.n,a::X.bk⟩::Z) w'->K 0 w'):F.Gw E (some ⟨b,0,none⟩) ((a:Int)+1) K w:=by
 obtain⟨s,R,c,hI,H⟩:=Sat.fix.1 H;have aI:=hI.JI;have hl:=(H.front 1 rfl).EA;rw[List.length_map,List.length_range,Nat.mul_one]at hl;have hg:(List.range X.n)[a]? =some a:=List.getElem?_range ha;have aG:((List.range X.n).map λi=>Value.pointer (some ⟨R i,0,none⟩))[a]? =some (.pointer (some ⟨R a,0,none⟩)):=by grind
 obtain⟨x,O⟩:=(H.front 1 rfl).own.Gf (by omega);have hc:=(H.front 1 rfl).own.cell O aG;unfold F.Gw T0.Gw F.NZ;simp only[AH,Nat.mul_one];have et:Int.toNat (i64 (((a:Int)+1)-1))=a:=by rw[AM];omega
 have H2:=(H.front 2 rfl).HA hg;have e0:recC E R X.bk a=Cells (R a) E.Gr [.int .i64 ((a:Int)+1),.bool true,.pointer none]:=by
  unfold recC;rw[W7 J];have:X.bk.contains a=false:=by grind
  rw[this];rfl
 rw[e0]at H2;refine AS (decide_eq_true (by omega)) ⟨s,H.cell rfl,AS (decide_eq_true (by omega)) ⟨s,H.cell rfl,?_⟩⟩;rw[O];simp only[AH];rw[et];have y:(0:Int)<=i64 (((a:Int)+1)-1)/\i64 (((a:Int)+1)-1)<(s.len:Nat):=by rw[AM];omega
 refine⟨y,_,hc,?_⟩;simp only[AH];refine⟨true,H2.cell rfl,AO rfl ⟨s,H.cell rfl,?_⟩⟩;rw[O];simp only[AH];refine⟨y,_,hc,_,H.cell rfl,?_⟩;simp only[AH];refine AV H2 (o:=0) (m:=1) rfl (by simp) λaS Y=>AV Y (o:=0) (m:=2) rfl (by simp) λaT aA=> ?_;refine AV (aA.front 2 rfl) (o:=0) (m:=2) rfl (by simp) λaU j=>⟨_,j.cell rfl,AV j (o:=0) (m:=3) rfl (by simp) λT aB=>hK T ?_⟩;refine Sat.fix.2 ⟨s,R,i64 (c-1),⟨List.nodup_cons.2 ⟨J,hI.nd⟩,λi hi=> ?_,hI.JI⟩,?_⟩
 .rcases List.mem_cons.1 hi with h|h
  .subst h;exact ha
  .exact hI.lt i h
 .have e3:recC E R (a::X.bk) a=Cells (R a) E.Gr [.int .i64 ((a:Int)+1),.bool false,.pointer (U5 R X.bk.head?)]:=by
   unfold recC;have:(a::X.bk).contains a=true:=by simp
   rw[this];have:afterL (a::X.bk) a=X.bk.head?:=by unfold afterL;grind
   grind
  have e2:Ad (recC E R X.bk) ((List.range X.n).eraseIdx a)=Ad (recC E R (a::X.bk)) ((List.range X.n).eraseIdx a):=Ad.congr λx O=>by
   have aR:=U6 ha O;unfold recC;have h1:(a::X.bk).contains x=X.bk.contains x:=by grind
   have h2:afterL (a::X.bk) x=afterL X.bk x:=by
    show(if a=x then X.bk.head? else afterL X.bk x)=_
    grind
   rw[h1,h2]
  have v:=(aB.front 1 rfl).FP 1 rfl;rw[e2]at v;have aD:Sat (recC E R (a::X.bk) a::Ad (recC E R (a::X.bk)) ((List.range X.n).eraseIdx a)::Cells b E.Lr [.int .i64 1,GJ s,.pointer (some ⟨R a,0,none⟩),.int .i64 (i64 (c-1))]::Row E.GM 1 s ((List.range X.n).map λi=>.pointer (some ⟨R i,0,none⟩))::Z) T:=by
   rw[e3];exact v
  have aE:=Sat.JN aD hg;exact aE.perm (by
   have: ∀(a b c:Pr),(a::b::c::Z).Perm (b::c::a::Z):=λa b c=>(List.perm_middle (l₁:=[b,c]) (a:=a)).symm;exact this _ _ _)
end
abbrev mJ:=Int×Int×Int×Int
def Ig(e:mJ):List Value:=[.int .i64 e.1,.int .i64 e.2.1,.int .i64 e.2.2.1,.int .u32 e.2.2.2]
def Ae(e:mJ):(Ig e).length=4:=rfl
def aA(e:mJ): ∀v∈Ig e,v.oneCell'=true:=by intro v j;simp[Ig]at j;rcases j with rfl|rfl|rfl|rfl<;>rfl
def X6(n:Int):Bool:=(n !=0)&&(GC .u64 0 n (u64 (n-1))==0)
def Ju(size j:Int):Int:=if X6 (u64 size)=false then j else if 2048<=size then 256 else if 128<=size then i64 (Int.tdiv size 8)else if 32<=size then 16 else j
def bytesF(size:Int):Nat->Int->Int
 | 0,n=>n
 | k+1,n=>if Int.tmod n size>i64 (Int.tdiv n 8)then bytesF size k (i64 (n+8192))else n
def jJ(size n:Int):Bool:=decide (¬Int.tmod n size>i64 (Int.tdiv n 8))
structure RE where
 NJ:Int
 size:Int
 l:List mJ
def RE.last(s:RE):mJ:=s.l.getLastD (0,0,0,0)
def RE.same(s:RE):Bool:=decide (1<s.l.length)&&(s.last.2.1==i64 (Int.tdiv (bytesF s.size 16 8192) 8192)&&(i64 (Int.tdiv (i64 (s.last.2.1*8192)) s.last.1)==i64 (Int.tdiv (bytesF s.size 16 8192) s.size)))
def RE.next(s:RE):RE:=
 ⟨Ju s.size s.NJ,i64 (s.size+Ju s.size s.NJ),
  if s.same=true then s.l.dropLast++[(s.size,s.last.2)]else s.l++[(s.size,i64 (Int.tdiv (bytesF s.size 16 8192) 8192),0,0)]⟩
def RE.qJ(s:RE):Bool:=decide (8<=s.size)&&(decide (s.size<=32768)&&(jJ s.size (bytesF s.size 16 8192)&&(decide (0<s.l.length)&&(decide (s.l.length<=200)&&((decide (8<=Ju s.size s.NJ)&&decide (Ju s.size s.NJ<=10000))&&(decide (s.l.length=1)||s.last.1 !=0))))))
def Pn:Nat->RE
 | 0=>⟨8,8,[(0,0,0,0)]⟩
 | n+1=>(Pn n).next
def runAll:Nat->RE->Bool×RE
 | 0,s=>(true,s)
 | n+1,s=>match s.qJ with
  | true=>runAll n s.next
  | false=>(false,s)
def Su: ∀(n k:Nat) {s:RE},(runAll n (Pn k))=(true,s)->(∀j,j<n->(Pn (k+j)).qJ=true)/\Pn (k+n)=s
 | 0,k,s,h=>⟨λj v=>by omega,(Prod.mk.inj h).2⟩
 | n+1,k,s,h=>by
  unfold runAll at h;split at h
  .rename_i hg;have y:=Su n (k+1) (s:=s) h;refine⟨λj v=> ?_,by rw[<-y.2,show k+1+n=k+(n+1) by omega]⟩;cases j with
   | zero=>exact hg
   | succ j=>grind
  .cases h
def Ei(c:mJ):mJ:=
 let n:=i64 (c.2.1*8192)
 let wide:=i64 (i64 (Int.tdiv (i64 (Int.tdiv n (i64 (Int.tdiv n c.1)))) 128)*128)
 let sz:=if wide>c.1 then wide else c.1
 (sz,c.2.1,i64 (Int.tdiv n sz),if IntKind.wrap .u32 sz<2 then 0 else IntKind.wrap .u32 (IntKind.wrap .u32 (Int.tdiv 4294967295 (IntKind.wrap .u32 sz))+1))
def aB(c:mJ):Bool:=(c.1 !=0)&&((i64 (Int.tdiv (i64 (c.2.1*8192)) c.1) !=0)&&((Ei c).1 !=0&&(decide (IntKind.wrap .u32 (Ei c).1<2)||IntKind.wrap .u32 (Ei c).1 !=0)))
def rounds:Nat:=162
def aC:RE:=(runAll rounds (Pn 0)).2
def LP:List mJ:=match aC.l with
 | []=>[]
 | c::r=>c::r.map Ei
def run_ok:(runAll rounds (Pn 0)).1=true:=by decide+kernel
def jK:aC.size>32768:=by decide+kernel
def jL:aC.l.length=68:=by decide+kernel
def jM:(aC.l.tail.all aB)=true:=by decide+kernel
def IZ:LP.length=68:=by decide+kernel
def runs:(∀j,j<rounds->(Pn j).qJ=true)/\Pn rounds=aC:=by
 have h:runAll rounds (Pn 0)=(true,aC):=Prod.ext run_ok rfl;have:=Su rounds 0 h
 grind
structure MkG(s:RE):Prop where
 s0:8<=s.size
 s1:s.size<=32768
 NJ:Int.tmod (bytesF s.size 16 8192) s.size<=i64 (Int.tdiv (bytesF s.size 16 8192) 8)
 l0:0<s.l.length
 l1:s.l.length<=200
 st0:8<=Ju s.size s.NJ
 st1:Ju s.size s.NJ<=10000
 nz:1<s.l.length->s.last.1≠0
def RF{s:RE}(h:s.qJ=true):MkG s:=by
 unfold RE.qJ jJ at h;simp only[Bool.and_eq_true,decide_eq_true_eq,Bool.or_eq_true,bne_iff_ne]at h;obtain⟨h1,h2,K,j,v,⟨y,J⟩,O⟩:=h;exact⟨h1,h2,by omega,j,v,y,J,λh=>by omega⟩
section
variable{E:Env}{w:World}{Z:List Pr}
def U7{n:Int}{K:Bool->World->Prop}(j:K (X6 n) w):F.Qw E n K w:=by
 unfold F.Qw;unfold X6 at j;refine Ca (λh=> ?_) λh=> ?_
 .rw[show(n !=0)=true by grind,Bool.true_and]at j;exact j
 .subst h;exact j
def mK{size v:Int}(h0:8<=size){K:Int->World->Prop}(j:K (Ju size v) w):F.Iq E size v K w:=by
 unfold F.Iq T0.Iq;unfold Ju at j;refine U7 ?_;cases hp:X6 (u64 size)
 .rw[hp,if_pos rfl]at j;exact AS rfl j
 .rw[hp,if_neg (by decide)]at j;refine AO rfl (AB (λh=> ?_) λh=>AB (λh2=>⟨by decide,?_⟩) λh2=>AB (λy=> ?_) λy=> ?_)
  .rw[if_pos h]at j;exact j
  .rw[if_neg h,if_pos h2]at j;exact j
  .rw[if_neg h,if_neg h2,if_pos y]at j;exact j
  .rw[if_neg h,if_neg h2,if_neg y]at j;exact j
def fA{size:Int}(hs:size≠0)(Au:Int.tmod (bytesF size 16 8192) size<=i64 (Int.tdiv (bytesF size 16 8192) 8)){K:Int->World->Prop}(T:K (bytesF size 16 8192) w):F.MU E size 8192 K w:=by
 unfold F.MU;refine AJ (λst w'=>w'=w/\ ∃i:Nat,i<=16/\st.1=8192+i*8192/\bytesF size (16-i) st.1=bytesF size 16 8192) (λst _=>(200000-st.1).toNat) ⟨rfl,0,by decide,by omega,rfl⟩ ?_;rintro⟨n,v⟩ _ w2 ⟨rfl,i,Y,O,j⟩;dsimp only at O j⊢;refine⟨hs,by decide,AB (λy=> ?_) λhle=> ?_⟩
 .rcases Nat.lt_or_ge i 16 with J|J
  .obtain⟨k,hk⟩: ∃k,16-i=k+1:=⟨15-i,by omega⟩;rw[hk]at j;rw[AM (n:=n+8192)];refine⟨⟨by trivial,i+1,by omega,by omega,?_⟩,by omega⟩;rw[<-j,show 16-(i+1)=k by omega];unfold bytesF;rw[if_pos y,AM (n:=n+8192)];cases k<;>rfl
  .have:i=16:=by omega
   subst this;have:bytesF size 0 n=n:=rfl
   grind
 .have:bytesF size (16-i) n=n:=by
   cases h:16-i with
   | zero=>rfl
   | succ k=>unfold bytesF;rw[if_neg (by omega)]
  grind
def fB{n:Int}(y:n<2∨n≠0){K:Int->World->Prop}(j:K (if n<2 then 0 else IntKind.wrap .u32 (IntKind.wrap .u32 (Int.tdiv 4294967295 n)+1)) w):F.PO E n K w:=by
 unfold F.PO;refine AB (λh=> ?_) λh=>⟨by omega,Am λx v=> ?_⟩
 .rw[if_pos h]at j;exact j
 .rw[if_neg h]at j;rw[v];exact j
def aD{L:List mJ}(h:0<L.length)(y:mJ):L.set (L.length-1) y=L.dropLast++[y]:=by
 apply List.ext_getElem?
 grind
def aE{L:List mJ}(h:0<L.length):L[L.length-1]? =some (L.getLastD (0,0,0,0)):=by grind
def Nh(H:Sat Z w){K:Ac->World->Prop}(hK: ∀s w',Sat (Row E.At 4 s (Ao Ig LP)::Z) w'->K s w'):F.Fk E K w:=by
 unfold F.Fk T0.Fk F.Jj T0.Jj;have p1:X6 (u64 8192)=true:=by decide+kernel
 have p2:X6 (u64 32768)=true:=by decide+kernel
 refine AU (AO (by decide) (AO (by decide) (U7 ?_)));rw[p1];refine AO rfl (AO (by decide) (AO (by decide+kernel) (U7 ?_)));rw[p2];refine λj=>AO rfl ?_;obtain⟨aG,aM⟩:=runs;refine IU (n:=1) (z:=4) H rfl (by decide) λb8 w9 H9=> ?_;refine AJ (λst w'=> ∃k:Nat,k<=rounds/\st.2.1=(Pn k).NJ/\st.2.2.1=(Pn k).size/\Sat (Row E.At 4 st.1 (Ao Ig (Pn k).l)::Z) w') (λst _=>(40000-st.2.2.1).toNat)
  ⟨0,Nat.zero_le _,rfl,rfl,H9⟩ ?_
 rintro⟨FJ,NJ,size,v⟩ _ b5 ⟨k,hk,aO,aL,O⟩;dsimp only at aO aL O⊢;have hl:=O.Gb (by decide) Ae;refine AB (λhle=> ?_) λa1=> ?_
 .have aP:k<rounds:=by
   rcases Nat.lt_or_eq_of_le hk with g|g
   .exact g
   .subst g;rw[aM]at aL;have:=jK;omega
  have hg:=RF (aG k aP);rw[aO,aL];generalize hS:Pn k=S at hg aL aO O hl⊢;have aJ:Pn (k+1)=S.next:=by rw[<-hS];rfl
  have bR:=hg.s0;have bS:=hg.s1;have a0:=hg.l0;have bE:=hg.l1;refine mK hg.s0 (fA (by omega) hg.NJ ?_);have J:=aE a0;obtain⟨b,Y⟩:=O.FY (by decide) Ae (i:=S.l.length-1) (by omega);rw[Y];simp only[AH];rw[AM (n:=((FJ.len:Nat):Int)-1)];have et:Int.toNat (((FJ.len:Nat):Int)-1)=S.l.length-1:=by omega
  rw[et];have Hd:=O.drew;have c0:=Hd.Bp Ae Y J (j:=0) rfl;have c1:=Hd.Bp Ae Y J (j:=1) rfl;have aQ:S.l.getLastD (0,0,0,0)=S.last:=rfl;rw[aQ]at c0 c1 J;rw[Nat.add_zero]at c0;have bI:=hg.st0;have bJ:=hg.st1;rw[AM (n:=S.size+Ju S.size S.NJ)];have bH:S.next.size=S.size+Ju S.size S.NJ:=AM;refine⟨⟨by omega,by omega⟩,?_⟩;refine Aj (λst w'=>st.1=S.same/\Sat (Row E.At 4 FJ (Ao Ig S.l)::Z) w') ?_ ?_
  .unfold RE.same;refine AB (λh1=>⟨S.last.2.1,by rw[add_add];exact c1,by decide,BI (λe1=> ?_) λe1=> ?_⟩) λh1=> ?_
   .have d1:decide (1<S.l.length)=true:=decide_eq_true (by omega);have a7:=c0;have a8:=c1;refine⟨S.last.2.1,by rw[add_add];exact a8,S.last.1,a7,hg.nz (by omega),by omega,?_,Hd⟩
    grind
   .refine⟨?_,Hd⟩
    grind
   .refine⟨?_,Hd⟩
    grind
  rintro⟨x,v⟩ _ b6 ⟨hx,aT⟩;dsimp only at hx;subst hx;refine AP (λe=> ?_) λe=>⟨by decide,?_⟩
  .have hs:=Il aT (j:=(S.l.length-1)*4) (v:=.int .i64 S.size) (K:=λa3=>(∃k:Nat,k<=rounds/\Ju S.size S.NJ=(Pn k).NJ/\S.size+Ju S.size S.NJ=(Pn k).size/\Sat (Row E.At 4 FJ (Ao Ig (Pn k).l)::Z) a3)/\(40000-(S.size+Ju S.size S.NJ)).toNat<(40000-S.size).toNat) rfl (by rw[D8 Ae];omega) Y λa3 a4=>⟨⟨k+1,by omega,by rw[aJ];rfl,by grind,?_⟩,by omega⟩
   .exact hs
   .have:=JS Ae J (j:=0) (y:=(S.size,S.last.2)) (v:=.int .i64 S.size) (by decide) rfl;rw[Nat.add_zero]at this;rw[this,aD a0]at a4;rw[aJ];unfold RE.next
    grind
  .refine AQ aT λbO b7 a5 _=> ?_;refine GD (news:=Ig (S.size,i64 (Int.tdiv (bytesF S.size 16 8192) 8192),0,0)) a5 rfl rfl (aA _) (by omega) (by omega) λzC b9 a6 _=>⟨⟨k+1,by omega,by rw[aJ];rfl,by grind,?_⟩,by omega⟩;have e1:Ao Ig S.l++Ig (S.size,i64 (Int.tdiv (bytesF S.size 16 8192) 8192),0,0)=Ao Ig (S.l++[(S.size,i64 (Int.tdiv (bytesF S.size 16 8192) 8192),0,0)]):=by rw[F9];simp[Ao]
   rw[e1]at a6;rw[aJ];unfold RE.next
   grind
 .have aP:k=rounds:=by
   rcases Nat.lt_or_eq_of_le hk with g|g
   .have:=(RF (aG k g)).s1;omega
   .exact g
  subst aP;rw[aM]at O hl;have hlen:=jL;cases hL:aC.l with
  | nil=>grind
  | cons c0 T=>
   rw[hL]at O hl hlen;have hT:T.length=67:=by grind
   have aZ: ∀i c,T[i]? =some c->aB c=true:=λi c hc=>by
    have:=jM;rw[hL]at this;exact List.all_eq_true.1 this c (List.mem_of_getElem? hc)
   have bK:LP=c0::T.map Ei:=by unfold LP;rw[hL]
   refine⟨⟨by decide,by omega⟩,?_⟩;refine AJ (λst w'=> ∃i:Nat,st.1=(i:Int)/\i<=67/\Sat (Row E.At 4 FJ (Ao Ig (c0::((T.take i).map Ei++T.drop i)))::Z) w') (λst _=>(67-st.1).toNat) ⟨0,rfl,by decide,O⟩ ?_;rintro⟨i',v⟩ _ bD ⟨i,hi,bG,aF⟩;dsimp only at hi⊢;subst hi;refine AB (λbW=> ?_) λbT=> ?_
   .have bV:i<67:=by omega
    obtain⟨c,hc⟩: ∃c,T[i]? =some c:=⟨_,List.getElem?_eq_getElem (by omega)⟩;have Au:=aZ i c hc;unfold aB at Au;simp only[Bool.and_eq_true,Bool.or_eq_true,decide_eq_true_eq,bne_iff_ne]at Au;obtain⟨o1,o2,o3,o4⟩:=Au;rw[AM (n:=(i:Int)+1)];have et:Int.toNat ((i:Int)+1)=i+1:=by omega
    rw[et];generalize hF:(c0::((T.take i).map Ei++T.drop i))=FX at aF;have bQ:FX.length=68:=by grind
    have aI:FX[i+1]? =some c:=by grind
    have bA:FX.set (i+1) (Ei c)=c0::((T.take (i+1)).map Ei++T.drop (i+1)):=by
     rw[<-hF,List.set_cons_succ];congr 1;have bB:c=T[i]:=by rw[List.getElem?_eq_getElem (by omega)]at hc;exact(Option.some.inj hc).symm
     rw[List.set_append_right _ _ (by rw[List.length_map,List.length_take];omega),List.length_map,List.length_take,Nat.min_eq_left (by omega),Nat.sub_self,List.take_succ_eq_append_getElem (by omega),List.map_append,List.drop_eq_getElem_cons (by omega),List.set_cons_zero,List.append_assoc,bB];rfl
    obtain⟨b,Y⟩:=aF.FY (by decide) Ae (i:=i+1) (by omega);rw[Y];simp only[AH];have d0:=aF.Bp Ae Y aI (j:=0) rfl;have d1:=aF.Bp Ae Y aI (j:=1) rfl;rw[Nat.add_zero]at d0;refine⟨⟨by omega,by omega⟩,c.2.1,by rw[add_add];exact d1,?_⟩;refine Aj (λ_ w'=>Sat (Row E.At 4 FJ (Ao Ig (FX.set (i+1) ((Ei c).1,c.2)))::Z) w') ?_ ?_
    .refine⟨c.1,d0,o1,o2,by decide,Am λwide aR=>⟨c.1,d0,AB (λa1=> ?_) λbX=> ?_⟩⟩
     .have e1:(Ei c).1=wide:=by unfold Ei;dsimp only;rw[<-aR,if_pos a1]
      refine Il aF (j:=(i+1)*4) rfl (by rw[D8 Ae];omega) Y λcB bM=> ?_;have:=JS Ae aI (j:=0) (y:=(wide,c.2)) (v:=.int .i64 wide) (by decide) rfl
      grind
     .have e1:(Ei c).1=c.1:=by unfold Ei;grind
      show Sat (Row E.At 4 FJ (Ao Ig (FX.set (i+1) ((Ei c).1,c.2)))::Z) bD;rw[e1];have:FX.set (i+1) (c.1,c.2)=FX:=by
       have:=List.getElem?_eq_some_iff.1 aI;rw[show(c.1,c.2)=FX[i+1]from this.2.symm,List.set_getElem_self]
      grind
    rintro _ _ cA aU;have g1:(FX.set (i+1) ((Ei c).1,c.2))[i+1]? =some ((Ei c).1,c.2):=by grind
    have f0:=aU.Bp Ae Y g1 (j:=0) rfl;rw[Nat.add_zero]at f0;have aK:i64 (Int.tdiv (i64 (c.2.1*8192)) (Ei c).1)=(Ei c).2.2.1:=rfl;refine⟨(Ei c).1,f0,o3,?_⟩;rw[aK,add_add];refine Il aU (j:=(i+1)*4+2) rfl (by rw[D8 Ae,List.length_set];omega) Y λcC aN=> ?_;have:=JS Ae g1 (j:=2) (y:=((Ei c).1,c.2.1,(Ei c).2.2.1,c.2.2.2)) (v:=.int .i64 (Ei c).2.2.1) (by decide) rfl;rw[this,List.set_set]at aN;have g2:(FX.set (i+1) ((Ei c).1,c.2.1,(Ei c).2.2.1,c.2.2.2))[i+1]? =some ((Ei c).1,c.2.1,(Ei c).2.2.1,c.2.2.2):=by grind
    have aX:=aN.Bp Ae Y g2 (j:=0) rfl;rw[Nat.add_zero]at aX;refine⟨(Ei c).1,aX,fB o4 ?_⟩;have a2:(if IntKind.wrap .u32 (Ei c).1<2 then(0:Int)else IntKind.wrap .u32 (IntKind.wrap .u32 (Int.tdiv 4294967295 (IntKind.wrap .u32 (Ei c).1))+1))=(Ei c).2.2.2:=rfl;rw[a2,add_add];refine Il aN (j:=(i+1)*4+3) rfl (by rw[D8 Ae,List.length_set];omega) Y λcD aV=>⟨⟨i+1,by omega,by omega,?_⟩,by omega⟩;have h3:=JS Ae g2 (j:=3) (y:=Ei c) (v:=.int .u32 (Ei c).2.2.2) (by decide) rfl;rw[h3,List.set_set,bA]at aV;exact aV
   .have bU:i=67:=by omega
    grind
end
structure SI where
 base:Int
 AA:Int
 state:Int
 cls:Int
 G5:Bool
 elem:Int
 AK:Int
 used:Int
 f8:Bool
 f9:Bool
 M6:Int
 uw:List Int
 mw:List Int
 look:Int
def Gh(S:SI)(j sm:Ac):List Value:=[.int .u64 S.base,.int .i64 S.AA,.int .i64 S.state,.int .i64 S.cls,.bool S.G5,.int .i64 S.elem,.int .i64 S.AK,.int .i64 S.used,.bool S.f8,.bool S.f9,.int .u32 S.M6,GJ j,GJ sm,.int .i64 S.look]
def aF(E:Env)(b:Nat)(S:SI)(j sm:Ac):List Pr:=[Cells b E.Fc (Gh S j sm),Row E.AD 1 j (ints .u64 S.uw),Row E.AD 1 sm (ints .u64 S.mw)]
def DF(E:Env)(b:Nat)(S:SI):Pr:=Ex λx:Ac×Ac=>NR (aF E b S x.1 x.2)
def AX(c:Int):mJ:=LP.getD c.toNat (0,0,0,0)
def Gl(page AA c:Int):Prop:=AA=0∨34359738368<page∨34359738368-page<AA∨c<0∨68<=c∨(c=0/\134217728<AA)∨(0<c/\AA≠(AX c).2.1)
def Gx(page AA c:Int)(G5:Bool):SI:=⟨page*8192,AA,1,c,G5,if c=0 then AA*8192 else(AX c).1,if c=0 then 1 else(AX c).2.2.1,0,false,false,(AX c).2.2.2,[],[],0⟩
def mL:(LP.all λc=>decide (0<=c.2.1)&&decide (c.2.1<=100))=true:=by decide+kernel
def K4{c:Int}(h0:0<=c)(h1:c<68):LP[c.toNat]? =some (AX c):=by
 have j:c.toNat<LP.length:=by rw[IZ];omega
 unfold AX
 grind
def Ia{c:Int}(h0:0<=c)(h1:c<68):0<=(AX c).2.1/\(AX c).2.1<=100:=by
 have:=List.all_eq_true.1 mL _ (List.mem_of_getElem? (K4 h0 h1))
 grind
section
variable{E:Env}{b:Nat}{S:SI}{Z:List Pr}{w:World}
def Sat.span:Sat (DF E b S::Z) w↔ ∃j sm,Sat (aF E b S j sm++Z) w:=by
 unfold DF;rw[Sat.ex];constructor
 .rintro⟨⟨j,sm⟩,h⟩;exact⟨j,sm,Sat.star.1 h⟩
 .rintro⟨j,sm,h⟩;exact⟨⟨j,sm⟩,Sat.star.2 h⟩
def U8(H:Sat Z w){page AA c:Int}{np:Bool}(h0:0<=page)(p0:0<=AA)(p1:AA<18446744073709551616){K:Option Addr->Int->World->Prop}
  (aS:Gl page AA c-> ∀w',Sat Z w'->K none 1 w')(aT: ¬Gl page AA c-> ∀b w',Sat (DF E b (Gx page AA c np)::Z) w'->K (some ⟨b,0,none⟩) 0 w'):F.LK E page AA c np K w:=by
 unfold F.LK T0.LK;refine Nh H λO w2 H2=> ?_;have hl:=H2.Gb (by decide) Ae;rw[IZ]at hl;have ct:0<=c->c<68-> ∃x,O.base=some ⟨x,0,none⟩/\ ∀{w'} {Y:List Pr},Sat (Row E.At 4 O (Ao Ig LP)::Y) w'->w'.cell? ((Addr.mk x 0 none).add (Int.toNat c*4))=some (.int .i64 (AX c).1)/\w'.cell? (((Addr.mk x 0 none).add (Int.toNat c*4)).add 1)=some (.int .i64 (AX c).2.1)/\
   w'.cell? (((Addr.mk x 0 none).add (Int.toNat c*4)).add 2)=some (.int .i64 (AX c).2.2.1)/\w'.cell? (((Addr.mk x 0 none).add (Int.toNat c*4)).add 3)=some (.int .u32 (AX c).2.2.2):=λc0 c1=>by
  obtain⟨x,T⟩:=H2.FY (by decide) Ae (i:=c.toNat) (by rw[IZ];omega);refine⟨x,T,λh=>⟨?_,?_,?_,?_⟩⟩
  .have:=h.Bp Ae T (K4 c0 c1) (j:=0) rfl;omega
  .rw[add_add];exact h.Bp Ae T (K4 c0 c1) (j:=1) rfl
  .rw[add_add];exact h.Bp Ae T (K4 c0 c1) (j:=2) rfl
  .rw[add_add];exact h.Bp Ae T (K4 c0 c1) (j:=3) rfl
 have v:Gl page AA c->K none 1 w2:=λh=>aS h w2 H2.tail;have main: ¬Gl page AA c->
   NC O.base λaJ=>
   ((0:Int)<=c/\(c:Int)<(O.len:Nat))/\
   ∃aD:Int,w2.drew.cell? (aJ.add (Int.toNat c*4))=some (.int .i64 aD)/\
   NC O.base λaK=>
   ((0:Int)<=c/\(c:Int)<(O.len:Nat))/\
   ∃aE:Int,w2.drew.cell? ((aK.add (Int.toNat c*4)).add 2)=some (.int .i64 aE)/\
   NC O.base λaL=>
   ((0:Int)<=c/\(c:Int)<(O.len:Nat))/\
   ∃aF:Int,w2.drew.cell? ((aL.add (Int.toNat c*4)).add 3)=some (.int .u32 aF)/\
   AL (.cells #[.int .u64 (u64 (page*8192)),.int .i64 (i64 (AA)),.int .i64 1,.int .i64 c,.bool np,.int .i64 aD,.int .i64 aE,.int .i64 0,.bool false,.bool false,.int .u32 aF,.slice none 0 0,.slice none 0 0,.int .i64 0] E.Fc) w2.drew λy J=>
   J.cell? ((aL.add (Int.toNat c*4)).add 3)=some (.int .u32 aF)/\
   J.cell? ((aK.add (Int.toNat c*4)).add 2)=some (.int .i64 aE)/\
   J.cell? (aJ.add (Int.toNat c*4))=some (.int .i64 aD)/\
   CND ((c:Int)==0) (
    stCells ((Addr.mk y 0 none).add 5) 0 [.int .i64 (i64 ((i64 (AA))*8192))] J λaM=>
    stCells ((Addr.mk y 0 none).add 6) 0 [.int .i64 1] aM λaN=>
    K (some (Addr.mk y 0 none)) 0 aN
   ) (
    K (some (Addr.mk y 0 none)) 0 J
   ):=λaI=>by
  have aA:=aI;unfold Gl at aA;have c0:0<=c:=by omega
  have c1:c<68:=by omega
  have aR:=Ia c0 c1;have a1:AA<=134217728:=by
   by_cases e:c=0
   .omega
   .have:AA=(AX c).2.1:=Classical.byContradiction λh=>aA (.inr (.inr (.inr (.inr (.inr (.inr ⟨by omega,h⟩))))));omega
  obtain⟨x,T,Ch⟩:=ct c0 c1;have Hd:=H2.drew;obtain⟨d0,d1,d2,d3⟩:=Ch Hd;have aC:(0:Int)<=c/\(c:Int)<(O.len:Nat):=by omega
  rw[T];simp only[AH];refine⟨aC,_,d0,aC,_,d2,aC,_,d3,?_⟩;rw[AI (n:=page*8192),AM (n:=AA),AM (n:=AA*8192)];refine AQ (vs:=[.int .u64 (page*8192),.int .i64 AA,.int .i64 1,.int .i64 c,.bool np,.int .i64 (AX c).1,.int .i64 (AX c).2.2.1,.int .i64 0,.bool false,.bool false,.int .u32 (AX c).2.2.2,.slice none 0 0,.slice none 0 0,.int .i64 0]) Hd λy J aB _=> ?_;obtain⟨f0,f1,f2,f3⟩:=Ch (aB.front 1 rfl);have fin: ∀{w'} {el sl:Int},el=(if c=0 then AA*8192 else(AX c).1)->sl=(if c=0 then 1 else(AX c).2.2.1)->
    Sat (Cells y E.Fc [.int .u64 (page*8192),.int .i64 AA,.int .i64 1,.int .i64 c,.bool np,.int .i64 el,.int .i64 sl,.int .i64 0,.bool false,.bool false,.int .u32 (AX c).2.2.2,.slice none 0 0,.slice none 0 0,.int .i64 0]::Row E.At 4 O (Ao Ig LP)::Z) w'->K (some ⟨y,0,none⟩) 0 w':=λe1 e2 h=>by
   subst e1;subst e2;refine aT aI y _ (Sat.span.2 ⟨⟨none,0,0⟩,⟨none,0,0⟩,?_⟩);have h1:=(h.front 1 rfl).tail;have h2:=h1.nil E.AD 1;have h3:=h2.nil E.AD 1;exact h3.perm ((List.reverse_perm [_,_,_]).symm.append_right Z)
  refine⟨f3,f2,f0,BI (λe=> ?_) λe=>fin (by omega) (by omega) aB⟩;refine AV aB (o:=0) (m:=5) rfl (by simp) λaM aO=>AV aO (o:=0) (m:=6) rfl (by simp) λaN aP=>fin (by omega) (by omega) aP
 refine AU (BI (λe j=>AS rfl (v (.inl e))) λn1=>AB (λe j=>AS rfl (v (.inr (.inl (by omega))))) λn2=> ?_);rw[AI (n:=34359738368-page)];refine AB (λe j=>AS rfl (v (.inr (.inr (.inl (by omega)))))) λn3=>AB (λe j=>AS rfl (v (.inr (.inr (.inr (.inl e)))))) λn4=>AB (λe j=>AS rfl (v (.inr (.inr (.inr (.inr (.inl (by omega)))))))) λn5=>BI (λe0=>AB (λe j=>AS rfl (v (.inr (.inr (.inr (.inr (.inr (.inl ⟨e0,by omega⟩)))))))) λn6=>AB (λe=>by omega) λn7 j=>AO rfl (main ?_)) λe0=>AB (λe=> ?_) λn7=>by omega
 .unfold Gl;omega
 .obtain⟨x,T,Ch⟩:=ct (by omega) (by omega);have aR:=Ia (c:=c) (by omega) (by omega);have aQ:=(Ch H2).2.1;have m':=main;rw[T]at m'⊢;simp only[AH]at m'⊢;refine⟨⟨by omega,by omega⟩,_,aQ,λj=> ?_⟩;rw[AI (n:=(AX c).2.1)];refine Ca (λh=>v (.inr (.inr (.inr (.inr (.inr (.inr ⟨by omega,h⟩))))))) λh=>m' ?_;unfold Gl;omega
def Ma(H:Sat (DF E b S::Z) w){K:Int->Int->Int->Int->Bool->Int->Int->Int->Bool->Bool->World->Prop}(J: ∀w',Sat (DF E b S::Z) w'->K S.base S.AA S.state S.cls S.G5 S.elem S.AK S.used S.f8 S.f9 w'):
  F.DG E (some ⟨b,0,none⟩) K w:=by
 obtain⟨O,sm,H⟩:=Sat.span.1 H;unfold F.DG;simp only[AH];refine AQ (vs:=[.int .u64 0,.int .i64 0,.int .i64 0,.int .i64 0,.bool false,.int .i64 0,.int .i64 0,.int .i64 0,.bool false,.bool false]) H λb1 T y _=> ?_;have h:=y.front 1 rfl;refine⟨_,h.cell rfl,_,h.cell rfl,_,h.cell rfl,_,h.cell rfl,_,h.cell rfl,_,h.cell rfl,_,h.cell rfl,_,h.cell rfl,_,h.cell rfl,_,h.cell rfl,?_⟩;refine Gm (news:=[.int .u64 S.base,.int .i64 S.AA,.int .i64 S.state,.int .i64 S.cls,.bool S.G5,.int .i64 S.elem,.int .i64 S.AK,.int .i64 S.used,.bool S.f8,.bool S.f9]) y rfl (by simp[Value.oneCell']) λv j=> ?_;exact⟨_,j.cell rfl,_,j.cell rfl,_,j.cell rfl,_,j.cell rfl,_,j.cell rfl,_,j.cell rfl,_,j.cell rfl,_,j.cell rfl,_,j.cell rfl,_,j.cell rfl,J v (Sat.span.2 ⟨O,sm,j.tail⟩)⟩
def fC(H:Sat (DF E b S::Z) w){K:Int->World->Prop}(v:(S.state=0∨0<S.used)->K 33 w)
  (y: ¬(S.state=0∨0<S.used)-> ∀w',Sat (DF E b {S with state:=0,used:=0,uw:=[],mw:=[]}::Z) w'->K 0 w'):F.LB E (some ⟨b,0,none⟩) K w:=by
 obtain⟨su,sm,H⟩:=Sat.span.1 H;unfold F.LB;simp only[AH];refine AU ⟨_,H.cell rfl,BI (λe j=>AS rfl (v (.inl e))) λn1=>⟨_,H.cell rfl,λj=>AB (λe=>v (.inr e)) λn2=> ?_⟩⟩;refine AV H (o:=0) (m:=2) rfl (by simp[Gh]) λw1 H1=>AV H1 (o:=0) (m:=7) rfl (by simp[Gh]) λw2 J=>AV J (o:=0) (m:=11) rfl (by simp[Gh]) λw3 O=>AV O (o:=0) (m:=12) rfl (by simp[Gh]) λw4 T=>y (by omega) w4 (Sat.span.2 ⟨⟨none,0,0⟩,⟨none,0,0⟩,?_⟩);have h1:=(T.front 1 rfl).tail;have h2:=(h1.front 1 rfl).tail;have Y:=h2.nil E.AD 1;have h4:=Y.nil E.AD 1;exact h4.perm ((List.reverse_perm [_,_,_]).symm.append_right Z)
end
end Go.Sh

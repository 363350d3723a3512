/- Records, classes and spans do what they say. No further condition. -/
import Derived.Test.YtcjamkpfbpfeoaaGreatDoorA
import Derived.Test.YtcjamkpfbpfeoaaGreatDoorM
import Derived.Test.YtcjamkpfbpfeoaaGreatDoorY
import Derived.Test.YtcjamkpfbpfeoaaGreatDoorF
import Derived.Test.YtcjamkpfbpfeoaaGreatDoorSh
set_option linter.all false
set_option maxRecDepth 4000
set_option maxHeartbeats 1000000
namespace Go.Sh
section
variable{α:Type}{f:α->List Value}{z:Nat}
def Bj(f:α->List Value)(L:List α):List Value:=L.flatMap f
theorem E6(x:α)(L:List α):Bj f (x::L)=f x++Bj f L:=by simp[Bj]
theorem Hf(L M:List α):Bj f (L++M)=Bj f L++Bj f M:=by simp[Bj]
theorem DQ(hf: ∀x,(f x).length=z): ∀L:List α,(Bj f L).length=L.length*z
 | []=>by simp[Bj]
 | x::r=>by rw[E6,List.length_append,DQ hf r,hf,List.length_cons,Nat.succ_mul];omega
theorem Vd(hf: ∀x,(f x).length=z): ∀{L:List α} {i:Nat} {x:α} {j:Nat} {v:Value},L[i]? =some x->(f x)[j]? =some v->(Bj f L)[i*z+j]? =some v
 | y::r,0,x,j,v,h,hj=>by
  have h:y=x:=Option.some.inj h;subst h;have:=(List.getElem?_eq_some_iff.1 hj).1;rw[E6,Nat.zero_mul,Nat.zero_add,List.getElem?_append_left this];exact hj
 | y::r,i+1,x,j,v,h,hj=>by
  rw[E6,Nat.succ_mul,List.getElem?_append_right (by rw[hf];omega),hf,show i*z+z+j-z=i*z+j by omega];exact Vd hf (L:=r) h hj
theorem Sr(hf: ∀x,(f x).length=z): ∀(L:List α) (i:Nat),(Bj f L).take (i*z)=Bj f (L.take i)
 | [],i=>by simp[Bj]
 | y::r,0=>by simp[Bj]
 | y::r,i+1=>by
  rw[E6,List.take_succ_cons,E6,List.take_append,hf,List.take_of_length_le (by rw[hf,Nat.succ_mul];omega),Nat.succ_mul,show i*z+z-z=i*z by omega,Sr hf r i]
theorem Ss(hf: ∀x,(f x).length=z): ∀(L:List α) (i:Nat),(Bj f L).drop (i*z)=Bj f (L.drop i)
 | [],i=>by simp[Bj]
 | y::r,0=>by simp
 | y::r,i+1=>by
  rw[E6,List.drop_succ_cons,List.drop_append,hf,List.drop_eq_nil_iff.2 (by rw[hf,Nat.succ_mul];omega),List.nil_append,Nat.succ_mul,show i*z+z-z=i*z by omega,Ss hf r i]
theorem Hg(y: ∀x,∀v∈f x,v.oneCell'=true)(L:List α): ∀v∈Bj f L,v.oneCell'=true:=by
 intro v d;simp only[Bj,List.mem_flatMap]at d;obtain⟨c,_,j⟩:=d;exact y c v j
theorem Hi(hf: ∀x,(f x).length=z): ∀{L:List α} {i:Nat} {x y:α} {j:Nat} {v:Value},L[i]? =some x->j<z->(f x).set j v=f y->(Bj f L).set (i*z+j) v=Bj f (L.set i y)
 | c::r,0,x,y,j,v,h,hj,he=>by
  have h:c=x:=Option.some.inj h;subst h;rw[E6,Nat.zero_mul,Nat.zero_add,List.set_append_left _ _ (by rw[hf];exact hj),he,List.set_cons_zero,E6]
 | c::r,i+1,x,y,j,v,h,hj,he=>by
  rw[E6,List.set_cons_succ,E6,Nat.succ_mul,List.set_append_right _ _ (by rw[hf];omega),hf,show i*z+z+j-z=i*z+j by omega,Hi hf (L:=r) h hj he]
theorem Ve(hf: ∀x,(f x).length=z): ∀{L:List α} {i:Nat} {y:α},i<L.length->(Bj f L).take (i*z)++f y++(Bj f L).drop (i*z+z)=Bj f (L.set i y)
 | c::r,0,y,h=>by
  rw[E6,Nat.zero_mul,Nat.zero_add,List.set_cons_zero,E6,List.take_zero,List.nil_append,List.drop_append,hf,List.drop_eq_nil_iff.2 (by rw[hf];omega),Nat.sub_self,List.drop_zero,List.nil_append]
 | c::r,i+1,y,h=>by
  have d:=Ve hf (L:=r) (i:=i) (y:=y) (by simpa using h);rw[E6,List.set_cons_succ,E6,<-d,Nat.succ_mul,List.take_append,List.drop_append,hf,List.take_of_length_le (by rw[hf];omega),List.drop_eq_nil_iff.2 (by rw[hf];omega),List.nil_append,show i*z+z-z=i*z by omega,show i*z+z+z-z=i*z+z by omega];simp only[List.append_assoc]
def pos(key:α->Int):List α->Int->Nat
 | [],_=>0
 | c::r,n=>if key c<n then pos key r n+1 else 0
def IG(key:α->Int)(L:List α):Prop:=L.Pairwise fun a b=>key a<key b
variable{key:α->Int}
theorem JE: ∀(L:List α) (n:Int),pos key L n<=L.length
 | [],_=>Nat.le_refl _
 | c::r,n=>by simp only[pos];split;exact Nat.succ_le_succ (JE r n);exact Nat.zero_le _
theorem Gw: ∀{L:List α} {n:Int} {j:Nat} {c:α},L[j]? =some c->j<pos key L n->key c<n
 | c::r,n,0,x,h,hj=>by
  have h:c=x:=Option.some.inj h;subst h;simp only[pos]at hj;split at hj
  ·assumption
  ·omega
 | c::r,n,j+1,x,h,hj=>by
  simp only[pos]at hj;split at hj
  ·exact Gw (L:=r) h (by omega)
  ·omega
theorem pos_at: ∀{L:List α} {n:Int} {c:α},L[pos key L n]? =some c->n<=key c
 | c::r,n,x,h=>by
  simp only[pos]at h;split at h
  ·exact pos_at (L:=r) h
  ·have h:c=x:=Option.some.inj h;subst h;omega
theorem IG.lt{L:List α}(hs:IG key L){i j:Nat}{a b:α}(hi:L[i]? =some a)(v:L[j]? =some b)(h:i<j):key a<key b:=by
 have h1:=(List.getElem?_eq_some_iff.1 hi);have d:=(List.getElem?_eq_some_iff.1 v);have:=List.pairwise_iff_getElem.1 hs i j h1.1 d.1 h;rw[h1.2,d.2]at this;exact this
theorem Su{L:List α}(hs:IG key L){n:Int}{j:Nat}{c:α}(h:L[j]? =some c)(y:pos key L n<=j):n<=key c:=by
 have C:=(List.getElem?_eq_some_iff.1 h).1;have v:=List.getElem?_eq_getElem (show pos key L n<L.length by omega);have h1:=pos_at v;rcases Nat.lt_or_eq_of_le y with d|d
 ·have:=hs.lt v h d;omega
 ·subst d;exact pos_at h
theorem KD{L:List α}(hs:IG key L){n:Int}{c:α}(C:c∈L)(J:key c=n):L[pos key L n]? =some c:=by
 obtain⟨j,d⟩:=List.mem_iff_getElem?.1 C;rcases Nat.lt_or_ge j (pos key L n)with h|h
 ·have:=Gw d h;omega
 ·have K:=(List.getElem?_eq_some_iff.1 d).1;rcases Nat.lt_or_eq_of_le h with v|v
  ·have y:=List.getElem?_eq_getElem (show pos key L n<L.length by omega);have:=pos_at y;have O:=hs.lt y d v;omega
  ·rw[v];exact d
theorem Q5{L:List α}(hs:IG key L){n:Int}{i:Nat}(hi:i<=L.length)(h1: ∀(j:Nat) c,L[j]? =some c->j<i->key c<n)(v: ∀(j:Nat) c,L[j]? =some c->i<=j->n<=key c):i=pos key L n:=by
 have hp:=JE (key:=key) L n;rcases Nat.lt_trichotomy i (pos key L n)with h|h|h
 ·have d:=List.getElem?_eq_getElem (show i<L.length by omega);have:=v i _ d (Nat.le_refl _);have:=Gw d h;omega
 ·exact h
 ·have d:=List.getElem?_eq_getElem (show pos key L n<L.length by omega);have:=h1 _ _ d h;have:=pos_at d;omega
theorem IG.take{L:List α}(hs:IG key L)(i:Nat):IG key (L.take i):=List.Pairwise.sublist (List.take_sublist _ _) hs
theorem IG.drop{L:List α}(hs:IG key L)(i:Nat):IG key (L.drop i):=List.Pairwise.sublist (List.drop_sublist _ _) hs
theorem IG.filter{L:List α}(hs:IG key L)(p:α->Bool):IG key (L.filter p):=List.Pairwise.sublist List.filter_sublist hs
theorem IG.inj{L:List α}(hs:IG key L){a b:α}(j:a∈L)(v:b∈L)(h:key a=key b):a=b:=by
 have h1:=KD hs j rfl;have d:=KD hs v h.symm;rw[h1]at d;exact Option.some.inj d
theorem EF{L:List α}{n:Int}{c:α}(v:c∈L.take (pos key L n)):c∈L/\key c<n:=by
 obtain⟨j,d⟩:=List.mem_iff_getElem?.1 v;rw[List.getElem?_take]at d;split at d
 ·rename_i h;exact⟨List.mem_of_getElem? d,Gw d h⟩
 ·cases d
theorem FK{L:List α}(hs:IG key L){n:Int}{c:α}(v:c∈L.drop (pos key L n)):c∈L/\n<=key c:=by
 obtain⟨j,d⟩:=List.mem_iff_getElem?.1 v;rw[List.getElem?_drop]at d;exact⟨List.mem_of_getElem? d,Su hs d (by omega)⟩
theorem Ot{L:List α}{n:Int}{c:α}(hs:IG key L)(d:c∈L)(h:key c<n):c∈L.take (pos key L n):=by
 rw[<-List.take_append_drop (pos key L n) L]at d;rcases List.mem_append.1 d with h1|h1
 ·exact h1
 ·have:=(FK hs h1).2;omega
theorem Ou{L:List α}{n:Int}{c:α}(d:c∈L)(h:n<=key c):c∈L.drop (pos key L n):=by
 rw[<-List.take_append_drop (pos key L n) L]at d;rcases List.mem_append.1 d with h1|h1
 ·have:=(EF h1).2;omega
 ·exact h1
theorem IG.hZ{L M N:List α}(K:IG key L)(J:IG key M)(T:IG key N){a b:Int}(O:a<=b)(h1: ∀c∈L,key c<a)(v: ∀c∈M,a<=key c/\key c<b)(C: ∀c∈N,b<=key c):IG key (L++M++N):=by
 unfold IG;rw[List.append_assoc,List.pairwise_append,List.pairwise_append];refine⟨K,⟨J,T,fun x d y j=> ?_⟩,fun x d y j=> ?_⟩
 ·have:=(v x d).2;have:=C y j;omega
 ·have:=h1 x d;rcases List.mem_append.1 j with h|h
  ·have:=(v y h).1;omega
  ·have:=C y h;omega
theorem IG.SF: ∀{L:List α} (hs:IG key L) {a b:Int},a<=b->(∀c∈L,a<=key c/\key c<b)->(L.length:Int)<=b-a
 | [],_,a,b,h,_=>by simp;omega
 | c::r,hs,a,b,h,hc=>by
  have h1:=hc c (by simp);have v:IG key r:=(List.pairwise_cons.1 hs).2;have:=IG.SF v (a:=key c+1) (b:=b) (by omega) fun d j=>⟨by have:=(List.pairwise_cons.1 hs).1 d j;omega,(hc d (by simp[j])).2⟩;rw[List.length_cons];omega
theorem eT{L:List α}(hs:IG key L)(n:Int):pos key L (n+1)=pos key L n+(if ∃c∈L,key c=n then 1 else 0):=by
 symm
 have hp:=JE (key:=key) L n;by_cases e: ∃c∈L,key c=n
 ·rw[if_pos e];obtain⟨c,C,he⟩:=e;have h1:=KD hs C he;have J:=(List.getElem?_eq_some_iff.1 h1).1;refine Q5 hs (by omega) (fun j d v y=> ?_) fun j d v y=> ?_
  ·rcases Nat.lt_or_eq_of_le (Nat.le_of_lt_succ y)with g|g
   ·have:=Gw v g;omega
   ·subst g;rw[h1]at v;cases v;omega
  ·have:=hs.lt h1 v (by omega);omega
 ·rw[if_neg e];refine Q5 hs (by omega) (fun j d v y=> ?_) fun j d v y=> ?_
  ·have:=Gw v y;omega
  ·have:=Su hs v y;have:key d≠n:=fun h=>e ⟨d,List.mem_of_getElem? v,h⟩;omega
theorem Tu{L:List α}(hs:IG key L){l:Iv}(d:Ok l)(hm: ∀p,mem l p↔ ∃c∈L,key c=p)(a:Int): ∀n:Nat,((pos key L (a+n):Nat):Int)=pos key L a+cnt l a (a+n)
 | 0=>by
  rw[show a+((0:Nat):Int)=a by omega];have:=(C4 d (Int.le_refl a)).2 fun n h1 v=>by omega
  omega
 | n+1=>by
  have y:=Tu hs d hm a n;rw[show a+((n+1:Nat):Int)=a+n+1 by omega,eT hs];have j:=IN d (a:=a) (k:=a+n) (by omega);by_cases e:mem l (a+n)
  ·rw[if_pos ((hm _).1 e),j.1 e];omega
  ·rw[if_neg fun h=>e ((hm _).2 h),j.2 e];omega
theorem mG{L:List α}{a:Int}(h: ∀c∈L,a<=key c):pos key L a=0:=by
 cases L with
 | nil=>rfl
 | cons c r=>simp only[pos];rw[if_neg (by have:=h c (by simp);omega)]
theorem Vf: ∀{L:List α} {a:Int},(∀c∈L,key c<a)->pos key L a=L.length
 | [],_,_=>rfl
 | c::r,a,h=>by
  simp only[pos];rw[if_pos (h c (by simp)),Vf fun d j=>h d (by simp[j]),List.length_cons]
theorem P7{L:List α}(hs:IG key L){l:Iv}(v:Ok l)(hm: ∀p,mem l p↔ ∃c∈L,key c=p){a:Int}{n:Nat}(j: ∀p,mem l p->a<=p/\p<a+n):(L.length:Int)=DE l:=by
 have h1:=Tu hs v hm a n;rw[mG fun c d=>(j _ ((hm _).2 ⟨c,d,rfl⟩)).1,Vf fun c d=>(j _ ((hm _).2 ⟨c,d,rfl⟩)).2,Ju (Ok.Wo v) j]at h1;omega
end
section
variable{α:Type}{f:α->List Value}{z t:Nat}{F:List Pr}{w:World}{s:AZ}{L:List α}
theorem Sat.IW(hz:0<z)(hf: ∀x,(f x).length=z)(H:Sat (Row t z s (Bj f L)::F) w):L.length=s.len/\s.len<=s.cap/\s.cap<9223372036854775808:=by
 have h:=H.FH;rw[DQ hf]at h;exact⟨Nat.eq_of_mul_eq_mul_right hz h,H.own.cap,H.own.top⟩
theorem Sat.Fx(hz:0<z)(hf: ∀x,(f x).length=z)(H:Sat (Row t z s (Bj f L)::F) w){i:Nat}(hi:i<L.length): ∃b,s.base=some ⟨b,0,none⟩:=
 H.own.Fe (by have:=H.IW hz hf;omega)
theorem Sat.CD(hf: ∀x,(f x).length=z)(H:Sat (Row t z s (Bj f L)::F) w){a:Addr}(d:s.base=some a){i:Nat}{x:α}(hi:L[i]? =some x){j:Nat}{v:Value}(y:(f x)[j]? =some v):w.cell? (a.add (i*z+j))=some v:=
 H.own.cell d (Vd hf hi y)
theorem Ys: ∀(news:List Value) {vs:List Value} {w:World} (o i:Nat),Sat (Row t z s vs::F) w->o+i+news.length<=vs.length->(∀v∈news,v.oneCell'=true)-> ∀{a:Addr},s.base=some a-> ∀{K:World->Prop},
  (∀w',Sat (Row t z s (vs.take (o+i)++news++vs.drop (o+i+news.length))::F) w'->K w')->stCells (a.add o) i news w K
 | [],vs,w,o,i,H,hl,ho,a,ha,K,hK=>by
  refine hK w ?_;simpa using H
 | v::r,vs,w,o,i,H,hl,ho,a,ha,K,hK=>by
  have d:o+i<vs.length:=by simp at hl;omega
  have h1:=Gh H (j:=o+i) (v:=v) (ho v (by simp)) d ha (K:=fun w'=>stCells (a.add o) (i+1) r w' K) fun w' J=>Ys r o (i+1) J (by simp at hl⊢;omega) (fun u hu=>ho u (by simp[hu])) ha fun C y=>hK C ?_
  ·simp only[stCells,add_zero]at h1⊢;rw[add_add];exact h1
  ·have:(vs.set (o+i) v).take (o+(i+1))++r++(vs.set (o+i) v).drop (o+(i+1)+r.length)=vs.take (o+i)++(v::r)++vs.drop (o+i+(v::r).length):=by
    rw[show o+(i+1)=o+i+1 from by omega,List.take_set,List.take_succ_eq_append_getElem d,List.set_append_right _ _ (by simp;omega)];simp only[List.length_take,Nat.min_eq_left (Nat.le_of_lt d),Nat.sub_self,List.set_cons_zero,List.append_assoc,List.singleton_append,List.length_cons,List.cons_append];congr 2;rw[List.drop_set_of_lt (by omega),show o+i+1+r.length=o+i+(r.length+1)from by omega];simp
   rw[<-this];exact y
theorem eU(hf: ∀x,(f x).length=z)(J: ∀x,∀v∈f x,v.oneCell'=true)(H:Sat (Row t z s (Bj f L)::F) w){i:Nat}(hi:i<L.length)(y:α){a:Addr}(j:s.base=some a){K:World->Prop}
  (C: ∀w',Sat (Row t z s (Bj f (L.set i y))::F) w'->K w'):stCells (a.add (i*z)) 0 (f y) w K:=by
 have hle:i*z+z<=L.length*z:=by rw[<-Nat.succ_mul];exact Nat.mul_le_mul_right _ hi
 refine Ys (f y) (i*z) 0 H (by rw[DQ hf,hf];omega) (J y) j fun w' d=>C w' ?_;rw[Nat.add_zero,hf,Ve hf hi]at d;exact d
theorem Sat.N1(hz:0<z)(hf: ∀x,(f x).length=z)(H:Sat (Row t z s (Bj f L)::F) w){i:Nat}(hi:i<=L.length):rowAt w (Gp s.base s.cap 0 z) (i*z) (Bj f (L.take i)):=by
 have d:=H.IW hz hf;rw[Lk];have:=Kv H.M4 (m:=i*z) (Nat.mul_le_mul_right _ (by omega)) H.FH;rwa[Sr hf]at this
theorem Sat.N2(hz:0<z)(hf: ∀x,(f x).length=z)(H:Sat (Row t z s (Bj f L)::F) w){i:Nat}(hi:i<=L.length):rowAt w (Gp s.base s.cap i z) ((s.len-i)*z) (Bj f (L.drop i)):=by
 have d:=H.IW hz hf;have:=Ja (z:=z) H.M4 rfl (k:=i) (by omega) d.2.1 H.FH;rwa[Ss hf]at this
theorem bsearch{key:α->Int}{c o:Nat}(hz:0<z)(hf: ∀x,(f x).length=z)(hk: ∀x,(f x)[0]? =some (.int .u64 (key x)))(hs:IG key L)(H:Sat (Row t z s (Bj f L)::F) w)
  (hc:w.cell? ((Addr.mk c 0 none).add o)=some (.slice s.base s.len s.cap))(hlen:s.len<4611686018427387904)(n:Int){K:(Int×Int×Unit)->World->Prop}(hK: ∀st:Int×Int×Unit,st.1=(pos key L n:Nat)->K st w):
  Ay (Int×Int×Unit) (0,((s.len:Nat):Int),()) w fun s3 _ Y J=>
  CND (decide ((s3.1:Int)<s3.2.1)) (
   2≠(0:Int)/\
   Gc (i64 (Int.tdiv (i64 (s3.1+s3.2.1)) 2):Int) fun d=>
   NC (some (Addr.mk c 0 none)) fun p7=>
   ∃x8:AZ,Y.cell? (p7.add o)=some (.slice x8.base x8.len x8.cap)/\
   NC x8.base fun p9=>
   ((0:Int)<=d/\(d:Int)<(x8.len:Nat))/\
   ∃aB:Int,Y.cell? (p9.add (Int.toNat d*z))=some (.int .u64 aB)/\
   CND (decide ((aB:Int)<n)) (
    J (i64 (d+1),s3.2.1,()) Y
   ) (
    J (s3.1,d,()) Y
   )
  ) (K s3 Y):=by
 have hL:=H.IW hz hf;refine AK (fun st w'=>w'=w/\0<=st.1/\st.1<=st.2.1/\st.2.1<=s.len/\(∀(j:Nat) x,L[j]? =some x->(j:Int)<st.1->key x<n)/\(∀(j:Nat) x,L[j]? =some x->st.2.1<=(j:Int)->n<=key x)) (fun st _=>(st.2.1-st.1).toNat)
  ⟨rfl,Int.le_refl _,Int.natCast_nonneg _,Int.le_refl _,fun j x _ h=>by dsimp only at h;omega,fun j x C h=>by have:=(List.getElem?_eq_some_iff.1 C).1;dsimp only at h;omega⟩ ?_
 rintro⟨lo,hi,v⟩ _ w' ⟨rfl,h0,h1,h2,h3,h4⟩;dsimp only at h0 h1 h2 h3 h4⊢;refine AD (fun aH=>⟨by decide,AU fun hZ T=> ?_⟩) fun aG=>hK _ ?_
 ·rw[AH (n:=lo+hi),Int.tdiv_eq_ediv_of_nonneg (by omega),AH (n:=(lo+hi)/2)]at T;obtain⟨x,C⟩: ∃x,L[hZ.toNat]? =some x:=⟨_,List.getElem?_eq_getElem (by omega)⟩;obtain⟨b,hb⟩:=H.Fx hz hf (i:=hZ.toNat) (by omega);simp only[AI];refine⟨s,hc,?_⟩;have Ba:=H.CD hf hb C (hk x);rw[hb];refine⟨⟨by omega,by omega⟩,key x,by simpa using Ba,AD (fun g=> ?_) fun g=> ?_⟩
  ·rw[AH (n:=hZ+1)];refine⟨⟨by trivial,by omega,by omega,by omega,fun j y O hj=> ?_,h4⟩,by omega⟩;rcases Int.lt_or_le (j:Int) hZ with q|q
   ·have:=hs.lt O C (by omega);omega
   ·have:hZ.toNat=j:=by omega
    rw[this]at C;rw[C]at O;cases O;exact g
  ·refine⟨⟨by trivial,by omega,by omega,by omega,h3,fun j y O hj=> ?_⟩,by omega⟩;rcases Int.lt_or_le hZ (j:Int)with q|q
   ·have:=hs.lt C O (by omega);omega
   ·have:hZ.toNat=j:=by omega
    rw[this]at C;rw[C]at O;cases O;omega
 ·have:=Q5 hs (n:=n) (i:=lo.toNat) (by omega) (fun j x C hj=>h3 j x C (by omega)) fun j x C hj=>h4 j x C (by omega);omega
end
end Go.Sh
set_option linter.all false
set_option maxRecDepth 4000
set_option maxHeartbeats 1000000
namespace Go.Sh
structure FX where
 n:Nat
 bk:List Nat
def afterL:List Nat->Nat->Option Nat
 | [],_=>none
 | a::r,i=>if a=i then r.head? else afterL r i
def Q6(R:Nat->Nat)(x:Option Nat):Option Addr:=x.map fun i=>⟨R i,0,none⟩
def recC(E:Env)(R:Nat->Nat)(bk:List Nat)(i:Nat):Pr:=Cells (R i) E.Fm [.int .i64 ((i:Int)+1),.bool (!bk.contains i),.pointer (Q6 R (afterL bk i))]
structure Vg(X:FX):Prop where
 nd:X.bk.Nodup
 lt: ∀i∈X.bk,i<X.n
 SF:X.n<=1099511627776
def eV(E:Env)(b:Nat)(X:FX)(s:AZ)(R:Nat->Nat)(c:Int):List Pr:=
 [Cells b E.JT [.int .i64 1,Ie s,.pointer (Q6 R X.bk.head?),.int .i64 c],Row E.FL 1 s ((List.range X.n).map fun i=>.pointer (some ⟨R i,0,none⟩)),Ap (recC E R X.bk) (List.range X.n)]
def GC(E:Env)(b:Nat)(X:FX):Pr:=Ex fun x:AZ×(Nat->Nat)×Int=>Jv (Vg X) (Qe (eV E b X x.1 x.2.1 x.2.2))
section
variable{E:Env}{b:Nat}{X:FX}{Z:List Pr}{w:World}{s:AZ}{R:Nat->Nat}{c:Int}
theorem Sat.fix:Sat (GC E b X::Z) w↔ ∃s R c,Vg X/\Sat (eV E b X s R c++Z) w:=by
 unfold GC;rw[Sat.ex];constructor
 ·rintro⟨⟨s,R,c⟩,h⟩;rw[Sat.where,Sat.star]at h;exact⟨s,R,c,h.1,h.2⟩
 ·rintro⟨s,R,c,h1,d⟩;refine⟨⟨s,R,c⟩,?_⟩;rw[Sat.where,Sat.star];exact⟨h1,d⟩
theorem aB(H:Sat Z w){K:Option Addr->Int->World->Prop}(y: ∀b w',Sat (GC E b ⟨0,[]⟩::Z) w'->K (some ⟨b,0,none⟩) 0 w'):F.Nk E 1 K w:=by
 unfold F.Nk;refine An (Ac (by decide) fun j=>Ac (by decide) ?_);refine Ad (vs:=[.int .i64 1,.slice none 0 0,.pointer none,.int .i64 0]) H fun b w' d _=>y b w' (Sat.fix.2 ⟨⟨none,0,0⟩,fun _=>0,0,⟨.nil,fun i h=>(by cases h),by decide⟩,?_⟩);have h1:=d.nil E.FL 1;have v:Sat (Ap (recC E (fun _=>0) []) []::_) w':=h1.MW (recC E (fun _=>0) []);exact v.perm ((List.reverse_perm [_,_,_]).symm.append_right Z)
theorem Sv{l:List Nat}{i:Nat}(h:i∉l):afterL l i=none:=by
 induction l with
 | nil=>rfl
 | cons a r ih=>
  unfold afterL;rw[if_neg fun e=>h (by simp[e]),ih fun e=>h (by simp[e])]
theorem Q7{n a x:Nat}(v:a<n)(j:x∈(List.range n).eraseIdx a):x≠a:=by
 obtain⟨i,hi⟩:=List.mem_iff_getElem?.1 j;rw[List.getElem?_eraseIdx]at hi;split at hi
 ·rename_i h;rw[List.getElem?_range (by omega)]at hi;cases hi;omega
 ·rename_i h;have d:=(List.getElem?_eq_some_iff.1 hi).1;rw[List.length_range]at d;rw[List.getElem?_range d]at hi;cases hi;omega
theorem XO(H:Sat (GC E b X::Z) w)(aX:X.n<1099511627776){K:Int->World->Prop}
  (aJ:X.bk=[]-> ∀w',Sat (GC E b ⟨X.n+1,[]⟩::Z) w'->K ((X.n:Int)+1) w')
  (aP: ∀a r,X.bk=a::r-> ∀w',Sat (GC E b ⟨X.n,r⟩::Z) w'->K ((a:Int)+1) w'):F.IQ E (some ⟨b,0,none⟩) K w:=by
 obtain⟨s,R,c,hI,H⟩:=Sat.fix.1 H;unfold F.IQ;simp only[AI];refine⟨_,H.cell rfl,?_⟩;cases hb:X.bk with
 | nil=>
  unfold eV at H;rw[hb]at H;have hl:=(H.front 1 rfl).FH;rw[List.length_map,List.length_range,Nat.mul_one]at hl;refine An (AV rfl ⟨s,H.cell rfl,?_⟩);rw[AH (n:=((s.len:Nat):Int)+1),<-hl];refine Ad (vs:=[.int .i64 ((X.n:Int)+1),.bool false,.pointer none]) H fun d w9 H9 _=>⟨s,(H9.front 1 rfl).cell rfl,?_⟩;refine Ad (vs:=[.pointer (some ⟨d,0,none⟩)]) H9 fun a5 a3 aH _=> ?_;refine GP (news:=[.pointer (some ⟨d,0,none⟩)]) (aH.DR 2 rfl) rfl rfl (by intro v hv;simp at hv;subst hv;rfl) (by omega) (by omega) fun aC a9 aN _=> ?_;refine Ak (aN.front 2 rfl) (o:=0) (m:=1) rfl (by simp) fun a2 aI j=> ?_;simp only[AI];have aV:=aI.front 2 rfl;refine Ak aV (o:=0) (m:=1) rfl (by simp) fun aR aD=>Ak aD (o:=0) (m:=2) rfl (by simp) fun aU Y=> ?_;have J:=Y.front 1 rfl;refine⟨_,J.cell rfl,Ak J (o:=0) (m:=3) rfl (by simp) fun C y=>⟨_,(y.front 1 rfl).A2 rfl,aJ hb C ?_⟩⟩;refine Sat.fix.2 ⟨aC,fun i=>if i=X.n then d else R i,i64 (c+1),⟨.nil,fun i h=>(by cases h),by show X.n+1<=_;omega⟩,?_⟩;have e1:(List.range (X.n+1)).map (fun i=>Value.pointer (some ⟨(if i=X.n then d else R i),0,none⟩))=((List.range X.n).map fun i=>Value.pointer (some ⟨R i,0,none⟩))++[.pointer (some ⟨d,0,none⟩)]:=by
   rw[List.range_succ,List.map_append];congr 1
   ·refine List.map_congr_left fun i hi=> ?_;have:=List.mem_range.1 hi;rw[if_neg (by omega)]
   ·simp
  have e2:Ap (recC E R []) (List.range X.n)=Ap (recC E (fun i=>if i=X.n then d else R i) []) (List.range X.n):=Ap.congr fun x hx=>by
   have:=List.mem_range.1 hx;show recC E R [] x=Cells (if x=X.n then d else R x) _ _;rw[if_neg (by omega)];rfl
  have e3:recC E (fun i=>if i=X.n then d else R i) [] X.n=Cells d E.Fm [.int .i64 ((X.n:Int)+1),.bool true,.pointer none]:=by
   show Cells (if X.n=X.n then d else R X.n) _ _=_;rw[if_pos rfl];rfl
  have T:=(y.front 3 rfl).DR 1 rfl|>fun h=>h.perm (.swap _ _ _);have aA:Sat (recC E (fun i=>if i=X.n then d else R i) [] X.n::Ap (recC E (fun i=>if i=X.n then d else R i) []) (List.range X.n)::Cells b E.JT [.int .i64 1,Ie aC,.pointer none,.int .i64 (i64 (c+1))]::Row E.FL 1 aC (((List.range X.n).map fun i=>Value.pointer (some ⟨R i,0,none⟩))++[.pointer (some ⟨d,0,none⟩)])::Z) C:=by
   rw[e3,<-e2];exact T
  have O:=aA.Qh;rw[<-List.range_succ]at O;unfold eV;rw[e1];exact O.perm (by
   have: ∀(a b c:Pr),(a::b::c::Z).Perm (b::c::a::Z):=fun a b c=>(List.perm_middle (l₁:=[b,c]) (a:=a)).symm;exact this _ _ _)
 | cons a r=>
  unfold eV at H;rw[hb]at H;have ha:a<X.n:=hI.lt a (by rw[hb];simp);have aB:=hI.nd;rw[hb]at aB;have aE:a∉r:=(List.nodup_cons.1 aB).1;have hg:(List.range X.n)[a]? =some a:=List.getElem?_range ha;have H2:=(H.front 2 rfl).Hs hg;have e0:Q6 R (afterL (a::r) a)=Q6 R r.head?:=by unfold afterL;rw[if_pos rfl]
  have aS:recC E R (a::r) a=Cells (R a) E.Fm [.int .i64 ((a:Int)+1),.bool (!(a::r).contains a),.pointer (Q6 R r.head?)]:=by unfold recC;rw[e0]
  rw[aS]at H2;refine An (Ac rfl ?_);show NC (some (Addr.mk (R a) 0 none)) _;simp only[AI];refine⟨_,H2.cell rfl,Ak (H2.front 2 rfl) (o:=0) (m:=2) rfl (by simp) fun a8 aO j=> ?_⟩;show NC (some (Addr.mk (R a) 0 none)) _;simp only[AI];have aM:=aO.front 1 rfl;refine Ak aM (o:=0) (m:=1) rfl (by simp) fun aR aD=> ?_;show NC (some (Addr.mk (R a) 0 none)) _;simp only[AI];refine Ak aD (o:=0) (m:=2) rfl (by simp) fun aU Y=> ?_;have J:=Y.front 1 rfl;refine⟨_,J.cell rfl,Ak J (o:=0) (m:=3) rfl (by simp) fun C y=> ?_⟩;show NC (some (Addr.mk (R a) 0 none)) _;simp only[AI];refine⟨_,(y.front 1 rfl).A2 rfl,aP a r hb C ?_⟩;refine Sat.fix.2 ⟨s,R,i64 (c+1),⟨(List.nodup_cons.1 aB).2,fun i hi=>hI.lt i (by rw[hb];simp[hi]),hI.SF⟩,?_⟩;have e3:recC E R r a=Cells (R a) E.Fm [.int .i64 ((a:Int)+1),.bool true,.pointer none]:=by
   unfold recC;rw[Sv aE];have:r.contains a=false:=by simpa using aE
   rw[this];rfl
  have e2:Ap (recC E R (a::r)) ((List.range X.n).eraseIdx a)=Ap (recC E R r) ((List.range X.n).eraseIdx a):=Ap.congr fun x hx=>by
   have aF:=Q7 ha hx;unfold recC;have h1:(a::r).contains x=r.contains x:=by
    rw[List.contains_cons];have:(x==a)=false:=by simpa using aF
    rw[this,Bool.false_or]
   have h2:afterL (a::r) x=afterL r x:=by
    show(if a=x then r.head? else afterL r x)=_;rw[if_neg fun e=>aF e.symm]
   rw[h1,h2]
  have T:=(y.front 1 rfl).DR 1 rfl;rw[e2]at T;have aA:Sat (recC E R r a::Ap (recC E R r) ((List.range X.n).eraseIdx a)::Cells b E.JT [.int .i64 1,Ie s,.pointer (Q6 R r.head?),.int .i64 (i64 (c+1))]::Row E.FL 1 s ((List.range X.n).map fun i=>.pointer (some ⟨R i,0,none⟩))::Z) C:=by
   rw[e3];exact T
  have O:=aA.Gq hg;exact O.perm (by
   have: ∀(a b c:Pr),(a::b::c::Z).Perm (b::c::a::Z):=fun a b c=>(List.perm_middle (l₁:=[b,c]) (a:=a)).symm;exact this _ _ _)
theorem XP(H:Sat (GC E b X::Z) w){a:Nat}(ha:a<X.n)(d:a∉X.bk){K:Int->World->Prop}(hK: ∀w',Sat (GC E b ⟨X.n,a::X.bk⟩::Z) w'->K 0 w'):F.Fu E (some ⟨b,0,none⟩) ((a:Int)+1) K w:=by
 obtain⟨s,R,c,T,H⟩:=Sat.fix.1 H;have aI:=T.SF;have hl:=(H.front 1 rfl).FH;rw[List.length_map,List.length_range,Nat.mul_one]at hl;have hg:(List.range X.n)[a]? =some a:=List.getElem?_range ha;have aH:((List.range X.n).map fun i=>Value.pointer (some ⟨R i,0,none⟩))[a]? =some (.pointer (some ⟨R a,0,none⟩)):=by rw[List.getElem?_map,hg];rfl
 obtain⟨x,J⟩:=(H.front 1 rfl).own.Fe (by omega);have hc:=(H.front 1 rfl).own.cell J aH;unfold F.Fu T0.Fu F.JJ;simp only[AI,Nat.mul_one];have et:Int.toNat (i64 (((a:Int)+1)-1))=a:=by rw[AH];omega
 have H2:=(H.front 2 rfl).Hs hg;have e0:recC E R X.bk a=Cells (R a) E.Fm [.int .i64 ((a:Int)+1),.bool true,.pointer none]:=by
  unfold recC;rw[Sv d];have:X.bk.contains a=false:=by simpa using d
  rw[this];rfl
 rw[e0]at H2;refine AV (decide_eq_true (by omega)) ⟨s,H.cell rfl,AV (decide_eq_true (by omega)) ⟨s,H.cell rfl,?_⟩⟩;rw[J];simp only[AI];rw[et];have j:(0:Int)<=i64 (((a:Int)+1)-1)/\i64 (((a:Int)+1)-1)<(s.len:Nat):=by rw[AH];omega
 refine⟨j,_,hc,?_⟩;simp only[AI];refine⟨true,H2.cell rfl,Ac rfl ⟨s,H.cell rfl,?_⟩⟩;rw[J];simp only[AI];refine⟨j,_,hc,_,H.cell rfl,?_⟩;simp only[AI];refine Ak H2 (o:=0) (m:=1) rfl (by simp) fun aK aC=>Ak aC (o:=0) (m:=2) rfl (by simp) fun aL aA=> ?_;refine Ak (aA.front 2 rfl) (o:=0) (m:=2) rfl (by simp) fun aT O=>⟨_,O.cell rfl,Ak O (o:=0) (m:=3) rfl (by simp) fun v aG=>hK v ?_⟩;refine Sat.fix.2 ⟨s,R,i64 (c-1),⟨List.nodup_cons.2 ⟨d,T.nd⟩,fun i hi=> ?_,T.SF⟩,?_⟩
 ·rcases List.mem_cons.1 hi with h|h
  ·subst h;exact ha
  ·exact T.lt i h
 ·have e3:recC E R (a::X.bk) a=Cells (R a) E.Fm [.int .i64 ((a:Int)+1),.bool false,.pointer (Q6 R X.bk.head?)]:=by
   unfold recC;have:(a::X.bk).contains a=true:=by simp
   rw[this];have:afterL (a::X.bk) a=X.bk.head?:=by unfold afterL;rw[if_pos rfl]
   rw[this];rfl
  have e2:Ap (recC E R X.bk) ((List.range X.n).eraseIdx a)=Ap (recC E R (a::X.bk)) ((List.range X.n).eraseIdx a):=Ap.congr fun x J=>by
   have y:=Q7 ha J;unfold recC;have h1:(a::X.bk).contains x=X.bk.contains x:=by
    rw[List.contains_cons];have:(x==a)=false:=by simpa using y
    rw[this,Bool.false_or]
   have h2:afterL (a::X.bk) x=afterL X.bk x:=by
    show(if a=x then X.bk.head? else afterL X.bk x)=_;rw[if_neg fun e=>y e.symm]
   rw[h1,h2]
  have C:=(aG.front 1 rfl).DR 1 rfl;rw[e2]at C;have Y:Sat (recC E R (a::X.bk) a::Ap (recC E R (a::X.bk)) ((List.range X.n).eraseIdx a)::Cells b E.JT [.int .i64 1,Ie s,.pointer (some ⟨R a,0,none⟩),.int .i64 (i64 (c-1))]::Row E.FL 1 s ((List.range X.n).map fun i=>.pointer (some ⟨R i,0,none⟩))::Z) v:=by
   rw[e3];exact C
  have aB:=Sat.Gq Y hg;exact aB.perm (by
   have: ∀(a b c:Pr),(a::b::c::Z).Perm (b::c::a::Z):=fun a b c=>(List.perm_middle (l₁:=[b,c]) (a:=a)).symm;exact this _ _ _)
end
end Go.Sh
set_option linter.all false
set_option maxRecDepth 4000
set_option maxHeartbeats 2000000
namespace Go.Sh
abbrev aC:=Int×Int×Int×Int
def Hj(e:aC):List Value:=[.int .i64 e.1,.int .i64 e.2.1,.int .i64 e.2.2.1,.int .u32 e.2.2.2]
theorem Av(e:aC):(Hj e).length=4:=rfl
theorem Vh(e:aC): ∀v∈Hj e,v.oneCell'=true:=by intro v d;simp[Hj]at d;rcases d with rfl|rfl|rfl|rfl<;>rfl
def Tv(n:Int):Bool:=(n !=0)&&(D8 .u64 0 n (u64 (n-1))==0)
def IH(size d:Int):Int:=if Tv (u64 size)=false then d else if 2048<=size then 256 else if 128<=size then i64 (Int.tdiv size 8)else if 32<=size then 16 else d
def bytesF(size:Int):Nat->Int->Int
 | 0,n=>n
 | k+1,n=>if Int.tmod n size>i64 (Int.tdiv n 8)then bytesF size k (i64 (n+8192))else n
def Yt(size n:Int):Bool:=decide (¬Int.tmod n size>i64 (Int.tdiv n 8))
structure N3 where
 KS:Int
 size:Int
 l:List aC
def N3.last(s:N3):aC:=s.l.getLastD (0,0,0,0)
def N3.same(s:N3):Bool:=decide (1<s.l.length)&&(s.last.2.1==i64 (Int.tdiv (bytesF s.size 16 8192) 8192)&&(i64 (Int.tdiv (i64 (s.last.2.1*8192)) s.last.1)==i64 (Int.tdiv (bytesF s.size 16 8192) s.size)))
def N3.next(s:N3):N3:=
 ⟨IH s.size s.KS,i64 (s.size+IH s.size s.KS),
  if s.same=true then s.l.dropLast++[(s.size,s.last.2)]else s.l++[(s.size,i64 (Int.tdiv (bytesF s.size 16 8192) 8192),0,0)]⟩
def N3.eW(s:N3):Bool:=decide (8<=s.size)&&(decide (s.size<=32768)&&(Yt s.size (bytesF s.size 16 8192)&&(decide (0<s.l.length)&&(decide (s.l.length<=200)&&((decide (8<=IH s.size s.KS)&&decide (IH s.size s.KS<=10000))&&(decide (s.l.length=1)||s.last.1 !=0))))))
def Mp:Nat->N3
 | 0=>⟨8,8,[(0,0,0,0)]⟩
 | n+1=>(Mp n).next
def runAll:Nat->N3->Bool×N3
 | 0,s=>(true,s)
 | n+1,s=>match s.eW with
  | true=>runAll n s.next
  | false=>(false,s)
theorem PN: ∀(n k:Nat) {s:N3},(runAll n (Mp k))=(true,s)->(∀j,j<n->(Mp (k+j)).eW=true)/\Mp (k+n)=s
 | 0,k,s,h=>⟨fun j v=>by omega,(Prod.mk.inj h).2⟩
 | n+1,k,s,h=>by
  unfold runAll at h;split at h
  ·rename_i hg;have d:=PN n (k+1) (s:=s) h;refine⟨fun j v=> ?_,by rw[<-d.2,show k+1+n=k+(n+1) by omega]⟩;cases j with
   | zero=>exact hg
   | succ j=>have:=d.1 j (by omega);rwa[show k+1+j=k+(j+1) by omega]at this
  ·cases h
def Dk(c:aC):aC:=
 let n:=i64 (c.2.1*8192)
 let wide:=i64 (i64 (Int.tdiv (i64 (Int.tdiv n (i64 (Int.tdiv n c.1)))) 128)*128)
 let sz:=if wide>c.1 then wide else c.1
 (sz,c.2.1,i64 (Int.tdiv n sz),if IntKind.wrap .u32 sz<2 then 0 else IntKind.wrap .u32 (IntKind.wrap .u32 (Int.tdiv 4294967295 (IntKind.wrap .u32 sz))+1))
def Vi(c:aC):Bool:=(c.1 !=0)&&((i64 (Int.tdiv (i64 (c.2.1*8192)) c.1) !=0)&&((Dk c).1 !=0&&(decide (IntKind.wrap .u32 (Dk c).1<2)||IntKind.wrap .u32 (Dk c).1 !=0)))
def rounds:Nat:=162
def Vj:N3:=(runAll rounds (Mp 0)).2
def L8:List aC:=match Vj.l with
 | []=>[]
 | c::r=>c::r.map Dk
theorem vT:(runAll rounds (Mp 0)).1=true:=by decide+kernel
theorem Yu:Vj.size>32768:=by decide+kernel
theorem Yv:Vj.l.length=68:=by decide+kernel
theorem Yw:(Vj.l.tail.all Vi)=true:=by decide+kernel
theorem N4:L8.length=68:=by decide+kernel
theorem runs:(∀j,j<rounds->(Mp j).eW=true)/\Mp rounds=Vj:=by
 have h:runAll rounds (Mp 0)=(true,Vj):=Prod.ext vT rfl;have:=PN rounds 0 h;refine⟨fun j d=>by have:=this.1 j d;rwa[Nat.zero_add]at this,by have:=this.2;rwa[Nat.zero_add]at this⟩
structure MkG(s:N3):Prop where
 s0:8<=s.size
 s1:s.size<=32768
 KS:Int.tmod (bytesF s.size 16 8192) s.size<=i64 (Int.tdiv (bytesF s.size 16 8192) 8)
 l0:0<s.l.length
 l1:s.l.length<=200
 st0:8<=IH s.size s.KS
 st1:IH s.size s.KS<=10000
 nz:1<s.l.length->s.last.1≠0
theorem N5{s:N3}(h:s.eW=true):MkG s:=by
 unfold N3.eW Yt at h;simp only[Bool.and_eq_true,decide_eq_true_eq,Bool.or_eq_true,bne_iff_ne]at h;obtain⟨h1,j,K,d,v,⟨J,C⟩,y⟩:=h;exact⟨h1,j,by omega,d,v,J,C,fun h=>by
  rcases y with g|g
  ·omega
  ·exact g⟩
section
variable{E:Env}{w:World}{Z:List Pr}
theorem Q8{n:Int}{K:Bool->World->Prop}(d:K (Tv n) w):F.MX E n K w:=by
 unfold F.MX;unfold Tv at d;refine Cz (fun h=> ?_) fun h=> ?_
 ·rw[show(n !=0)=true by simpa using h,Bool.true_and]at d;exact d
 ·subst h;exact d
theorem aD{size j:Int}(h0:8<=size){K:Int->World->Prop}(d:K (IH size j) w):F.Gs E size j K w:=by
 unfold F.Gs T0.Gs;unfold IH at d;refine Q8 ?_;cases hp:Tv (u64 size)
 ·rw[hp,if_pos rfl]at d;exact AV rfl d
 ·rw[hp,if_neg (by decide)]at d;refine Ac rfl (AD (fun h=> ?_) fun h=>AD (fun v=>⟨by decide,?_⟩) fun v=>AD (fun y=> ?_) fun y=> ?_)
  ·rw[if_pos h]at d;exact d
  ·rw[if_neg h,if_pos v]at d;exact d
  ·rw[if_neg h,if_neg v,if_pos y]at d;exact d
  ·rw[if_neg h,if_neg v,if_neg y]at d;exact d
theorem XQ{size:Int}(hs:size≠0)(Bi:Int.tmod (bytesF size 16 8192) size<=i64 (Int.tdiv (bytesF size 16 8192) 8)){K:Int->World->Prop}(y:K (bytesF size 16 8192) w):F.I0 E size 8192 K w:=by
 unfold F.I0;refine AK (fun st w'=>w'=w/\ ∃i:Nat,i<=16/\st.1=8192+i*8192/\bytesF size (16-i) st.1=bytesF size 16 8192) (fun st _=>(200000-st.1).toNat) ⟨rfl,0,by decide,by show(8192:Int)=_;omega,rfl⟩ ?_;rintro⟨n,v⟩ _ T ⟨rfl,i,hi,C,d⟩;dsimp only at C d⊢;refine⟨hs,by decide,AD (fun j=> ?_) fun hle=> ?_⟩
 ·rcases Nat.lt_or_ge i 16 with O|O
  ·obtain⟨k,J⟩: ∃k,16-i=k+1:=⟨15-i,by omega⟩;rw[J]at d;rw[AH (n:=n+8192)];refine⟨⟨by trivial,i+1,by omega,by omega,?_⟩,by omega⟩;rw[<-d,show 16-(i+1)=k by omega];unfold bytesF;rw[if_pos j,AH (n:=n+8192)];cases k<;>rfl
  ·have:i=16:=by omega
   subst this;have:bytesF size 0 n=n:=rfl;rw[show 16-16=0 from rfl,this]at d;rw[<-d]at Bi;exact absurd j (by omega)
 ·have:bytesF size (16-i) n=n:=by
   cases h:16-i with
   | zero=>rfl
   | succ k=>unfold bytesF;rw[if_neg (by omega)]
  rw[<-d,this]at y;exact y
theorem XR{n:Int}(v:n<2∨n≠0){K:Int->World->Prop}(d:K (if n<2 then 0 else IntKind.wrap .u32 (IntKind.wrap .u32 (Int.tdiv 4294967295 n)+1)) w):F.Ka E n K w:=by
 unfold F.Ka;refine AD (fun h=> ?_) fun h=>⟨by omega,AU fun x j=> ?_⟩
 ·rw[if_pos h]at d;exact d
 ·rw[if_neg h]at d;rw[j];exact d
theorem Vk{L:List aC}(h:0<L.length)(y:aC):L.set (L.length-1) y=L.dropLast++[y]:=by
 apply List.ext_getElem?;intro i;rw[List.getElem?_set];by_cases e:L.length-1=i
 ·subst e;rw[if_pos rfl,if_pos (by omega),List.getElem?_append_right (by rw[List.length_dropLast];omega),List.length_dropLast,Nat.sub_self];rfl
 ·rw[if_neg e];by_cases hl:i<L.length-1
  ·rw[List.getElem?_append_left (by rw[List.length_dropLast];omega),List.getElem?_dropLast,if_pos hl]
  ·rw[List.getElem?_eq_none (by omega),List.getElem?_eq_none (by rw[List.length_append,List.length_dropLast];simp;omega)]
theorem Vl{L:List aC}(h:0<L.length):L[L.length-1]? =some (L.getLastD (0,0,0,0)):=by
 rw[List.getLastD_eq_getLast?,List.getLast?_eq_getElem?];rw[List.getElem?_eq_getElem (by omega)];rfl
theorem XS(H:Sat Z w){K:AZ->World->Prop}(hK: ∀s w',Sat (Row E.A0 4 s (Bj Hj L8)::Z) w'->K s w'):F.GJ E K w:=by
 unfold F.GJ T0.GJ F.IA T0.IA;have p1:Tv (u64 8192)=true:=by decide+kernel
 have p2:Tv (u64 32768)=true:=by decide+kernel
 refine An (Ac (by decide) (Ac (by decide) (Q8 ?_)));rw[p1];refine Ac rfl (Ac (by decide) (Ac (by decide+kernel) (Q8 ?_)));rw[p2];refine fun j=>Ac rfl ?_;obtain⟨aC,aK⟩:=runs;refine Hu (n:=1) (z:=4) H rfl (by decide) fun b8 w9 H9=> ?_;refine AK (fun st w'=> ∃k:Nat,k<=rounds/\st.2.1=(Mp k).KS/\st.2.2.1=(Mp k).size/\Sat (Row E.A0 4 st.1 (Bj Hj (Mp k).l)::Z) w') (fun st _=>(40000-st.2.2.1).toNat)
  ⟨0,Nat.zero_le _,rfl,rfl,H9⟩ ?_
 rintro⟨J,KS,size,v⟩ _ b4 ⟨k,hk,aO,aI,C⟩;dsimp only at aO aI C⊢;have hl:=C.IW (by decide) Av;refine AD (fun hle=> ?_) fun aQ=> ?_
 ·have aN:k<rounds:=by
   rcases Nat.lt_or_eq_of_le hk with g|g
   ·exact g
   ·subst g;rw[aK]at aI;have:=Yu;omega
  have hg:=N5 (aC k aN);rw[aO,aI];generalize hS:Mp k=S at hg aI aO C hl⊢;have Y:Mp (k+1)=S.next:=by rw[<-hS];rfl
  have bV:=hg.s0;have b9:=hg.s1;have aY:=hg.l0;have bI:=hg.l1;refine aD hg.s0 (XQ (by omega) hg.KS ?_);have d:=Vl aY;obtain⟨b,hb⟩:=C.Fx (by decide) Av (i:=S.l.length-1) (by omega);rw[hb];simp only[AI];rw[AH (n:=((J.len:Nat):Int)-1)];have et:Int.toNat (((J.len:Nat):Int)-1)=S.l.length-1:=by omega
  rw[et];have Hd:=C.drew;have c0:=Hd.CD Av hb d (j:=0) rfl;have c1:=Hd.CD Av hb d (j:=1) rfl;have aL:S.l.getLastD (0,0,0,0)=S.last:=rfl;rw[aL]at c0 c1 d;rw[Nat.add_zero]at c0;have bK:=hg.st0;have bL:=hg.st1;rw[AH (n:=S.size+IH S.size S.KS)];have aJ:S.next.size=S.size+IH S.size S.KS:=AH;refine⟨⟨by omega,by omega⟩,?_⟩;refine AX (fun st w'=>st.1=S.same/\Sat (Row E.A0 4 J (Bj Hj S.l)::Z) w') ?_ ?_
  ·unfold N3.same;refine AD (fun h1=>⟨S.last.2.1,by rw[add_add];exact c1,by decide,BW (fun e1=> ?_) fun e1=> ?_⟩) fun h1=> ?_
   ·have d1:decide (1<S.l.length)=true:=decide_eq_true (by omega);have a4:=c0;have bA:=c1;refine⟨S.last.2.1,by rw[add_add];exact bA,S.last.1,a4,hg.nz (by omega),by omega,?_,Hd⟩;rw[d1,e1,beq_self_eq_true,Bool.true_and,Bool.true_and]
   ·refine⟨?_,Hd⟩;rw[show(S.last.2.1==i64 (Int.tdiv (bytesF S.size 16 8192) 8192))=false by simpa using e1];simp
   ·refine⟨?_,Hd⟩;rw[decide_eq_false (by omega)];rfl
  rintro⟨x,v⟩ _ cB ⟨hx,aT⟩;dsimp only at hx;subst hx;refine AQ (fun e=> ?_) fun e=>⟨by decide,?_⟩
  ·have hs:=Gh aT (j:=(S.l.length-1)*4) (v:=.int .i64 S.size) (K:=fun a0=>(∃k:Nat,k<=rounds/\IH S.size S.KS=(Mp k).KS/\S.size+IH S.size S.KS=(Mp k).size/\Sat (Row E.A0 4 J (Bj Hj (Mp k).l)::Z) a0)/\(40000-(S.size+IH S.size S.KS)).toNat<(40000-S.size).toNat) rfl (by rw[DQ Av];omega) hb fun a0 aR=>⟨⟨k+1,by omega,by rw[Y];rfl,by rw[Y];exact aJ.symm,?_⟩,by omega⟩
   ·exact hs
   ·have:=Hi Av d (j:=0) (y:=(S.size,S.last.2)) (v:=.int .i64 S.size) (by decide) rfl;rw[Nat.add_zero]at this;rw[this,Vk aY]at aR;rw[Y];unfold N3.next;rw[if_pos e];exact aR
  ·refine Ad aT fun bQ cA bD _=> ?_;refine GP (news:=Hj (S.size,i64 (Int.tdiv (bytesF S.size 16 8192) 8192),0,0)) bD rfl rfl (Vh _) (by omega) (by omega) fun bN bX aW _=>⟨⟨k+1,by omega,by rw[Y];rfl,by rw[Y];exact aJ.symm,?_⟩,by omega⟩;have e1:Bj Hj S.l++Hj (S.size,i64 (Int.tdiv (bytesF S.size 16 8192) 8192),0,0)=Bj Hj (S.l++[(S.size,i64 (Int.tdiv (bytesF S.size 16 8192) 8192),0,0)]):=by rw[Hf];simp[Bj]
   rw[e1]at aW;rw[Y];unfold N3.next;rw[if_neg (show ¬S.same=true from fun h=>by have e':S.same=false:=e;rw[e']at h;cases h)];exact aW
 ·have aN:k=rounds:=by
   rcases Nat.lt_or_eq_of_le hk with g|g
   ·have:=(N5 (aC k g)).s1;omega
   ·exact g
  subst aN;rw[aK]at C hl;have hlen:=Yv;cases hL:Vj.l with
  | nil=>rw[hL]at hlen;cases hlen
  | cons c0 T=>
   rw[hL]at C hl hlen;have hT:T.length=67:=by simpa using hlen
   have a1: ∀i c,T[i]? =some c->Vi c=true:=fun i c hc=>by
    have:=Yw;rw[hL]at this;exact List.all_eq_true.1 this c (List.mem_of_getElem? hc)
   have aS:L8=c0::T.map Dk:=by unfold L8;rw[hL]
   refine⟨⟨by decide,by omega⟩,?_⟩;refine AK (fun st w'=> ∃i:Nat,st.1=(i:Int)/\i<=67/\Sat (Row E.A0 4 J (Bj Hj (c0::((T.take i).map Dk++T.drop i)))::Z) w') (fun st _=>(67-st.1).toNat) ⟨0,rfl,by decide,C⟩ ?_;rintro⟨i',v⟩ _ a7 ⟨i,hi,bJ,O⟩;dsimp only at hi⊢;subst hi;refine AD (fun b3=> ?_) fun bP=> ?_
   ·have b0:i<67:=by omega
    obtain⟨c,hc⟩: ∃c,T[i]? =some c:=⟨_,List.getElem?_eq_getElem (by omega)⟩;have Bi:=a1 i c hc;unfold Vi at Bi;simp only[Bool.and_eq_true,Bool.or_eq_true,decide_eq_true_eq,bne_iff_ne]at Bi;obtain⟨o1,o2,o3,o4⟩:=Bi;rw[AH (n:=(i:Int)+1)];have et:Int.toNat ((i:Int)+1)=i+1:=by omega
    rw[et];generalize hF:(c0::((T.take i).map Dk++T.drop i))=FX at O;have b5:FX.length=68:=by rw[<-hF];simp[List.length_take,List.length_drop];omega
    have aH:FX[i+1]? =some c:=by
     rw[<-hF,List.getElem?_cons_succ,List.getElem?_append_right (by rw[List.length_map,List.length_take];omega),List.length_map,List.length_take,Nat.min_eq_left (by omega),Nat.sub_self,List.getElem?_drop,Nat.add_zero];exact hc
    have bB:FX.set (i+1) (Dk c)=c0::((T.take (i+1)).map Dk++T.drop (i+1)):=by
     rw[<-hF,List.set_cons_succ];congr 1;have a5:c=T[i]:=by rw[List.getElem?_eq_getElem (by omega)]at hc;exact(Option.some.inj hc).symm
     rw[List.set_append_right _ _ (by rw[List.length_map,List.length_take];omega),List.length_map,List.length_take,Nat.min_eq_left (by omega),Nat.sub_self,List.take_succ_eq_append_getElem (by omega),List.map_append,List.drop_eq_getElem_cons (by omega),List.set_cons_zero,List.append_assoc,a5];rfl
    obtain⟨b,hb⟩:=O.Fx (by decide) Av (i:=i+1) (by omega);rw[hb];simp only[AI];have d0:=O.CD Av hb aH (j:=0) rfl;have d1:=O.CD Av hb aH (j:=1) rfl;rw[Nat.add_zero]at d0;refine⟨⟨by omega,by omega⟩,c.2.1,by rw[add_add];exact d1,?_⟩;refine AX (fun _ w'=>Sat (Row E.A0 4 J (Bj Hj (FX.set (i+1) ((Dk c).1,c.2)))::Z) w') ?_ ?_
    ·refine⟨c.1,d0,o1,o2,by decide,AU fun wide aB=>⟨c.1,d0,AD (fun aQ=> ?_) fun a8=> ?_⟩⟩
     ·have e1:(Dk c).1=wide:=by unfold Dk;dsimp only;rw[<-aB,if_pos aQ]
      refine Gh O (j:=(i+1)*4) rfl (by rw[DQ Av];omega) hb fun a9 aZ=> ?_;have:=Hi Av aH (j:=0) (y:=(wide,c.2)) (v:=.int .i64 wide) (by decide) rfl;rw[Nat.add_zero]at this;rw[this]at aZ;show Sat (Row E.A0 4 J (Bj Hj (FX.set (i+1) ((Dk c).1,c.2)))::Z) a9;rw[e1];exact aZ
     ·have e1:(Dk c).1=c.1:=by unfold Dk;dsimp only;rw[<-aB,if_neg a8]
      show Sat (Row E.A0 4 J (Bj Hj (FX.set (i+1) ((Dk c).1,c.2)))::Z) a7;rw[e1];have:FX.set (i+1) (c.1,c.2)=FX:=by
       have:=List.getElem?_eq_some_iff.1 aH;rw[show(c.1,c.2)=FX[i+1]from this.2.symm,List.set_getElem_self]
      rw[this];exact O
    rintro _ _ bS a2;have g1:(FX.set (i+1) ((Dk c).1,c.2))[i+1]? =some ((Dk c).1,c.2):=by rw[List.getElem?_set_self (by omega)]
    have f0:=a2.CD Av hb g1 (j:=0) rfl;rw[Nat.add_zero]at f0;have aF:i64 (Int.tdiv (i64 (c.2.1*8192)) (Dk c).1)=(Dk c).2.2.1:=rfl;refine⟨(Dk c).1,f0,o3,?_⟩;rw[aF,add_add];refine Gh a2 (j:=(i+1)*4+2) rfl (by rw[DQ Av,List.length_set];omega) hb fun bZ aM=> ?_;have:=Hi Av g1 (j:=2) (y:=((Dk c).1,c.2.1,(Dk c).2.2.1,c.2.2.2)) (v:=.int .i64 (Dk c).2.2.1) (by decide) rfl;rw[this,List.set_set]at aM;have g2:(FX.set (i+1) ((Dk c).1,c.2.1,(Dk c).2.2.1,c.2.2.2))[i+1]? =some ((Dk c).1,c.2.1,(Dk c).2.2.1,c.2.2.2):=by rw[List.getElem?_set_self (by omega)]
    have a3:=aM.CD Av hb g2 (j:=0) rfl;rw[Nat.add_zero]at a3;refine⟨(Dk c).1,a3,XR o4 ?_⟩;have aV:(if IntKind.wrap .u32 (Dk c).1<2 then(0:Int)else IntKind.wrap .u32 (IntKind.wrap .u32 (Int.tdiv 4294967295 (IntKind.wrap .u32 (Dk c).1))+1))=(Dk c).2.2.2:=rfl;rw[aV,add_add];refine Gh aM (j:=(i+1)*4+3) rfl (by rw[DQ Av,List.length_set];omega) hb fun cC aX=>⟨⟨i+1,by omega,by omega,?_⟩,by omega⟩;have h3:=Hi Av g2 (j:=3) (y:=Dk c) (v:=.int .u32 (Dk c).2.2.2) (by decide) rfl;rw[h3,List.set_set,bB]at aX;exact aX
   ·have a6:i=67:=by omega
    subst a6;rw[<-hT,List.take_length,List.drop_length,List.append_nil,<-aS]at O;exact hK _ _ O
end
end Go.Sh
set_option linter.all false
set_option maxRecDepth 4000
set_option maxHeartbeats 1000000
namespace Go.Sh
structure SI where
 base:Int
 AB:Int
 state:Int
 cls:Int
 I7:Bool
 elem:Int
 Ar:Int
 used:Int
 f8:Bool
 f9:Bool
 magic:Int
 uw:List Int
 mw:List Int
 look:Int
def F6(S:SI)(d sm:AZ):List Value:=[.int .u64 S.base,.int .i64 S.AB,.int .i64 S.state,.int .i64 S.cls,.bool S.I7,.int .i64 S.elem,.int .i64 S.Ar,.int .i64 S.used,.bool S.f8,.bool S.f9,.int .u32 S.magic,Ie d,Ie sm,.int .i64 S.look]
def Yx(E:Env)(b:Nat)(S:SI)(d sm:AZ):List Pr:=[Cells b E.Eo (F6 S d sm),Row E.AJ 1 d (ints .u64 S.uw),Row E.AJ 1 sm (ints .u64 S.mw)]
def Ed(E:Env)(b:Nat)(S:SI):Pr:=Ex fun x:AZ×AZ=>Qe (Yx E b S x.1 x.2)
def E3(c:Int):aC:=L8.getD c.toNat (0,0,0,0)
def E7(page AB c:Int):Prop:=AB=0∨34359738368<page∨34359738368-page<AB∨c<0∨68<=c∨(c=0/\134217728<AB)∨(0<c/\AB≠(E3 c).2.1)
def IX(page AB c:Int)(I7:Bool):SI:=⟨page*8192,AB,1,c,I7,if c=0 then AB*8192 else(E3 c).1,if c=0 then 1 else(E3 c).2.2.1,0,false,false,(E3 c).2.2.2,[],[],0⟩
theorem aE:(L8.all fun c=>decide (0<=c.2.1)&&decide (c.2.1<=100))=true:=by decide+kernel
theorem NA{c:Int}(h0:0<=c)(h1:c<68):L8[c.toNat]? =some (E3 c):=by
 have d:c.toNat<L8.length:=by rw[N4];omega
 unfold E3;rw[List.getD_eq_getElem?_getD,List.getElem?_eq_getElem d];rfl
theorem KE{c:Int}(h0:0<=c)(h1:c<68):0<=(E3 c).2.1/\(E3 c).2.1<=100:=by
 have:=List.all_eq_true.1 aE _ (List.mem_of_getElem? (NA h0 h1));simpa using this
section
variable{E:Env}{b:Nat}{S:SI}{Z:List Pr}{w:World}
theorem Sat.span:Sat (Ed E b S::Z) w↔ ∃d sm,Sat (Yx E b S d sm++Z) w:=by
 unfold Ed;rw[Sat.ex];constructor
 ·rintro⟨⟨d,sm⟩,h⟩;exact⟨d,sm,Sat.star.1 h⟩
 ·rintro⟨d,sm,h⟩;exact⟨⟨d,sm⟩,Sat.star.2 h⟩
theorem Q9(H:Sat Z w){page AB c:Int}{np:Bool}(h0:0<=page)(p0:0<=AB)(p1:AB<18446744073709551616){K:Option Addr->Int->World->Prop}
  (aN:E7 page AB c-> ∀w',Sat Z w'->K none 1 w')(aM: ¬E7 page AB c-> ∀b w',Sat (Ed E b (IX page AB c np)::Z) w'->K (some ⟨b,0,none⟩) 0 w'):F.I1 E page AB c np K w:=by
 unfold F.I1 T0.I1;refine XS H fun r1 w2 H2=> ?_;have hl:=H2.IW (by decide) Av;rw[N4]at hl;have ct:0<=c->c<68-> ∃x,r1.base=some ⟨x,0,none⟩/\ ∀{w'} {Y:List Pr},Sat (Row E.A0 4 r1 (Bj Hj L8)::Y) w'->w'.cell? ((Addr.mk x 0 none).add (Int.toNat c*4))=some (.int .i64 (E3 c).1)/\w'.cell? (((Addr.mk x 0 none).add (Int.toNat c*4)).add 1)=some (.int .i64 (E3 c).2.1)/\
   w'.cell? (((Addr.mk x 0 none).add (Int.toNat c*4)).add 2)=some (.int .i64 (E3 c).2.2.1)/\w'.cell? (((Addr.mk x 0 none).add (Int.toNat c*4)).add 3)=some (.int .u32 (E3 c).2.2.2):=fun c0 c1=>by
  obtain⟨x,C⟩:=H2.Fx (by decide) Av (i:=c.toNat) (by rw[N4];omega);refine⟨x,C,fun h=>⟨?_,?_,?_,?_⟩⟩
  ·have:=h.CD Av C (NA c0 c1) (j:=0) rfl;rwa[Nat.add_zero]at this
  ·rw[add_add];exact h.CD Av C (NA c0 c1) (j:=1) rfl
  ·rw[add_add];exact h.CD Av C (NA c0 c1) (j:=2) rfl
  ·rw[add_add];exact h.CD Av C (NA c0 c1) (j:=3) rfl
 have d:E7 page AB c->K none 1 w2:=fun h=>aN h w2 H2.tail;have main: ¬E7 page AB c->
   NC r1.base fun aE=>
   ((0:Int)<=c/\(c:Int)<(r1.len:Nat))/\
   ∃aA:Int,w2.drew.cell? (aE.add (Int.toNat c*4))=some (.int .i64 aA)/\
   NC r1.base fun aK=>
   ((0:Int)<=c/\(c:Int)<(r1.len:Nat))/\
   ∃T:Int,w2.drew.cell? ((aK.add (Int.toNat c*4)).add 2)=some (.int .i64 T)/\
   NC r1.base fun aG=>
   ((0:Int)<=c/\(c:Int)<(r1.len:Nat))/\
   ∃aC:Int,w2.drew.cell? ((aG.add (Int.toNat c*4)).add 3)=some (.int .u32 aC)/\
   AL (.cells #[.int .u64 (u64 (page*8192)),.int .i64 (i64 (AB)),.int .i64 1,.int .i64 c,.bool np,.int .i64 aA,.int .i64 T,.int .i64 0,.bool false,.bool false,.int .u32 aC,.slice none 0 0,.slice none 0 0,.int .i64 0] E.Eo) w2.drew fun v y=>
   y.cell? ((aG.add (Int.toNat c*4)).add 3)=some (.int .u32 aC)/\
   y.cell? ((aK.add (Int.toNat c*4)).add 2)=some (.int .i64 T)/\
   y.cell? (aE.add (Int.toNat c*4))=some (.int .i64 aA)/\
   CND ((c:Int)==0) (
    stCells ((Addr.mk v 0 none).add 5) 0 [.int .i64 (i64 ((i64 (AB))*8192))] y fun aJ=>
    stCells ((Addr.mk v 0 none).add 6) 0 [.int .i64 1] aJ fun aI=>
    K (some (Addr.mk v 0 none)) 0 aI
   ) (
    K (some (Addr.mk v 0 none)) 0 y
   ):=fun aF=>by
  have J:=aF;unfold E7 at J;have c0:0<=c:=by omega
  have c1:c<68:=by omega
  have aO:=KE c0 c1;have aX:AB<=134217728:=by
   by_cases e:c=0
   ·omega
   ·have:AB=(E3 c).2.1:=Classical.byContradiction fun h=>J (.inr (.inr (.inr (.inr (.inr (.inr ⟨by omega,h⟩))))));omega
  obtain⟨x,C,Ba⟩:=ct c0 c1;have Hd:=H2.drew;obtain⟨d0,d1,d2,d3⟩:=Ba Hd;have O:(0:Int)<=c/\(c:Int)<(r1.len:Nat):=by omega
  rw[C];simp only[AI];refine⟨O,_,d0,O,_,d2,O,_,d3,?_⟩;rw[AM (n:=page*8192),AH (n:=AB),AH (n:=AB*8192)];refine Ad (vs:=[.int .u64 (page*8192),.int .i64 AB,.int .i64 1,.int .i64 c,.bool np,.int .i64 (E3 c).1,.int .i64 (E3 c).2.2.1,.int .i64 0,.bool false,.bool false,.int .u32 (E3 c).2.2.2,.slice none 0 0,.slice none 0 0,.int .i64 0]) Hd fun v y aB _=> ?_;obtain⟨f0,f1,f2,f3⟩:=Ba (aB.front 1 rfl);have fin: ∀{w'} {el sl:Int},el=(if c=0 then AB*8192 else(E3 c).1)->sl=(if c=0 then 1 else(E3 c).2.2.1)->
    Sat (Cells v E.Eo [.int .u64 (page*8192),.int .i64 AB,.int .i64 1,.int .i64 c,.bool np,.int .i64 el,.int .i64 sl,.int .i64 0,.bool false,.bool false,.int .u32 (E3 c).2.2.2,.slice none 0 0,.slice none 0 0,.int .i64 0]::Row E.A0 4 r1 (Bj Hj L8)::Z) w'->K (some ⟨v,0,none⟩) 0 w':=fun e1 e2 h=>by
   subst e1;subst e2;refine aM aF v _ (Sat.span.2 ⟨⟨none,0,0⟩,⟨none,0,0⟩,?_⟩);have h1:=(h.front 1 rfl).tail;have h2:=h1.nil E.AJ 1;have h3:=h2.nil E.AJ 1;exact h3.perm ((List.reverse_perm [_,_,_]).symm.append_right Z)
  refine⟨f3,f2,f0,BW (fun e=> ?_) fun e=>fin (by rw[if_neg e]) (by rw[if_neg e]) aB⟩;refine Ak aB (o:=0) (m:=5) rfl (by simp) fun aJ aR=>Ak aR (o:=0) (m:=6) rfl (by simp) fun aI aQ=>fin (by rw[if_pos e]) (by rw[if_pos e]) aQ
 refine An (BW (fun e j=>AV rfl (d (.inl e))) fun n1=>AD (fun e j=>AV rfl (d (.inr (.inl (by omega))))) fun n2=> ?_);rw[AM (n:=34359738368-page)];refine AD (fun e j=>AV rfl (d (.inr (.inr (.inl (by omega)))))) fun n3=>AD (fun e j=>AV rfl (d (.inr (.inr (.inr (.inl e)))))) fun n4=>AD (fun e j=>AV rfl (d (.inr (.inr (.inr (.inr (.inl (by omega)))))))) fun n5=>BW (fun e0=>AD (fun e j=>AV rfl (d (.inr (.inr (.inr (.inr (.inr (.inl ⟨e0,by omega⟩)))))))) fun n6=>AD (fun e=>by omega) fun n7 j=>Ac rfl (main ?_)) fun e0=>AD (fun e=> ?_) fun n7=>by omega
 ·unfold E7;omega
 ·obtain⟨x,C,Ba⟩:=ct (by omega) (by omega);have aO:=KE (c:=c) (by omega) (by omega);have aP:=(Ba H2).2.1;have m':=main;rw[C]at m'⊢;simp only[AI]at m'⊢;refine⟨⟨by omega,by omega⟩,_,aP,fun j=> ?_⟩;rw[AM (n:=(E3 c).2.1)];refine Cz (fun h=>d (.inr (.inr (.inr (.inr (.inr (.inr ⟨by omega,h⟩))))))) fun h=>m' ?_;unfold E7;omega
theorem KF(H:Sat (Ed E b S::Z) w){K:Int->Int->Int->Int->Bool->Int->Int->Int->Bool->Bool->World->Prop}(C: ∀w',Sat (Ed E b S::Z) w'->K S.base S.AB S.state S.cls S.I7 S.elem S.Ar S.used S.f8 S.f9 w'):
  F.Dd E (some ⟨b,0,none⟩) K w:=by
 obtain⟨y,sm,H⟩:=Sat.span.1 H;unfold F.Dd;simp only[AI];refine Ad (vs:=[.int .u64 0,.int .i64 0,.int .i64 0,.int .i64 0,.bool false,.int .i64 0,.int .i64 0,.int .i64 0,.bool false,.bool false]) H fun b1 J v _=> ?_;have h:=v.front 1 rfl;refine⟨_,h.cell rfl,_,h.cell rfl,_,h.cell rfl,_,h.cell rfl,_,h.cell rfl,_,h.cell rfl,_,h.cell rfl,_,h.cell rfl,_,h.cell rfl,_,h.cell rfl,?_⟩;refine Jc (news:=[.int .u64 S.base,.int .i64 S.AB,.int .i64 S.state,.int .i64 S.cls,.bool S.I7,.int .i64 S.elem,.int .i64 S.Ar,.int .i64 S.used,.bool S.f8,.bool S.f9]) v rfl (by simp[Value.oneCell']) fun j d=> ?_;exact⟨_,d.cell rfl,_,d.cell rfl,_,d.cell rfl,_,d.cell rfl,_,d.cell rfl,_,d.cell rfl,_,d.cell rfl,_,d.cell rfl,_,d.cell rfl,_,d.cell rfl,C j (Sat.span.2 ⟨y,sm,d.tail⟩)⟩
theorem XT(H:Sat (Ed E b S::Z) w){K:Int->World->Prop}(d:(S.state=0∨0<S.used)->K 33 w)
  (v: ¬(S.state=0∨0<S.used)-> ∀w',Sat (Ed E b {S with state:=0,used:=0,uw:=[],mw:=[]}::Z) w'->K 0 w'):F.He E (some ⟨b,0,none⟩) K w:=by
 obtain⟨su,sm,H⟩:=Sat.span.1 H;unfold F.He;simp only[AI];refine An ⟨_,H.cell rfl,BW (fun e j=>AV rfl (d (.inl e))) fun n1=>⟨_,H.cell rfl,fun j=>AD (fun e=>d (.inr e)) fun n2=> ?_⟩⟩;refine Ak H (o:=0) (m:=2) rfl (by simp[F6]) fun w1 H1=>Ak H1 (o:=0) (m:=7) rfl (by simp[F6]) fun w2 Y=>Ak Y (o:=0) (m:=11) rfl (by simp[F6]) fun w3 T=>Ak T (o:=0) (m:=12) rfl (by simp[F6]) fun O J=>v (by omega) O (Sat.span.2 ⟨⟨none,0,0⟩,⟨none,0,0⟩,?_⟩);have h1:=(J.front 1 rfl).tail;have C:=(h1.front 1 rfl).tail;have h3:=C.nil E.AJ 1;have y:=h3.nil E.AJ 1;exact y.perm ((List.reverse_perm [_,_,_]).symm.append_right Z)
end
end Go.Sh

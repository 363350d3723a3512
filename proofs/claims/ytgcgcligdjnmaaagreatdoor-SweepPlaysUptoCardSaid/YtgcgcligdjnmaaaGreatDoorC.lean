/- Records, classes and spans do what they say. No further condition. -/
import Derived.Test.YtgcgcligdjnmaaaGreatDoorA
import Derived.Test.YtgcgcligdjnmaaaGreatDoorM
import Derived.Test.YtgcgcligdjnmaaaGreatDoorY
import Derived.Test.YtgcgcligdjnmaaaGreatDoorF
import Derived.Test.YtgcgcligdjnmaaaGreatDoorSh
set_option linter.all false
set_option maxRecDepth 50000
set_option maxHeartbeats 2000000
namespace Go.Sh
section
variable{α:Type}{f:α->List Value}{z:Nat}
def Al(f:α->List Value)(L:List α):List Value:=L.flatMap f
def FV(x:α)(L:List α):Al f (x::L)=f x++Al f L:=by simp[Al]
def FN(L M:List α):Al f (L++M)=Al f L++Al f M:=by simp[Al]
def DQ(hf: ∀x,(f x).length=z): ∀L:List α,(Al f L).length=L.length*z
 | []=>by simp[Al]
 | x::r=>by rw[FV,List.length_append,DQ hf r,hf,List.length_cons,Nat.succ_mul];omega
def Yi(hf: ∀x,(f x).length=z): ∀{L:List α} {i:Nat} {x:α} {j:Nat} {v:Value},L[i]? =some x->(f x)[j]? =some v->(Al f L)[i*z+j]? =some v
 | y::r,0,x,j,v,h,hj=>by
  have h:y=x:=Option.some.inj h;subst h;have:=(List.getElem?_eq_some_iff.1 hj).1;rw[FV,Nat.zero_mul,Nat.zero_add,List.getElem?_append_left this];exact hj
 | y::r,i+1,x,j,v,h,hj=>by
  rw[FV,Nat.succ_mul,List.getElem?_append_right (by grind),hf,show i*z+z+j-z=i*z+j by omega];exact Yi hf (L:=r) h hj
def Vw(hf: ∀x,(f x).length=z): ∀(L:List α) (i:Nat),(Al f L).take (i*z)=Al f (L.take i)
 | [],i=>by simp[Al]
 | y::r,0=>by simp[Al]
 | y::r,i+1=>by
  rw[FV,List.take_succ_cons,FV,List.take_append,hf,List.take_of_length_le (by grind),Nat.succ_mul,show i*z+z-z=i*z by omega,Vw hf r i]
def Vx(hf: ∀x,(f x).length=z): ∀(L:List α) (i:Nat),(Al f L).drop (i*z)=Al f (L.drop i)
 | [],i=>by simp[Al]
 | y::r,0=>by simp
 | y::r,i+1=>by
  rw[FV,List.drop_succ_cons,List.drop_append,hf,List.drop_eq_nil_iff.2 (by grind),List.nil_append,Nat.succ_mul,show i*z+z-z=i*z by omega,Vx hf r i]
def GA(j: ∀x,∀v∈f x,v.oneCell'=true)(L:List α): ∀v∈Al f L,v.oneCell'=true:=by
 intro v d;simp only[Al,List.mem_flatMap]at d
 grind
def Iu(hf: ∀x,(f x).length=z): ∀{L:List α} {i:Nat} {x y:α} {j:Nat} {v:Value},L[i]? =some x->j<z->(f x).set j v=f y->(Al f L).set (i*z+j) v=Al f (L.set i y)
 | c::r,0,x,y,j,v,h,hj,he=>by
  have h:c=x:=Option.some.inj h;subst h;rw[FV,Nat.zero_mul,Nat.zero_add,List.set_append_left _ _ (by rw[hf];exact hj),he,List.set_cons_zero,FV]
 | c::r,i+1,x,y,j,v,h,hj,he=>by
  rw[FV,List.set_cons_succ,FV,Nat.succ_mul,List.set_append_right _ _ (by grind),hf,show i*z+z+j-z=i*z+j by omega,Iu hf (L:=r) h hj he]
def Yj(hf: ∀x,(f x).length=z): ∀{L:List α} {i:Nat} {y:α},i<L.length->(Al f L).take (i*z)++f y++(Al f L).drop (i*z+z)=Al f (L.set i y)
 | c::r,0,y,h=>by
  rw[FV,Nat.zero_mul,Nat.zero_add,List.set_cons_zero,FV,List.take_zero,List.nil_append,List.drop_append,hf,List.drop_eq_nil_iff.2 (by rw[hf];omega),Nat.sub_self,List.drop_zero,List.nil_append]
 | c::r,i+1,y,h=>by
  have d:=Yj hf (L:=r) (i:=i) (y:=y) (by simpa using h);rw[FV,List.set_cons_succ,FV,<-d,Nat.succ_mul,List.take_append,List.drop_append,hf,List.take_of_length_le (by grind),List.drop_eq_nil_iff.2 (by grind),List.nil_append,show i*z+z-z=i*z by omega,show i*z+z+z-z=i*z+z by omega]
  grind
def pos(key:α->Int):List α->Int->Nat
 | [],_=>0
 | c::r,n=>if key c<n then pos key r n+1 else 0
def Ik(key:α->Int)(L:List α):Prop:=L.Pairwise λa b=>key a<key b
variable{key:α->Int}
def Mf: ∀(L:List α) (n:Int),pos key L n<=L.length
 | [],_=>Nat.le_refl _
 | c::r,n=>by simp only[pos];split;exact Nat.succ_le_succ (Mf r n);omega
def HL: ∀{L:List α} {n:Int} {j:Nat} {c:α},L[j]? =some c->j<pos key L n->key c<n
 | c::r,n,0,x,h,hj=>by
  have h:c=x:=Option.some.inj h;subst h;simp only[pos]at hj;grind
 | c::r,n,j+1,x,h,hj=>by
  simp only[pos]at hj;split at hj
  .exact HL (L:=r) h (by omega)
  .omega
def pos_at: ∀{L:List α} {n:Int} {c:α},L[pos key L n]? =some c->n<=key c
 | c::r,n,x,h=>by
  simp only[pos]at h;split at h
  .exact pos_at (L:=r) h
  .have h:c=x:=Option.some.inj h
   grind
def Ik.lt{L:List α}(hs:Ik key L){i j:Nat}{a b:α}(d:L[i]? =some a)(v:L[j]? =some b)(h:i<j):key a<key b:=by
 have h1:=(List.getElem?_eq_some_iff.1 d);have h2:=(List.getElem?_eq_some_iff.1 v);have:=List.pairwise_iff_getElem.1 hs i j h1.1 h2.1 h
 grind
def RB{L:List α}(hs:Ik key L){n:Int}{j:Nat}{c:α}(h:L[j]? =some c)(v:pos key L n<=j):n<=key c:=by
 have y:=(List.getElem?_eq_some_iff.1 h).1;have d:=List.getElem?_eq_getElem (show pos key L n<L.length by omega);have h1:=pos_at d;rcases Nat.lt_or_eq_of_le v with h2|h2
 .have:=hs.lt d h h2;omega
 grind
def Mg{L:List α}(hs:Ik key L){n:Int}{c:α}(y:c∈L)(O:key c=n):L[pos key L n]? =some c:=by
 obtain⟨j,d⟩:=List.mem_iff_getElem?.1 y;rcases Nat.lt_or_ge j (pos key L n)with h|h
 .have:=HL d h;omega
 .have K:=(List.getElem?_eq_some_iff.1 d).1;rcases Nat.lt_or_eq_of_le h with h2|h2
  .have v:=List.getElem?_eq_getElem (show pos key L n<L.length by omega);have:=pos_at v;have J:=hs.lt v d h2;omega
  grind
def UD{L:List α}(hs:Ik key L){n:Int}{i:Nat}(v:i<=L.length)(h1: ∀(j:Nat) c,L[j]? =some c->j<i->key c<n)(h2: ∀(j:Nat) c,L[j]? =some c->i<=j->n<=key c):i=pos key L n:=by
 have hp:=Mf (key:=key) L n;rcases Nat.lt_trichotomy i (pos key L n)with h|h|h
 .have d:=List.getElem?_eq_getElem (show i<L.length by omega);have:=h2 i _ d (Nat.le_refl _);have:=HL d h;omega
 .exact h
 .have d:=List.getElem?_eq_getElem (show pos key L n<L.length by omega);have:=h1 _ _ d h;have:=pos_at d;omega
def Ik.take{L:List α}(hs:Ik key L)(i:Nat):Ik key (L.take i):=List.Pairwise.sublist (List.take_sublist _ _) hs
def Ik.drop{L:List α}(hs:Ik key L)(i:Nat):Ik key (L.drop i):=List.Pairwise.sublist (List.drop_sublist _ _) hs
def Ik.filter{L:List α}(hs:Ik key L)(p:α->Bool):Ik key (L.filter p):=List.Pairwise.sublist List.filter_sublist hs
def Ik.inj{L:List α}(hs:Ik key L){a b:α}(d:a∈L)(j:b∈L)(h:key a=key b):a=b:=by
 have h1:=Mg hs d rfl;have h2:=Mg hs j h.symm
 grind
def K0{L:List α}{n:Int}{c:α}(v:c∈L.take (pos key L n)):c∈L/\key c<n:=by
 obtain⟨j,d⟩:=List.mem_iff_getElem?.1 v;rw[List.getElem?_take]at d;split at d
 .rename_i h;exact⟨List.mem_of_getElem? d,HL d h⟩
 .cases d
def K1{L:List α}(hs:Ik key L){n:Int}{c:α}(v:c∈L.drop (pos key L n)):c∈L/\n<=key c:=by
 obtain⟨j,d⟩:=List.mem_iff_getElem?.1 v;rw[List.getElem?_drop]at d;exact⟨List.mem_of_getElem? d,RB hs d (by omega)⟩
def jW{L:List α}{n:Int}{c:α}(hs:Ik key L)(d:c∈L)(h:key c<n):c∈L.take (pos key L n):=by
 rw[<-List.take_append_drop (pos key L n) L]at d;rcases List.mem_append.1 d with h1|h1
 .exact h1
 .have:=(K1 hs h1).2;omega
def jX{L:List α}{n:Int}{c:α}(d:c∈L)(h:n<=key c):c∈L.drop (pos key L n):=by
 rw[<-List.take_append_drop (pos key L n) L]at d;rcases List.mem_append.1 d with h1|h1
 .have:=(K0 h1).2;omega
 .exact h1
def Ik.jY{L M N:List α}(j:Ik key L)(v:Ik key M)(J:Ik key N){a b:Int}(K:a<=b)(h1: ∀c∈L,key c<a)(h2: ∀c∈M,a<=key c/\key c<b)(T: ∀c∈N,b<=key c):Ik key (L++M++N):=by
 unfold Ik;rw[List.append_assoc,List.pairwise_append,List.pairwise_append];refine⟨j,⟨v,J,λx d y O=> ?_⟩,λx d y O=> ?_⟩
 .have:=(h2 x d).2;grind
 .have:=h1 x d
  grind
def Ik.KY: ∀{L:List α} (hs:Ik key L) {a b:Int},a<=b->(∀c∈L,a<=key c/\key c<b)->(L.length:Int)<=b-a
 | [],_,a,b,h,_=>by simp;omega
 | c::r,hs,a,b,h,hc=>by
  have h1:=hc c (by simp);have h2:Ik key r:=(List.pairwise_cons.1 hs).2;have:=Ik.KY h2 (a:=key c+1) (b:=b) (by omega) λd hd=>⟨by have:=(List.pairwise_cons.1 hs).1 d hd;omega,(hc d (by simp[hd])).2⟩
  grind
def oM{L:List α}(hs:Ik key L)(n:Int):pos key L (n+1)=pos key L n+(if ∃c∈L,key c=n then 1 else 0):=by
 symm
 have hp:=Mf (key:=key) L n;by_cases e: ∃c∈L,key c=n
 .rw[if_pos e];obtain⟨c,y,he⟩:=e;have h1:=Mg hs y he;have h2:=(List.getElem?_eq_some_iff.1 h1).1;refine UD hs (by omega) (λj d hd v=> ?_) λj d hd v=> ?_
  .rcases Nat.lt_or_eq_of_le (Nat.le_of_lt_succ v)with g|g
   .have:=HL hd g;omega
   .subst g;rw[h1]at hd;cases hd;omega
  .have:=hs.lt h1 hd (by omega);omega
 .rw[if_neg e];refine UD hs (by omega) (λj d hd v=> ?_) λj d hd v=> ?_
  .have:=HL hd v;omega
  .have:=RB hs hd v
   grind
def Ww{L:List α}(hs:Ik key L){l:Iv}(d:Ok l)(hm: ∀p,mem l p↔ ∃c∈L,key c=p)(a:Int): ∀n:Nat,((pos key L (a+n):Nat):Int)=pos key L a+cnt l a (a+n)
 | 0=>by
  rw[show a+((0:Nat):Int)=a by omega];have:=(DW d (Int.le_refl a)).2 λn h1 h2=>by omega
  omega
 | n+1=>by
  have v:=Ww hs d hm a n;rw[show a+((n+1:Nat):Int)=a+n+1 by omega,oM hs];have j:=Jd d (a:=a) (k:=a+n) (by omega)
  grind
def tS{L:List α}{a:Int}(h: ∀c∈L,a<=key c):pos key L a=0:=by
 cases L with
 | nil=>rfl
 | cons c r=>simp only[pos];rw[if_neg (by have:=h c (by simp);omega)]
def Yk: ∀{L:List α} {a:Int},(∀c∈L,key c<a)->pos key L a=L.length
 | [],_,_=>rfl
 | c::r,a,h=>by
  simp only[pos];rw[if_pos (h c (by simp)),Yk λd hd=>h d (by simp[hd]),List.length_cons]
def tT{L:List α}(hs:Ik key L){l:Iv}(v:Ok l)(hm: ∀p,mem l p↔ ∃c∈L,key c=p){a:Int}{n:Nat}(j: ∀p,mem l p->a<=p/\p<a+n):(L.length:Int)=Gn l:=by
 have h1:=Ww hs v hm a n;rw[tS λc d=>(j _ ((hm _).2 ⟨c,d,rfl⟩)).1,Yk λc d=>(j _ ((hm _).2 ⟨c,d,rfl⟩)).2,LX (Ok.aZ v) j]at h1;omega
end
section
variable{α:Type}{f:α->List Value}{z t:Nat}{F:List Pr}{w:World}{s:Aa}{L:List α}
def Sat.Gv(hz:0<z)(hf: ∀x,(f x).length=z)(H:Sat (Row t z s (Al f L)::F) w):L.length=s.len/\s.len<=s.cap/\s.cap<9223372036854775808:=by
 have h:=H.Du;rw[DQ hf]at h;exact⟨Nat.eq_of_mul_eq_mul_right hz h,H.own.cap,H.own.top⟩
def Sat.FW(hz:0<z)(hf: ∀x,(f x).length=z)(H:Sat (Row t z s (Al f L)::F) w){i:Nat}(d:i<L.length): ∃b,s.base=some ⟨b,0,none⟩:=
 H.own.Eo (by have:=H.Gv hz hf;omega)
def Sat.Bh(hf: ∀x,(f x).length=z)(H:Sat (Row t z s (Al f L)::F) w){a:Addr}(d:s.base=some a){i:Nat}{x:α}(y:L[i]? =some x){j:Nat}{v:Value}(J:(f x)[j]? =some v):w.cell? (a.add (i*z+j))=some v:=
 H.own.cell d (Yi hf y J)
def S6: ∀(news:List Value) {vs:List Value} {w:World} (o i:Nat),Sat (Row t z s vs::F) w->o+i+news.length<=vs.length->(∀v∈news,v.oneCell'=true)-> ∀{a:Addr},s.base=some a-> ∀{K:World->Prop},
  (∀w',Sat (Row t z s (vs.take (o+i)++news++vs.drop (o+i+news.length))::F) w'->K w')->stCells (a.add o) i news w K
 | [],vs,w,o,i,H,hl,ho,a,ha,K,hK=>by
  refine hK w ?_;simpa using H
 | v::r,vs,w,o,i,H,hl,ho,a,ha,K,hK=>by
  have d:o+i<vs.length:=by grind
  have h1:=HE H (j:=o+i) (v:=v) (ho v (by simp)) d ha (K:=λw'=>stCells (a.add o) (i+1) r w' K) λw' J=>S6 r o (i+1) J (by grind) (λu hu=>ho u (by simp[hu])) ha λy O=>hK y ?_
  .simp only[stCells,add_zero]at h1⊢;rw[add_add];exact h1
  .have:(vs.set (o+i) v).take (o+(i+1))++r++(vs.set (o+i) v).drop (o+(i+1)+r.length)=vs.take (o+i)++(v::r)++vs.drop (o+i+(v::r).length):=by
    rw[show o+(i+1)=o+i+1 from by omega,List.take_set,List.take_succ_eq_append_getElem d,List.set_append_right _ _ (by simp;omega)];simp only[List.length_take,Nat.min_eq_left (Nat.le_of_lt d),Nat.sub_self,List.set_cons_zero,List.append_assoc,List.singleton_append,List.length_cons,List.cons_append];congr 2;rw[List.drop_set_of_lt (by omega),show o+i+1+r.length=o+i+(r.length+1)from by omega];simp
   grind
def oN(hf: ∀x,(f x).length=z)(T: ∀x,∀v∈f x,v.oneCell'=true)(H:Sat (Row t z s (Al f L)::F) w){i:Nat}(j:i<L.length)(y:α){a:Addr}(O:s.base=some a){K:World->Prop}
  (J: ∀w',Sat (Row t z s (Al f (L.set i y))::F) w'->K w'):stCells (a.add (i*z)) 0 (f y) w K:=by
 have hle:i*z+z<=L.length*z:=by rw[<-Nat.succ_mul];exact Nat.mul_le_mul_right _ j
 refine S6 (f y) (i*z) 0 H (by rw[DQ hf,hf];omega) (T y) O λw' d=>J w' ?_;rw[Nat.add_zero,hf,Yj hf j]at d;exact d
def Sat.OL(hz:0<z)(hf: ∀x,(f x).length=z)(H:Sat (Row t z s (Al f L)::F) w){i:Nat}(d:i<=L.length):rowAt w (F2 s.base s.cap 0 z) (i*z) (Al f (L.take i)):=by
 have j:=H.Gv hz hf;rw[KR];have:=KG H.Kj (m:=i*z) (Nat.mul_le_mul_right _ (by omega)) H.Du;rwa[Vw hf]at this
def Sat.OM(hz:0<z)(hf: ∀x,(f x).length=z)(H:Sat (Row t z s (Al f L)::F) w){i:Nat}(j:i<=L.length):rowAt w (F2 s.base s.cap i z) ((s.len-i)*z) (Al f (L.drop i)):=by
 have d:=H.Gv hz hf;have:=JC (z:=z) H.Kj rfl (k:=i) (by omega) d.2.1 H.Du;rwa[Vx hf]at this
def bsearch{key:α->Int}{c o:Nat}(hz:0<z)(hf: ∀x,(f x).length=z)(hk: ∀x,(f x)[0]? =some (.int .u64 (key x)))(hs:Ik key L)(H:Sat (Row t z s (Al f L)::F) w)
  (hc:w.cell? ((Addr.mk c 0 none).add o)=some (.slice s.base s.len s.cap))(hlen:s.len<4611686018427387904)(n:Int){K:(Int×Int×Unit)->World->Prop}(hK: ∀st:Int×Int×Unit,st.1=(pos key L n:Nat)->K st w):
  At (Int×Int×Unit) (0,((s.len:Nat):Int),()) w λs3 _ Y J=>
  CND (decide ((s3.1:Int)<s3.2.1)) (
   2≠(0:Int)/\
   Hk (i64 (Int.tdiv (i64 (s3.1+s3.2.1)) 2):Int) λd=>
   NC (some (Addr.mk c 0 none)) λp7=>
   ∃x8:Aa,Y.cell? (p7.add o)=some (.slice x8.base x8.len x8.cap)/\
   NC x8.base λp9=>
   ((0:Int)<=d/\(d:Int)<(x8.len:Nat))/\
   ∃aA:Int,Y.cell? (p9.add (Int.toNat d*z))=some (.int .u64 aA)/\
   CND (decide ((aA:Int)<n)) (
    J (i64 (d+1),s3.2.1,()) Y
   ) (
    J (s3.1,d,()) Y
   )
  ) (K s3 Y):=by
 have hL:=H.Gv hz hf;refine AH (λst w'=>w'=w/\0<=st.1/\st.1<=st.2.1/\st.2.1<=s.len/\(∀(j:Nat) x,L[j]? =some x->(j:Int)<st.1->key x<n)/\(∀(j:Nat) x,L[j]? =some x->st.2.1<=(j:Int)->n<=key x)) (λst _=>(st.2.1-st.1).toNat)
  ⟨rfl,Int.le_refl _,Int.natCast_nonneg _,Int.le_refl _,λj x _ h=>by dsimp only at h;omega,λj x O h=>by have:=(List.getElem?_eq_some_iff.1 O).1;grind⟩ ?_
 rintro⟨lo,hi,v⟩ _ w' ⟨rfl,h0,h1,h2,h3,h4⟩;dsimp only at h0 h1 h2 h3 h4⊢;refine AB (λaL=>⟨by decide,AY λjY T=> ?_⟩) λaK=>hK _ ?_
 .rw[AE (n:=lo+hi),Int.tdiv_eq_ediv_of_nonneg (by omega),AE (n:=(lo+hi)/2)]at T;obtain⟨x,O⟩: ∃x,L[jY.toNat]? =some x:=⟨_,List.getElem?_eq_getElem (by omega)⟩;obtain⟨b,hb⟩:=H.FW hz hf (i:=jY.toNat) (by omega);simp only[AG];refine⟨s,hc,?_⟩;have Ca:=H.Bh hf hb O (hk x);rw[hb];refine⟨⟨by omega,by omega⟩,key x,by omega,AB (λg=> ?_) λg=> ?_⟩
  .rw[AE (n:=jY+1)];refine⟨⟨by trivial,by omega,by omega,by omega,λj y hy hj=> ?_,h4⟩,by omega⟩;rcases Int.lt_or_le (j:Int) jY with q|q
   .have:=hs.lt hy O (by omega);omega
   .have:jY.toNat=j:=by omega
    grind
  .refine⟨⟨by trivial,by omega,by omega,by omega,h3,λj y hy hj=> ?_⟩,by omega⟩;rcases Int.lt_or_le jY (j:Int)with q|q
   .have:=hs.lt O hy (by omega);omega
   .have:jY.toNat=j:=by omega
    grind
 .have:=UD hs (n:=n) (i:=lo.toNat) (by omega) (λj x O hj=>h3 j x O (by omega)) λj x O hj=>h4 j x O (by omega);omega
end
structure FX where
 n:Nat
 bk:List Nat
def afterL:List Nat->Nat->Option Nat
 | [],_=>none
 | a::r,i=>if a=i then r.head? else afterL r i
def UE(R:Nat->Nat)(x:Option Nat):Option Addr:=x.map λi=>⟨R i,0,none⟩
def recC(E:Env)(R:Nat->Nat)(bk:List Nat)(i:Nat):Pr:=Cells (R i) E.GQ [.int .i64 ((i:Int)+1),.bool (!bk.contains i),.pointer (UE R (afterL bk i))]
structure Yl(X:FX):Prop where
 nd:X.bk.Nodup
 lt: ∀i∈X.bk,i<X.n
 KY:X.n<=1099511627776
def oO(E:Env)(b:Nat)(X:FX)(s:Aa)(R:Nat->Nat)(c:Int):List Pr:=
 [Cells b E.K6 [.int .i64 1,Fo s,.pointer (UE R X.bk.head?),.int .i64 c],Row E.Fq 1 s ((List.range X.n).map λi=>.pointer (some ⟨R i,0,none⟩)),Ad (recC E R X.bk) (List.range X.n)]
def Gk(E:Env)(b:Nat)(X:FX):Pr:=Ex λx:Aa×(Nat->Nat)×Int=>Jx (Yl X) (NB (oO E b X x.1 x.2.1 x.2.2))
section
variable{E:Env}{b:Nat}{X:FX}{Z:List Pr}{w:World}{s:Aa}{R:Nat->Nat}{c:Int}
def Sat.fix:Sat (Gk E b X::Z) w↔ ∃s R c,Yl X/\Sat (oO E b X s R c++Z) w:=by
 unfold Gk;rw[Sat.ex];constructor
 .rintro⟨⟨s,R,c⟩,h⟩;rw[Sat.where,Sat.star]at h
  grind
 .rintro⟨s,R,c,h1,h2⟩;refine⟨⟨s,R,c⟩,?_⟩;rw[Sat.where,Sat.star]
  grind
def jZ(H:Sat Z w){K:Option Addr->Int->World->Prop}(v: ∀b w',Sat (Gk E b ⟨0,[]⟩::Z) w'->K (some ⟨b,0,none⟩) 0 w'):F.Sw E 1 K w:=by
 unfold F.Sw;refine AV (AO (by decide) λj=>AO (by decide) ?_);refine AR (vs:=[.int .i64 1,.slice none 0 0,.pointer none,.int .i64 0]) H λb w' d _=>v b w' (Sat.fix.2 ⟨⟨none,0,0⟩,λ_=>0,0,⟨.nil,λi h=>(by cases h),by decide⟩,?_⟩);have h1:=d.nil E.Fq 1;have h2:Sat (Ad (recC E (λ_=>0) []) []::_) w':=h1.LY (recC E (λ_=>0) []);exact h2.perm ((List.reverse_perm [_,_,_]).symm.append_right Z)
def Vy{l:List Nat}{i:Nat}(h:i∉l):afterL l i=none:=by
 induction l with
 | nil=>rfl
 | cons a r ih=>
  unfold afterL
  grind
def UF{n a x:Nat}(v:a<n)(j:x∈(List.range n).eraseIdx a):x≠a:=by
 obtain⟨i,d⟩:=List.mem_iff_getElem?.1 j;rw[List.getElem?_eraseIdx]at d;split at d
 .rename_i h;rw[List.getElem?_range (by omega)]at d;cases d;omega
 .rename_i h;have y:=(List.getElem?_eq_some_iff.1 d).1
  grind
def cB(H:Sat (Gk E b X::Z) w)(aW:X.n<1099511627776){K:Int->World->Prop}
  (aP:X.bk=[]-> ∀w',Sat (Gk E b ⟨X.n+1,[]⟩::Z) w'->K ((X.n:Int)+1) w')
  (aQ: ∀a r,X.bk=a::r-> ∀w',Sat (Gk E b ⟨X.n,r⟩::Z) w'->K ((a:Int)+1) w'):F.Kx E (some ⟨b,0,none⟩) K w:=by
 obtain⟨s,R,c,hI,H⟩:=Sat.fix.1 H;unfold F.Kx;simp only[AG];refine⟨_,H.cell rfl,?_⟩;cases hb:X.bk with
 | nil=>
  unfold oO at H;rw[hb]at H;have hl:=(H.front 1 rfl).Du;rw[List.length_map,List.length_range,Nat.mul_one]at hl;refine AV (AU rfl ⟨s,H.cell rfl,?_⟩);rw[AE (n:=((s.len:Nat):Int)+1),<-hl];refine AR (vs:=[.int .i64 ((X.n:Int)+1),.bool false,.pointer none]) H λd w9 H9 _=>⟨s,(H9.front 1 rfl).cell rfl,?_⟩;refine AR (vs:=[.pointer (some ⟨d,0,none⟩)]) H9 λa1 a5 aE _=> ?_;refine EX (news:=[.pointer (some ⟨d,0,none⟩)]) (aE.DR 2 rfl) rfl rfl (by intro v hv;simp at hv;subst hv;rfl) (by omega) (by omega) λKr a6 aF _=> ?_;refine AZ (aF.front 2 rfl) (o:=0) (m:=1) rfl (by simp) λa7 aG j=> ?_;simp only[AG];have aH:=aG.front 2 rfl;refine AZ aH (o:=0) (m:=1) rfl (by simp) λaS aA=>AZ aA (o:=0) (m:=2) rfl (by simp) λaT aB=> ?_;have y:=aB.front 1 rfl;refine⟨_,y.cell rfl,AZ y (o:=0) (m:=3) rfl (by simp) λO J=>⟨_,(J.front 1 rfl).Ah rfl,aP hb O ?_⟩⟩;refine Sat.fix.2 ⟨Kr,λi=>if i=X.n then d else R i,i64 (c+1),⟨.nil,λi h=>(by cases h),by grind⟩,?_⟩;have e1:(List.range (X.n+1)).map (λi=>Value.pointer (some ⟨(if i=X.n then d else R i),0,none⟩))=((List.range X.n).map λi=>Value.pointer (some ⟨R i,0,none⟩))++[.pointer (some ⟨d,0,none⟩)]:=by
   rw[List.range_succ,List.map_append];congr 1
   .refine List.map_congr_left λi hi=> ?_
    grind
   .simp
  have e2:Ad (recC E R []) (List.range X.n)=Ad (recC E (λi=>if i=X.n then d else R i) []) (List.range X.n):=Ad.congr λx hx=>by
   have:=List.mem_range.1 hx;show recC E R [] x=Cells (if x=X.n then d else R x) _ _;rw[if_neg (by omega)];rfl
  have e3:recC E (λi=>if i=X.n then d else R i) [] X.n=Cells d E.GQ [.int .i64 ((X.n:Int)+1),.bool true,.pointer none]:=by
   show Cells (if X.n=X.n then d else R X.n) _ _=_;rw[if_pos rfl];rfl
  have T:=(J.front 3 rfl).DR 1 rfl|>λh=>h.perm (.swap _ _ _);have aC:Sat (recC E (λi=>if i=X.n then d else R i) [] X.n::Ad (recC E (λi=>if i=X.n then d else R i) []) (List.range X.n)::Cells b E.K6 [.int .i64 1,Fo Kr,.pointer none,.int .i64 (i64 (c+1))]::Row E.Fq 1 Kr (((List.range X.n).map λi=>Value.pointer (some ⟨R i,0,none⟩))++[.pointer (some ⟨d,0,none⟩)])::Z) O:=by
   rw[e3,<-e2];exact T
  have Y:=aC.Tj;rw[<-List.range_succ]at Y;unfold oO;rw[e1];exact Y.perm (by
   have: ∀(a b c:Pr),(a::b::c::Z).Perm (b::c::a::Z):=λa b c=>(List.perm_middle (l₁:=[b,c]) (a:=a)).symm;exact this _ _ _)
 | cons a r=>
  unfold oO at H;rw[hb]at H;have ha:a<X.n:=hI.lt a (by rw[hb];simp);have aD:=hI.nd;rw[hb]at aD;have aO:a∉r:=(List.nodup_cons.1 aD).1;have hg:(List.range X.n)[a]? =some a:=List.getElem?_range ha;have H2:=(H.front 2 rfl).GG hg;have e0:UE R (afterL (a::r) a)=UE R r.head?:=by unfold afterL;grind
  have aL:recC E R (a::r) a=Cells (R a) E.GQ [.int .i64 ((a:Int)+1),.bool (!(a::r).contains a),.pointer (UE R r.head?)]:=by unfold recC;rw[e0]
  rw[aL]at H2;refine AV (AO rfl ?_);show NC (some (Addr.mk (R a) 0 none)) _;simp only[AG];refine⟨_,H2.cell rfl,AZ (H2.front 2 rfl) (o:=0) (m:=2) rfl (by simp) λa8 aJ j=> ?_⟩;show NC (some (Addr.mk (R a) 0 none)) _;simp only[AG];have aK:=aJ.front 1 rfl;refine AZ aK (o:=0) (m:=1) rfl (by simp) λaS aA=> ?_;show NC (some (Addr.mk (R a) 0 none)) _;simp only[AG];refine AZ aA (o:=0) (m:=2) rfl (by simp) λaT aB=> ?_;have y:=aB.front 1 rfl;refine⟨_,y.cell rfl,AZ y (o:=0) (m:=3) rfl (by simp) λO J=> ?_⟩;show NC (some (Addr.mk (R a) 0 none)) _;simp only[AG];refine⟨_,(J.front 1 rfl).Ah rfl,aQ a r hb O ?_⟩;refine Sat.fix.2 ⟨s,R,i64 (c+1),⟨(List.nodup_cons.1 aD).2,λi hi=>hI.lt i (by rw[hb];simp[hi]),hI.KY⟩,?_⟩;have e3:recC E R r a=Cells (R a) E.GQ [.int .i64 ((a:Int)+1),.bool true,.pointer none]:=by
   unfold recC;rw[Vy aO];have:r.contains a=false:=by grind
   rw[this];rfl
  have e2:Ad (recC E R (a::r)) ((List.range X.n).eraseIdx a)=Ad (recC E R r) ((List.range X.n).eraseIdx a):=Ad.congr λx hx=>by
   have a4:=UF ha hx;unfold recC;have h1:(a::r).contains x=r.contains x:=by grind
   have h2:afterL (a::r) x=afterL r x:=by
    show(if a=x then r.head? else afterL r x)=_
    grind
   rw[h1,h2]
  have T:=(J.front 1 rfl).DR 1 rfl;rw[e2]at T;have aC:Sat (recC E R r a::Ad (recC E R r) ((List.range X.n).eraseIdx a)::Cells b E.K6 [.int .i64 1,Fo s,.pointer (UE R r.head?),.int .i64 (i64 (c+1))]::Row E.Fq 1 s ((List.range X.n).map λi=>.pointer (some ⟨R i,0,none⟩))::Z) O:=by
   rw[e3];exact T
  have Y:=aC.HW hg;exact Y.perm (by
   have: ∀(a b c:Pr),(a::b::c::Z).Perm (b::c::a::Z):=λa b c=>(List.perm_middle (l₁:=[b,c]) (a:=a)).symm;exact this _ _ _)
def cC(H:Sat (Gk E b X::Z) w){a:Nat}(ha:a<X.n)(y:a∉X.bk){K:Int->World->Prop}(hK: ∀w',Sat (Gk E b ⟨X.n,a::X.bk⟩::Z) w'->K 0 w'):F.GX E (some ⟨b,0,none⟩) ((a:Int)+1) K w:=by
 obtain⟨s,R,c,hI,H⟩:=Sat.fix.1 H;have aH:=hI.KY;have hl:=(H.front 1 rfl).Du;rw[List.length_map,List.length_range,Nat.mul_one]at hl;have hg:(List.range X.n)[a]? =some a:=List.getElem?_range ha;have aF:((List.range X.n).map λi=>Value.pointer (some ⟨R i,0,none⟩))[a]? =some (.pointer (some ⟨R a,0,none⟩)):=by grind
 obtain⟨x,J⟩:=(H.front 1 rfl).own.Eo (by omega);have hc:=(H.front 1 rfl).own.cell J aF;unfold F.GX T0.GX F.Ma;simp only[AG,Nat.mul_one];have et:Int.toNat (i64 (((a:Int)+1)-1))=a:=by rw[AE];omega
 have H2:=(H.front 2 rfl).GG hg;have e0:recC E R X.bk a=Cells (R a) E.GQ [.int .i64 ((a:Int)+1),.bool true,.pointer none]:=by
  unfold recC;rw[Vy y];have:X.bk.contains a=false:=by grind
  rw[this];rfl
 rw[e0]at H2;refine AU (decide_eq_true (by omega)) ⟨s,H.cell rfl,AU (decide_eq_true (by omega)) ⟨s,H.cell rfl,?_⟩⟩;rw[J];simp only[AG];rw[et];have v:(0:Int)<=i64 (((a:Int)+1)-1)/\i64 (((a:Int)+1)-1)<(s.len:Nat):=by rw[AE];omega
 refine⟨v,_,hc,?_⟩;simp only[AG];refine⟨true,H2.cell rfl,AO rfl ⟨s,H.cell rfl,?_⟩⟩;rw[J];simp only[AG];refine⟨v,_,hc,_,H.cell rfl,?_⟩;simp only[AG];refine AZ H2 (o:=0) (m:=1) rfl (by simp) λaR T=>AZ T (o:=0) (m:=2) rfl (by simp) λaS Y=> ?_;refine AZ (Y.front 2 rfl) (o:=0) (m:=2) rfl (by simp) λaT d=>⟨_,d.cell rfl,AZ d (o:=0) (m:=3) rfl (by simp) λO aA=>hK O ?_⟩;refine Sat.fix.2 ⟨s,R,i64 (c-1),⟨List.nodup_cons.2 ⟨y,hI.nd⟩,λi hi=> ?_,hI.KY⟩,?_⟩
 .rcases List.mem_cons.1 hi with h|h
  .subst h;exact ha
  .exact hI.lt i h
 .have e3:recC E R (a::X.bk) a=Cells (R a) E.GQ [.int .i64 ((a:Int)+1),.bool false,.pointer (UE R X.bk.head?)]:=by
   unfold recC;have:(a::X.bk).contains a=true:=by simp
   rw[this];have:afterL (a::X.bk) a=X.bk.head?:=by unfold afterL;grind
   grind
  have e2:Ad (recC E R X.bk) ((List.range X.n).eraseIdx a)=Ad (recC E R (a::X.bk)) ((List.range X.n).eraseIdx a):=Ad.congr λx J=>by
   have aQ:=UF ha J;unfold recC;have h1:(a::X.bk).contains x=X.bk.contains x:=by grind
   have h2:afterL (a::X.bk) x=afterL X.bk x:=by
    show(if a=x then X.bk.head? else afterL X.bk x)=_
    grind
   rw[h1,h2]
  have j:=(aA.front 1 rfl).DR 1 rfl;rw[e2]at j;have aC:Sat (recC E R (a::X.bk) a::Ad (recC E R (a::X.bk)) ((List.range X.n).eraseIdx a)::Cells b E.K6 [.int .i64 1,Fo s,.pointer (some ⟨R a,0,none⟩),.int .i64 (i64 (c-1))]::Row E.Fq 1 s ((List.range X.n).map λi=>.pointer (some ⟨R i,0,none⟩))::Z) O:=by
   rw[e3];exact j
  have aD:=Sat.HW aC hg;exact aD.perm (by
   have: ∀(a b c:Pr),(a::b::c::Z).Perm (b::c::a::Z):=λa b c=>(List.perm_middle (l₁:=[b,c]) (a:=a)).symm;exact this _ _ _)
end
abbrev j6:=Int×Int×Int×Int
def JY(e:j6):List Value:=[.int .i64 e.1,.int .i64 e.2.1,.int .i64 e.2.2.1,.int .u32 e.2.2.2]
def Au(e:j6):(JY e).length=4:=rfl
def Ym(e:j6): ∀v∈JY e,v.oneCell'=true:=by intro v d;simp[JY]at d;rcases d with rfl|rfl|rfl|rfl<;>rfl
def Wx(n:Int):Bool:=(n !=0)&&(D5 .u64 0 n (u64 (n-1))==0)
def JT(size d:Int):Int:=if Wx (u64 size)=false then d else if 2048<=size then 256 else if 128<=size then i64 (Int.tdiv size 8)else if 32<=size then 16 else d
def bytesF(size:Int):Nat->Int->Int
 | 0,n=>n
 | k+1,n=>if Int.tmod n size>i64 (Int.tdiv n 8)then bytesF size k (i64 (n+8192))else n
def gF(size n:Int):Bool:=decide (¬Int.tmod n size>i64 (Int.tdiv n 8))
structure QH where
 ML:Int
 size:Int
 l:List j6
def QH.last(s:QH):j6:=s.l.getLastD (0,0,0,0)
def QH.same(s:QH):Bool:=decide (1<s.l.length)&&(s.last.2.1==i64 (Int.tdiv (bytesF s.size 16 8192) 8192)&&(i64 (Int.tdiv (i64 (s.last.2.1*8192)) s.last.1)==i64 (Int.tdiv (bytesF s.size 16 8192) s.size)))
def QH.next(s:QH):QH:=
 ⟨JT s.size s.ML,i64 (s.size+JT s.size s.ML),
  if s.same=true then s.l.dropLast++[(s.size,s.last.2)]else s.l++[(s.size,i64 (Int.tdiv (bytesF s.size 16 8192) 8192),0,0)]⟩
def QH.oP(s:QH):Bool:=decide (8<=s.size)&&(decide (s.size<=32768)&&(gF s.size (bytesF s.size 16 8192)&&(decide (0<s.l.length)&&(decide (s.l.length<=200)&&((decide (8<=JT s.size s.ML)&&decide (JT s.size s.ML<=10000))&&(decide (s.l.length=1)||s.last.1 !=0))))))
def Om:Nat->QH
 | 0=>⟨8,8,[(0,0,0,0)]⟩
 | n+1=>(Om n).next
def runAll:Nat->QH->Bool×QH
 | 0,s=>(true,s)
 | n+1,s=>match s.oP with
  | true=>runAll n s.next
  | false=>(false,s)
def Rp: ∀(n k:Nat) {s:QH},(runAll n (Om k))=(true,s)->(∀j,j<n->(Om (k+j)).oP=true)/\Om (k+n)=s
 | 0,k,s,h=>⟨λj d=>by omega,(Prod.mk.inj h).2⟩
 | n+1,k,s,h=>by
  unfold runAll at h;split at h
  .rename_i hg;have v:=Rp n (k+1) (s:=s) h;refine⟨λj d=> ?_,by rw[<-v.2,show k+1+n=k+(n+1) by omega]⟩;cases j with
   | zero=>exact hg
   | succ j=>grind
  .cases h
def ER(c:j6):j6:=
 let n:=i64 (c.2.1*8192)
 let wide:=i64 (i64 (Int.tdiv (i64 (Int.tdiv n (i64 (Int.tdiv n c.1)))) 128)*128)
 let sz:=if wide>c.1 then wide else c.1
 (sz,c.2.1,i64 (Int.tdiv n sz),if IntKind.wrap .u32 sz<2 then 0 else IntKind.wrap .u32 (IntKind.wrap .u32 (Int.tdiv 4294967295 (IntKind.wrap .u32 sz))+1))
def Yn(c:j6):Bool:=(c.1 !=0)&&((i64 (Int.tdiv (i64 (c.2.1*8192)) c.1) !=0)&&((ER c).1 !=0&&(decide (IntKind.wrap .u32 (ER c).1<2)||IntKind.wrap .u32 (ER c).1 !=0)))
def rounds:Nat:=162
def Yo:QH:=(runAll rounds (Om 0)).2
def MB:List j6:=match Yo.l with
 | []=>[]
 | c::r=>c::r.map ER
def xZ:(runAll rounds (Om 0)).1=true:=by decide+kernel
def gG:Yo.size>32768:=by decide+kernel
def gH:Yo.l.length=68:=by decide+kernel
def gI:(Yo.l.tail.all Yn)=true:=by decide+kernel
def QI:MB.length=68:=by decide+kernel
def runs:(∀j,j<rounds->(Om j).oP=true)/\Om rounds=Yo:=by
 have h:runAll rounds (Om 0)=(true,Yo):=Prod.ext xZ rfl;have:=Rp rounds 0 h
 grind
structure MkG(s:QH):Prop where
 s0:8<=s.size
 s1:s.size<=32768
 ML:Int.tmod (bytesF s.size 16 8192) s.size<=i64 (Int.tdiv (bytesF s.size 16 8192) 8)
 l0:0<s.l.length
 l1:s.l.length<=200
 st0:8<=JT s.size s.ML
 st1:JT s.size s.ML<=10000
 nz:1<s.l.length->s.last.1≠0
def QJ{s:QH}(h:s.oP=true):MkG s:=by
 unfold QH.oP gF at h;simp only[Bool.and_eq_true,decide_eq_true_eq,Bool.or_eq_true,bne_iff_ne]at h;obtain⟨h1,h2,J,d,j,⟨v,y⟩,K⟩:=h;exact⟨h1,h2,by omega,d,j,v,y,λh=>by omega⟩
section
variable{E:Env}{w:World}{Z:List Pr}
def UG{n:Int}{K:Bool->World->Prop}(d:K (Wx n) w):F.Px E n K w:=by
 unfold F.Px;unfold Wx at d;refine DM (λh=> ?_) λh=> ?_
 .rw[show(n !=0)=true by grind,Bool.true_and]at d;exact d
 .subst h;exact d
def j7{size j:Int}(h0:8<=size){K:Int->World->Prop}(d:K (JT size j) w):F.IH E size j K w:=by
 unfold F.IH T0.IH;unfold JT at d;refine UG ?_;cases hp:Wx (u64 size)
 .rw[hp,if_pos rfl]at d;exact AU rfl d
 .rw[hp,if_neg (by decide)]at d;refine AO rfl (AB (λh=> ?_) λh=>AB (λh2=>⟨by decide,?_⟩) λh2=>AB (λv=> ?_) λv=> ?_)
  .rw[if_pos h]at d;exact d
  .rw[if_neg h,if_pos h2]at d;exact d
  .rw[if_neg h,if_neg h2,if_pos v]at d;exact d
  .rw[if_neg h,if_neg h2,if_neg v]at d;exact d
def cD{size:Int}(hs:size≠0)(A2:Int.tmod (bytesF size 16 8192) size<=i64 (Int.tdiv (bytesF size 16 8192) 8)){K:Int->World->Prop}(O:K (bytesF size 16 8192) w):F.La E size 8192 K w:=by
 unfold F.La;refine AH (λst w'=>w'=w/\ ∃i:Nat,i<=16/\st.1=8192+i*8192/\bytesF size (16-i) st.1=bytesF size 16 8192) (λst _=>(200000-st.1).toNat) ⟨rfl,0,by decide,by omega,rfl⟩ ?_;rintro⟨n,v⟩ _ Y ⟨rfl,i,T,J,d⟩;dsimp only at J d⊢;refine⟨hs,by decide,AB (λj=> ?_) λhle=> ?_⟩
 .rcases Nat.lt_or_ge i 16 with y|y
  .obtain⟨k,hk⟩: ∃k,16-i=k+1:=⟨15-i,by omega⟩;rw[hk]at d;rw[AE (n:=n+8192)];refine⟨⟨by trivial,i+1,by omega,by omega,?_⟩,by omega⟩;rw[<-d,show 16-(i+1)=k by omega];unfold bytesF;rw[if_pos j,AE (n:=n+8192)];cases k<;>rfl
  .have:i=16:=by omega
   subst this;have:bytesF size 0 n=n:=rfl
   grind
 .have:bytesF size (16-i) n=n:=by
   cases h:16-i with
   | zero=>rfl
   | succ k=>unfold bytesF;rw[if_neg (by omega)]
  grind
def cE{n:Int}(v:n<2∨n≠0){K:Int->World->Prop}(d:K (if n<2 then 0 else IntKind.wrap .u32 (IntKind.wrap .u32 (Int.tdiv 4294967295 n)+1)) w):F.OJ E n K w:=by
 unfold F.OJ;refine AB (λh=> ?_) λh=>⟨by omega,AY λx j=> ?_⟩
 .rw[if_pos h]at d;exact d
 .rw[if_neg h]at d;rw[j];exact d
def Yp{L:List j6}(h:0<L.length)(y:j6):L.set (L.length-1) y=L.dropLast++[y]:=by
 apply List.ext_getElem?
 grind
def Yq{L:List j6}(h:0<L.length):L[L.length-1]? =some (L.getLastD (0,0,0,0)):=by grind
def cG(H:Sat Z w){K:Aa->World->Prop}(hK: ∀s w',Sat (Row E.A6 4 s (Al JY MB)::Z) w'->K s w'):F.G4 E K w:=by
 unfold F.G4 T0.G4 F.JF T0.JF;have p1:Wx (u64 8192)=true:=by decide+kernel
 have p2:Wx (u64 32768)=true:=by decide+kernel
 refine AV (AO (by decide) (AO (by decide) (UG ?_)));rw[p1];refine AO rfl (AO (by decide) (AO (by decide+kernel) (UG ?_)));rw[p2];refine λj=>AO rfl ?_;obtain⟨aA,aG⟩:=runs;refine HI (n:=1) (z:=4) H rfl (by decide) λb8 w9 H9=> ?_;refine AH (λst w'=> ∃k:Nat,k<=rounds/\st.2.1=(Om k).ML/\st.2.2.1=(Om k).size/\Sat (Row E.A6 4 st.1 (Al JY (Om k).l)::Z) w') (λst _=>(40000-st.2.2.1).toNat)
  ⟨0,Nat.zero_le _,rfl,rfl,H9⟩ ?_
 rintro⟨EB,ML,size,v⟩ _ bY ⟨k,hk,aI,aF,J⟩;dsimp only at aI aF J⊢;have hl:=J.Gv (by decide) Au;refine AB (λhle=> ?_) λaV=> ?_
 .have aJ:k<rounds:=by
   rcases Nat.lt_or_eq_of_le hk with g|g
   .exact g
   .subst g;rw[aG]at aF;have:=gG;omega
  have hg:=QJ (aA k aJ);rw[aI,aF];generalize hS:Om k=S at hg aF aI J hl⊢;have aD:Om (k+1)=S.next:=by rw[<-hS];rfl
  have bL:=hg.s0;have bM:=hg.s1;have aU:=hg.l0;have a8:=hg.l1;refine j7 hg.s0 (cD (by omega) hg.ML ?_);have d:=Yq aU;obtain⟨b,O⟩:=J.FW (by decide) Au (i:=S.l.length-1) (by omega);rw[O];simp only[AG];rw[AE (n:=((EB.len:Nat):Int)-1)];have et:Int.toNat (((EB.len:Nat):Int)-1)=S.l.length-1:=by omega
  rw[et];have Hd:=J.drew;have c0:=Hd.Bh Au O d (j:=0) rfl;have c1:=Hd.Bh Au O d (j:=1) rfl;have aK:S.l.getLastD (0,0,0,0)=S.last:=rfl;rw[aK]at c0 c1 d;rw[Nat.add_zero]at c0;have bC:=hg.st0;have bD:=hg.st1;rw[AE (n:=S.size+JT S.size S.ML)];have bB:S.next.size=S.size+JT S.size S.ML:=AE;refine⟨⟨by omega,by omega⟩,?_⟩;refine AX (λst w'=>st.1=S.same/\Sat (Row E.A6 4 EB (Al JY S.l)::Z) w') ?_ ?_
  .unfold QH.same;refine AB (λh1=>⟨S.last.2.1,by rw[add_add];exact c1,by decide,BF (λe1=> ?_) λe1=> ?_⟩) λh1=> ?_
   .have d1:decide (1<S.l.length)=true:=decide_eq_true (by omega);have a1:=c0;have a2:=c1;refine⟨S.last.2.1,by rw[add_add];exact a2,S.last.1,a1,hg.nz (by omega),by omega,?_,Hd⟩
    grind
   .refine⟨?_,Hd⟩
    grind
   .refine⟨?_,Hd⟩
    grind
  rintro⟨x,v⟩ _ bZ ⟨hx,aN⟩;dsimp only at hx;subst hx;refine AQ (λe=> ?_) λe=>⟨by decide,?_⟩
  .have hs:=HE aN (j:=(S.l.length-1)*4) (v:=.int .i64 S.size) (K:=λaX=>(∃k:Nat,k<=rounds/\JT S.size S.ML=(Om k).ML/\S.size+JT S.size S.ML=(Om k).size/\Sat (Row E.A6 4 EB (Al JY (Om k).l)::Z) aX)/\(40000-(S.size+JT S.size S.ML)).toNat<(40000-S.size).toNat) rfl (by rw[DQ Au];omega) O λaX aY=>⟨⟨k+1,by omega,by rw[aD];rfl,by grind,?_⟩,by omega⟩
   .exact hs
   .have:=Iu Au d (j:=0) (y:=(S.size,S.last.2)) (v:=.int .i64 S.size) (by decide) rfl;rw[Nat.add_zero]at this;rw[this,Yp aU]at aY;rw[aD];unfold QH.next
    grind
  .refine AR aN λbI b0 aZ _=> ?_;refine EX (news:=JY (S.size,i64 (Int.tdiv (bytesF S.size 16 8192) 8192),0,0)) aZ rfl rfl (Ym _) (by omega) (by omega) λvI b1 a0 _=>⟨⟨k+1,by omega,by rw[aD];rfl,by grind,?_⟩,by omega⟩;have e1:Al JY S.l++JY (S.size,i64 (Int.tdiv (bytesF S.size 16 8192) 8192),0,0)=Al JY (S.l++[(S.size,i64 (Int.tdiv (bytesF S.size 16 8192) 8192),0,0)]):=by rw[FN];simp[Al]
   rw[e1]at a0;rw[aD];unfold QH.next
   grind
 .have aJ:k=rounds:=by
   rcases Nat.lt_or_eq_of_le hk with g|g
   .have:=(QJ (aA k g)).s1;omega
   .exact g
  subst aJ;rw[aG]at J hl;have hlen:=gH;cases hL:Yo.l with
  | nil=>grind
  | cons c0 T=>
   rw[hL]at J hl hlen;have hT:T.length=67:=by grind
   have aT: ∀i c,T[i]? =some c->Yn c=true:=λi c hc=>by
    have:=gI;rw[hL]at this;exact List.all_eq_true.1 this c (List.mem_of_getElem? hc)
   have bE:MB=c0::T.map ER:=by unfold MB;rw[hL]
   refine⟨⟨by decide,by omega⟩,?_⟩;refine AH (λst w'=> ∃i:Nat,st.1=(i:Int)/\i<=67/\Sat (Row E.A6 4 EB (Al JY (c0::((T.take i).map ER++T.drop i)))::Z) w') (λst _=>(67-st.1).toNat) ⟨0,rfl,by decide,J⟩ ?_;rintro⟨i',v⟩ _ a7 ⟨i,hi,bA,Y⟩;dsimp only at hi⊢;subst hi;refine AB (λbQ=> ?_) λbN=> ?_
   .have bP:i<67:=by omega
    obtain⟨c,hc⟩: ∃c,T[i]? =some c:=⟨_,List.getElem?_eq_getElem (by omega)⟩;have A2:=aT i c hc;unfold Yn at A2;simp only[Bool.and_eq_true,Bool.or_eq_true,decide_eq_true_eq,bne_iff_ne]at A2;obtain⟨o1,o2,o3,o4⟩:=A2;rw[AE (n:=(i:Int)+1)];have et:Int.toNat ((i:Int)+1)=i+1:=by omega
    rw[et];generalize hF:(c0::((T.take i).map ER++T.drop i))=FX at Y;have bK:FX.length=68:=by grind
    have aC:FX[i+1]? =some c:=by grind
    have a4:FX.set (i+1) (ER c)=c0::((T.take (i+1)).map ER++T.drop (i+1)):=by
     rw[<-hF,List.set_cons_succ];congr 1;have a5:c=T[i]:=by rw[List.getElem?_eq_getElem (by omega)]at hc;exact(Option.some.inj hc).symm
     rw[List.set_append_right _ _ (by rw[List.length_map,List.length_take];omega),List.length_map,List.length_take,Nat.min_eq_left (by omega),Nat.sub_self,List.take_succ_eq_append_getElem (by omega),List.map_append,List.drop_eq_getElem_cons (by omega),List.set_cons_zero,List.append_assoc,a5];rfl
    obtain⟨b,O⟩:=Y.FW (by decide) Au (i:=i+1) (by omega);rw[O];simp only[AG];have d0:=Y.Bh Au O aC (j:=0) rfl;have d1:=Y.Bh Au O aC (j:=1) rfl;rw[Nat.add_zero]at d0;refine⟨⟨by omega,by omega⟩,c.2.1,by rw[add_add];exact d1,?_⟩;refine AX (λ_ w'=>Sat (Row E.A6 4 EB (Al JY (FX.set (i+1) ((ER c).1,c.2)))::Z) w') ?_ ?_
    .refine⟨c.1,d0,o1,o2,by decide,AY λwide aL=>⟨c.1,d0,AB (λaV=> ?_) λbR=> ?_⟩⟩
     .have e1:(ER c).1=wide:=by unfold ER;dsimp only;rw[<-aL,if_pos aV]
      refine HE Y (j:=(i+1)*4) rfl (by rw[DQ Au];omega) O λb4 bG=> ?_;have:=Iu Au aC (j:=0) (y:=(wide,c.2)) (v:=.int .i64 wide) (by decide) rfl
      grind
     .have e1:(ER c).1=c.1:=by unfold ER;grind
      show Sat (Row E.A6 4 EB (Al JY (FX.set (i+1) ((ER c).1,c.2)))::Z) a7;rw[e1];have:FX.set (i+1) (c.1,c.2)=FX:=by
       have:=List.getElem?_eq_some_iff.1 aC;rw[show(c.1,c.2)=FX[i+1]from this.2.symm,List.set_getElem_self]
      grind
    rintro _ _ b3 aO;have g1:(FX.set (i+1) ((ER c).1,c.2))[i+1]? =some ((ER c).1,c.2):=by grind
    have f0:=aO.Bh Au O g1 (j:=0) rfl;rw[Nat.add_zero]at f0;have aE:i64 (Int.tdiv (i64 (c.2.1*8192)) (ER c).1)=(ER c).2.2.1:=rfl;refine⟨(ER c).1,f0,o3,?_⟩;rw[aE,add_add];refine HE aO (j:=(i+1)*4+2) rfl (by rw[DQ Au,List.length_set];omega) O λb5 aH=> ?_;have:=Iu Au g1 (j:=2) (y:=((ER c).1,c.2.1,(ER c).2.2.1,c.2.2.2)) (v:=.int .i64 (ER c).2.2.1) (by decide) rfl;rw[this,List.set_set]at aH;have g2:(FX.set (i+1) ((ER c).1,c.2.1,(ER c).2.2.1,c.2.2.2))[i+1]? =some ((ER c).1,c.2.1,(ER c).2.2.1,c.2.2.2):=by grind
    have aR:=aH.Bh Au O g2 (j:=0) rfl;rw[Nat.add_zero]at aR;refine⟨(ER c).1,aR,cE o4 ?_⟩;have aW:(if IntKind.wrap .u32 (ER c).1<2 then(0:Int)else IntKind.wrap .u32 (IntKind.wrap .u32 (Int.tdiv 4294967295 (IntKind.wrap .u32 (ER c).1))+1))=(ER c).2.2.2:=rfl;rw[aW,add_add];refine HE aH (j:=(i+1)*4+3) rfl (by rw[DQ Au,List.length_set];omega) O λb6 aP=>⟨⟨i+1,by omega,by omega,?_⟩,by omega⟩;have h3:=Iu Au g2 (j:=3) (y:=ER c) (v:=.int .u32 (ER c).2.2.2) (by decide) rfl;rw[h3,List.set_set,a4]at aP;exact aP
   .have bO:i=67:=by omega
    grind
end
structure SI where
 base:Int
 AA:Int
 state:Int
 cls:Int
 FY:Bool
 elem:Int
 AM:Int
 used:Int
 f8:Bool
 f9:Bool
 Lh:Int
 uw:List Int
 mw:List Int
 look:Int
def GJ(S:SI)(d sm:Aa):List Value:=[.int .u64 S.base,.int .i64 S.AA,.int .i64 S.state,.int .i64 S.cls,.bool S.FY,.int .i64 S.elem,.int .i64 S.AM,.int .i64 S.used,.bool S.f8,.bool S.f9,.int .u32 S.Lh,Fo d,Fo sm,.int .i64 S.look]
def Yr(E:Env)(b:Nat)(S:SI)(d sm:Aa):List Pr:=[Cells b E.FD (GJ S d sm),Row E.AJ 1 d (ints .u64 S.uw),Row E.AJ 1 sm (ints .u64 S.mw)]
def C9(E:Env)(b:Nat)(S:SI):Pr:=Ex λx:Aa×Aa=>NB (Yr E b S x.1 x.2)
def Bb(c:Int):j6:=MB.getD c.toNat (0,0,0,0)
def GB(page AA c:Int):Prop:=AA=0∨34359738368<page∨34359738368-page<AA∨c<0∨68<=c∨(c=0/\134217728<AA)∨(0<c/\AA≠(Bb c).2.1)
def IZ(page AA c:Int)(FY:Bool):SI:=⟨page*8192,AA,1,c,FY,if c=0 then AA*8192 else(Bb c).1,if c=0 then 1 else(Bb c).2.2.1,0,false,false,(Bb c).2.2.2,[],[],0⟩
def j8:(MB.all λc=>decide (0<=c.2.1)&&decide (c.2.1<=100))=true:=by decide+kernel
def Mh{c:Int}(h0:0<=c)(h1:c<68):MB[c.toNat]? =some (Bb c):=by
 have d:c.toNat<MB.length:=by rw[QI];omega
 unfold Bb
 grind
def Li{c:Int}(h0:0<=c)(h1:c<68):0<=(Bb c).2.1/\(Bb c).2.1<=100:=by
 have:=List.all_eq_true.1 j8 _ (List.mem_of_getElem? (Mh h0 h1))
 grind
section
variable{E:Env}{b:Nat}{S:SI}{Z:List Pr}{w:World}
def Sat.span:Sat (C9 E b S::Z) w↔ ∃d sm,Sat (Yr E b S d sm++Z) w:=by
 unfold C9;rw[Sat.ex];constructor
 .rintro⟨⟨d,sm⟩,h⟩;exact⟨d,sm,Sat.star.1 h⟩
 .rintro⟨d,sm,h⟩;exact⟨⟨d,sm⟩,Sat.star.2 h⟩
def UH(H:Sat Z w){page AA c:Int}{np:Bool}(h0:0<=page)(p0:0<=AA)(p1:AA<18446744073709551616){K:Option Addr->Int->World->Prop}
  (aQ:GB page AA c-> ∀w',Sat Z w'->K none 1 w')(aR: ¬GB page AA c-> ∀b w',Sat (C9 E b (IZ page AA c np)::Z) w'->K (some ⟨b,0,none⟩) 0 w'):F.KT E page AA c np K w:=by
 unfold F.KT T0.KT;refine cG H λr1 w2 H2=> ?_;have hl:=H2.Gv (by decide) Au;rw[QI]at hl;have ct:0<=c->c<68-> ∃x,r1.base=some ⟨x,0,none⟩/\ ∀{w'} {Y:List Pr},Sat (Row E.A6 4 r1 (Al JY MB)::Y) w'->w'.cell? ((Addr.mk x 0 none).add (Int.toNat c*4))=some (.int .i64 (Bb c).1)/\w'.cell? (((Addr.mk x 0 none).add (Int.toNat c*4)).add 1)=some (.int .i64 (Bb c).2.1)/\
   w'.cell? (((Addr.mk x 0 none).add (Int.toNat c*4)).add 2)=some (.int .i64 (Bb c).2.2.1)/\w'.cell? (((Addr.mk x 0 none).add (Int.toNat c*4)).add 3)=some (.int .u32 (Bb c).2.2.2):=λc0 c1=>by
  obtain⟨x,J⟩:=H2.FW (by decide) Au (i:=c.toNat) (by rw[QI];omega);refine⟨x,J,λh=>⟨?_,?_,?_,?_⟩⟩
  .have:=h.Bh Au J (Mh c0 c1) (j:=0) rfl;omega
  .rw[add_add];exact h.Bh Au J (Mh c0 c1) (j:=1) rfl
  .rw[add_add];exact h.Bh Au J (Mh c0 c1) (j:=2) rfl
  .rw[add_add];exact h.Bh Au J (Mh c0 c1) (j:=3) rfl
 have d:GB page AA c->K none 1 w2:=λh=>aQ h w2 H2.tail;have main: ¬GB page AA c->
   NC r1.base λaH=>
   ((0:Int)<=c/\(c:Int)<(r1.len:Nat))/\
   ∃aB:Int,w2.drew.cell? (aH.add (Int.toNat c*4))=some (.int .i64 aB)/\
   NC r1.base λaI=>
   ((0:Int)<=c/\(c:Int)<(r1.len:Nat))/\
   ∃aC:Int,w2.drew.cell? ((aI.add (Int.toNat c*4)).add 2)=some (.int .i64 aC)/\
   NC r1.base λaJ=>
   ((0:Int)<=c/\(c:Int)<(r1.len:Nat))/\
   ∃aD:Int,w2.drew.cell? ((aJ.add (Int.toNat c*4)).add 3)=some (.int .u32 aD)/\
   AL (.cells #[.int .u64 (u64 (page*8192)),.int .i64 (i64 (AA)),.int .i64 1,.int .i64 c,.bool np,.int .i64 aB,.int .i64 aC,.int .i64 0,.bool false,.bool false,.int .u32 aD,.slice none 0 0,.slice none 0 0,.int .i64 0] E.FD) w2.drew λv y=>
   y.cell? ((aJ.add (Int.toNat c*4)).add 3)=some (.int .u32 aD)/\
   y.cell? ((aI.add (Int.toNat c*4)).add 2)=some (.int .i64 aC)/\
   y.cell? (aH.add (Int.toNat c*4))=some (.int .i64 aB)/\
   CND ((c:Int)==0) (
    stCells ((Addr.mk v 0 none).add 5) 0 [.int .i64 (i64 ((i64 (AA))*8192))] y λaK=>
    stCells ((Addr.mk v 0 none).add 6) 0 [.int .i64 1] aK λaL=>
    K (some (Addr.mk v 0 none)) 0 aL
   ) (
    K (some (Addr.mk v 0 none)) 0 y
   ):=λaG=>by
  have O:=aG;unfold GB at O;have c0:0<=c:=by omega
  have c1:c<68:=by omega
  have aP:=Li c0 c1;have aZ:AA<=134217728:=by
   by_cases e:c=0
   .omega
   .have:AA=(Bb c).2.1:=Classical.byContradiction λh=>O (.inr (.inr (.inr (.inr (.inr (.inr ⟨by omega,h⟩))))));omega
  obtain⟨x,J,Ca⟩:=ct c0 c1;have Hd:=H2.drew;obtain⟨d0,d1,d2,d3⟩:=Ca Hd;have aA:(0:Int)<=c/\(c:Int)<(r1.len:Nat):=by omega
  rw[J];simp only[AG];refine⟨aA,_,d0,aA,_,d2,aA,_,d3,?_⟩;rw[AK (n:=page*8192),AE (n:=AA),AE (n:=AA*8192)];refine AR (vs:=[.int .u64 (page*8192),.int .i64 AA,.int .i64 1,.int .i64 c,.bool np,.int .i64 (Bb c).1,.int .i64 (Bb c).2.2.1,.int .i64 0,.bool false,.bool false,.int .u32 (Bb c).2.2.2,.slice none 0 0,.slice none 0 0,.int .i64 0]) Hd λv y T _=> ?_;obtain⟨f0,f1,f2,f3⟩:=Ca (T.front 1 rfl);have fin: ∀{w'} {el sl:Int},el=(if c=0 then AA*8192 else(Bb c).1)->sl=(if c=0 then 1 else(Bb c).2.2.1)->
    Sat (Cells v E.FD [.int .u64 (page*8192),.int .i64 AA,.int .i64 1,.int .i64 c,.bool np,.int .i64 el,.int .i64 sl,.int .i64 0,.bool false,.bool false,.int .u32 (Bb c).2.2.2,.slice none 0 0,.slice none 0 0,.int .i64 0]::Row E.A6 4 r1 (Al JY MB)::Z) w'->K (some ⟨v,0,none⟩) 0 w':=λe1 e2 h=>by
   subst e1;subst e2;refine aR aG v _ (Sat.span.2 ⟨⟨none,0,0⟩,⟨none,0,0⟩,?_⟩);have h1:=(h.front 1 rfl).tail;have h2:=h1.nil E.AJ 1;have h3:=h2.nil E.AJ 1;exact h3.perm ((List.reverse_perm [_,_,_]).symm.append_right Z)
  refine⟨f3,f2,f0,BF (λe=> ?_) λe=>fin (by omega) (by omega) T⟩;refine AZ T (o:=0) (m:=5) rfl (by simp) λaK aM=>AZ aM (o:=0) (m:=6) rfl (by simp) λaL aN=>fin (by omega) (by omega) aN
 refine AV (BF (λe j=>AU rfl (d (.inl e))) λn1=>AB (λe j=>AU rfl (d (.inr (.inl (by omega))))) λn2=> ?_);rw[AK (n:=34359738368-page)];refine AB (λe j=>AU rfl (d (.inr (.inr (.inl (by omega)))))) λn3=>AB (λe j=>AU rfl (d (.inr (.inr (.inr (.inl e)))))) λn4=>AB (λe j=>AU rfl (d (.inr (.inr (.inr (.inr (.inl (by omega)))))))) λn5=>BF (λe0=>AB (λe j=>AU rfl (d (.inr (.inr (.inr (.inr (.inr (.inl ⟨e0,by omega⟩)))))))) λn6=>AB (λe=>by omega) λn7 j=>AO rfl (main ?_)) λe0=>AB (λe=> ?_) λn7=>by omega
 .unfold GB;omega
 .obtain⟨x,J,Ca⟩:=ct (by omega) (by omega);have aP:=Li (c:=c) (by omega) (by omega);have aO:=(Ca H2).2.1;have m':=main;rw[J]at m'⊢;simp only[AG]at m'⊢;refine⟨⟨by omega,by omega⟩,_,aO,λj=> ?_⟩;rw[AK (n:=(Bb c).2.1)];refine DM (λh=>d (.inr (.inr (.inr (.inr (.inr (.inr ⟨by omega,h⟩))))))) λh=>m' ?_;unfold GB;omega
def IL(H:Sat (C9 E b S::Z) w){K:Int->Int->Int->Int->Bool->Int->Int->Int->Bool->Bool->World->Prop}(y: ∀w',Sat (C9 E b S::Z) w'->K S.base S.AA S.state S.cls S.FY S.elem S.AM S.used S.f8 S.f9 w'):
  F.Be E (some ⟨b,0,none⟩) K w:=by
 obtain⟨J,sm,H⟩:=Sat.span.1 H;unfold F.Be;simp only[AG];refine AR (vs:=[.int .u64 0,.int .i64 0,.int .i64 0,.int .i64 0,.bool false,.int .i64 0,.int .i64 0,.int .i64 0,.bool false,.bool false]) H λb1 O v _=> ?_;have h:=v.front 1 rfl;refine⟨_,h.cell rfl,_,h.cell rfl,_,h.cell rfl,_,h.cell rfl,_,h.cell rfl,_,h.cell rfl,_,h.cell rfl,_,h.cell rfl,_,h.cell rfl,_,h.cell rfl,?_⟩;refine GM (news:=[.int .u64 S.base,.int .i64 S.AA,.int .i64 S.state,.int .i64 S.cls,.bool S.FY,.int .i64 S.elem,.int .i64 S.AM,.int .i64 S.used,.bool S.f8,.bool S.f9]) v rfl (by simp[Value.oneCell']) λj d=> ?_;exact⟨_,d.cell rfl,_,d.cell rfl,_,d.cell rfl,_,d.cell rfl,_,d.cell rfl,_,d.cell rfl,_,d.cell rfl,_,d.cell rfl,_,d.cell rfl,_,d.cell rfl,y j (Sat.span.2 ⟨J,sm,d.tail⟩)⟩
def cH(H:Sat (C9 E b S::Z) w){K:Int->World->Prop}(d:(S.state=0∨0<S.used)->K 33 w)
  (v: ¬(S.state=0∨0<S.used)-> ∀w',Sat (C9 E b {S with state:=0,used:=0,uw:=[],mw:=[]}::Z) w'->K 0 w'):F.KO E (some ⟨b,0,none⟩) K w:=by
 obtain⟨su,sm,H⟩:=Sat.span.1 H;unfold F.KO;simp only[AG];refine AV ⟨_,H.cell rfl,BF (λe j=>AU rfl (d (.inl e))) λn1=>⟨_,H.cell rfl,λj=>AB (λe=>d (.inr e)) λn2=> ?_⟩⟩;refine AZ H (o:=0) (m:=2) rfl (by simp[GJ]) λw1 H1=>AZ H1 (o:=0) (m:=7) rfl (by simp[GJ]) λw2 y=>AZ y (o:=0) (m:=11) rfl (by simp[GJ]) λw3 J=>AZ J (o:=0) (m:=12) rfl (by simp[GJ]) λw4 O=>v (by omega) w4 (Sat.span.2 ⟨⟨none,0,0⟩,⟨none,0,0⟩,?_⟩);have h1:=(O.front 1 rfl).tail;have h2:=(h1.front 1 rfl).tail;have T:=h2.nil E.AJ 1;have Y:=T.nil E.AJ 1;exact Y.perm ((List.reverse_perm [_,_,_]).symm.append_right Z)
end
end Go.Sh

/- Records, classes and spans do what they say. No further condition. -/
import Derived.Test.YtbkjmfgdoceogaaGreatDoorA
import Derived.Test.YtbkjmfgdoceogaaGreatDoorM
import Derived.Test.YtbkjmfgdoceogaaGreatDoorY
import Derived.Test.YtbkjmfgdoceogaaGreatDoorF
import Derived.Test.YtbkjmfgdoceogaaGreatDoorSh
set_option linter.all false
set_option maxRecDepth 4000
set_option maxHeartbeats 1000000
namespace Go.Sh
section
variable{α:Type}{f:α->List Value}{z:Nat}
def BV(f:α->List Value)(L:List α):List Value:=L.flatMap f
theorem Dn(x:α)(L:List α):BV f (x::L)=f x++BV f L:=by simp[BV]
theorem HB(L M:List α):BV f (L++M)=BV f L++BV f M:=by simp[BV]
theorem DJ(hf: ∀x,(f x).length=z): ∀L:List α,(BV f L).length=L.length*z
 | []=>by simp[BV]
 | x::r=>by rw[Dn,List.length_append,DJ hf r,hf,List.length_cons,Nat.succ_mul];omega
theorem SN(hf: ∀x,(f x).length=z): ∀{L:List α} {i:Nat} {x:α} {j:Nat} {v:Value},L[i]? =some x->(f x)[j]? =some v->(BV f L)[i*z+j]? =some v
 | y::r,0,x,j,v,h,hj=>by
  have h:y=x:=Option.some.inj h;subst h;have:=(List.getElem?_eq_some_iff.1 hj).1;rw[Dn,Nat.zero_mul,Nat.zero_add,List.getElem?_append_left this];exact hj
 | y::r,i+1,x,j,v,h,hj=>by
  rw[Dn,Nat.succ_mul,List.getElem?_append_right (by rw[hf];omega),hf,show i*z+z+j-z=i*z+j by omega];exact SN hf (L:=r) h hj
theorem Pl(hf: ∀x,(f x).length=z): ∀(L:List α) (i:Nat),(BV f L).take (i*z)=BV f (L.take i)
 | [],i=>by simp[BV]
 | y::r,0=>by simp[BV]
 | y::r,i+1=>by
  rw[Dn,List.take_succ_cons,Dn,List.take_append,hf,List.take_of_length_le (by rw[hf,Nat.succ_mul];omega),Nat.succ_mul,show i*z+z-z=i*z by omega,Pl hf r i]
theorem Pm(hf: ∀x,(f x).length=z): ∀(L:List α) (i:Nat),(BV f L).drop (i*z)=BV f (L.drop i)
 | [],i=>by simp[BV]
 | y::r,0=>by simp
 | y::r,i+1=>by
  rw[Dn,List.drop_succ_cons,List.drop_append,hf,List.drop_eq_nil_iff.2 (by rw[hf,Nat.succ_mul];omega),List.nil_append,Nat.succ_mul,show i*z+z-z=i*z by omega,Pm hf r i]
theorem HC(j: ∀x,∀v∈f x,v.oneCell'=true)(L:List α): ∀v∈BV f L,v.oneCell'=true:=by
 intro v d;simp only[BV,List.mem_flatMap]at d;obtain⟨c,_,C⟩:=d;exact j c v C
theorem GL(hf: ∀x,(f x).length=z): ∀{L:List α} {i:Nat} {x y:α} {j:Nat} {v:Value},L[i]? =some x->j<z->(f x).set j v=f y->(BV f L).set (i*z+j) v=BV f (L.set i y)
 | c::r,0,x,y,j,v,h,hj,he=>by
  have h:c=x:=Option.some.inj h;subst h;rw[Dn,Nat.zero_mul,Nat.zero_add,List.set_append_left _ _ (by rw[hf];exact hj),he,List.set_cons_zero,Dn]
 | c::r,i+1,x,y,j,v,h,hj,he=>by
  rw[Dn,List.set_cons_succ,Dn,Nat.succ_mul,List.set_append_right _ _ (by rw[hf];omega),hf,show i*z+z+j-z=i*z+j by omega,GL hf (L:=r) h hj he]
theorem SO(hf: ∀x,(f x).length=z): ∀{L:List α} {i:Nat} {y:α},i<L.length->(BV f L).take (i*z)++f y++(BV f L).drop (i*z+z)=BV f (L.set i y)
 | c::r,0,y,h=>by
  rw[Dn,Nat.zero_mul,Nat.zero_add,List.set_cons_zero,Dn,List.take_zero,List.nil_append,List.drop_append,hf,List.drop_eq_nil_iff.2 (by rw[hf];omega),Nat.sub_self,List.drop_zero,List.nil_append]
 | c::r,i+1,y,h=>by
  have d:=SO hf (L:=r) (i:=i) (y:=y) (by simpa using h);rw[Dn,List.set_cons_succ,Dn,<-d,Nat.succ_mul,List.take_append,List.drop_append,hf,List.take_of_length_le (by rw[hf];omega),List.drop_eq_nil_iff.2 (by rw[hf];omega),List.nil_append,show i*z+z-z=i*z by omega,show i*z+z+z-z=i*z+z by omega];simp only[List.append_assoc]
def pos(key:α->Int):List α->Int->Nat
 | [],_=>0
 | c::r,n=>if key c<n then pos key r n+1 else 0
def HJ(key:α->Int)(L:List α):Prop:=L.Pairwise fun a b=>key a<key b
variable{key:α->Int}
theorem Hk: ∀(L:List α) (n:Int),pos key L n<=L.length
 | [],_=>Nat.le_refl _
 | c::r,n=>by simp only[pos];split;exact Nat.succ_le_succ (Hk r n);exact Nat.zero_le _
theorem FM: ∀{L:List α} {n:Int} {j:Nat} {c:α},L[j]? =some c->j<pos key L n->key c<n
 | c::r,n,0,x,h,hj=>by
  have h:c=x:=Option.some.inj h;subst h;simp only[pos]at hj;split at hj
  ·assumption
  ·omega
 | c::r,n,j+1,x,h,hj=>by
  simp only[pos]at hj;split at hj
  ·exact FM (L:=r) h (by omega)
  ·omega
theorem pos_at: ∀{L:List α} {n:Int} {c:α},L[pos key L n]? =some c->n<=key c
 | c::r,n,x,h=>by
  simp only[pos]at h;split at h
  ·exact pos_at (L:=r) h
  ·have h:c=x:=Option.some.inj h;subst h;omega
theorem HJ.lt{L:List α}(hs:HJ key L){i j:Nat}{a b:α}(v:L[i]? =some a)(C:L[j]? =some b)(h:i<j):key a<key b:=by
 have h1:=(List.getElem?_eq_some_iff.1 v);have d:=(List.getElem?_eq_some_iff.1 C);have:=List.pairwise_iff_getElem.1 hs i j h1.1 d.1 h;rw[h1.2,d.2]at this;exact this
theorem Pn{L:List α}(hs:HJ key L){n:Int}{j:Nat}{c:α}(h:L[j]? =some c)(C:pos key L n<=j):n<=key c:=by
 have J:=(List.getElem?_eq_some_iff.1 h).1;have v:=List.getElem?_eq_getElem (show pos key L n<L.length by omega);have h1:=pos_at v;rcases Nat.lt_or_eq_of_le C with d|d
 ·have:=hs.lt v h d;omega
 ·subst d;exact pos_at h
theorem Ls{L:List α}(hs:HJ key L){n:Int}{c:α}(J:c∈L)(O:key c=n):L[pos key L n]? =some c:=by
 obtain⟨j,d⟩:=List.mem_iff_getElem?.1 J;rcases Nat.lt_or_ge j (pos key L n)with h|h
 ·have:=FM d h;omega
 ·have K:=(List.getElem?_eq_some_iff.1 d).1;rcases Nat.lt_or_eq_of_le h with v|v
  ·have C:=List.getElem?_eq_getElem (show pos key L n<L.length by omega);have:=pos_at C;have N:=hs.lt C d v;omega
  ·rw[v];exact d
theorem OU{L:List α}(hs:HJ key L){n:Int}{i:Nat}(C:i<=L.length)(h1: ∀(j:Nat) c,L[j]? =some c->j<i->key c<n)(v: ∀(j:Nat) c,L[j]? =some c->i<=j->n<=key c):i=pos key L n:=by
 have hp:=Hk (key:=key) L n;rcases Nat.lt_trichotomy i (pos key L n)with h|h|h
 ·have d:=List.getElem?_eq_getElem (show i<L.length by omega);have:=v i _ d (Nat.le_refl _);have:=FM d h;omega
 ·exact h
 ·have d:=List.getElem?_eq_getElem (show pos key L n<L.length by omega);have:=h1 _ _ d h;have:=pos_at d;omega
theorem HJ.take{L:List α}(hs:HJ key L)(i:Nat):HJ key (L.take i):=List.Pairwise.sublist (List.take_sublist _ _) hs
theorem HJ.drop{L:List α}(hs:HJ key L)(i:Nat):HJ key (L.drop i):=List.Pairwise.sublist (List.drop_sublist _ _) hs
theorem HJ.filter{L:List α}(hs:HJ key L)(p:α->Bool):HJ key (L.filter p):=List.Pairwise.sublist List.filter_sublist hs
theorem HJ.inj{L:List α}(hs:HJ key L){a b:α}(j:a∈L)(v:b∈L)(h:key a=key b):a=b:=by
 have h1:=Ls hs j rfl;have d:=Ls hs v h.symm;rw[h1]at d;exact Option.some.inj d
theorem Eb{L:List α}{n:Int}{c:α}(v:c∈L.take (pos key L n)):c∈L/\key c<n:=by
 obtain⟨j,d⟩:=List.mem_iff_getElem?.1 v;rw[List.getElem?_take]at d;split at d
 ·rename_i h;exact⟨List.mem_of_getElem? d,FM d h⟩
 ·cases d
theorem FZ{L:List α}(hs:HJ key L){n:Int}{c:α}(v:c∈L.drop (pos key L n)):c∈L/\n<=key c:=by
 obtain⟨j,d⟩:=List.mem_iff_getElem?.1 v;rw[List.getElem?_drop]at d;exact⟨List.mem_of_getElem? d,Pn hs d (by omega)⟩
theorem Po{L:List α}{n:Int}{c:α}(hs:HJ key L)(d:c∈L)(h:key c<n):c∈L.take (pos key L n):=by
 rw[<-List.take_append_drop (pos key L n) L]at d;rcases List.mem_append.1 d with h1|h1
 ·exact h1
 ·have:=(FZ hs h1).2;omega
theorem Pp{L:List α}{n:Int}{c:α}(d:c∈L)(h:n<=key c):c∈L.drop (pos key L n):=by
 rw[<-List.take_append_drop (pos key L n) L]at d;rcases List.mem_append.1 d with h1|h1
 ·have:=(Eb h1).2;omega
 ·exact h1
theorem HJ.aF{L M N:List α}(J:HJ key L)(O:HJ key M)(T:HJ key N){a b:Int}(K:a<=b)(h1: ∀c∈L,key c<a)(C: ∀c∈M,a<=key c/\key c<b)(v: ∀c∈N,b<=key c):HJ key (L++M++N):=by
 unfold HJ;rw[List.append_assoc,List.pairwise_append,List.pairwise_append];refine⟨J,⟨O,T,fun x d y j=> ?_⟩,fun x d y j=> ?_⟩
 ·have:=(C x d).2;have:=v y j;omega
 ·have:=h1 x d;rcases List.mem_append.1 j with h|h
  ·have:=(C y h).1;omega
  ·have:=v y h;omega
theorem HJ.TH: ∀{L:List α} (hs:HJ key L) {a b:Int},a<=b->(∀c∈L,a<=key c/\key c<b)->(L.length:Int)<=b-a
 | [],_,a,b,h,_=>by simp;omega
 | c::r,hs,a,b,h,hc=>by
  have h1:=hc c (by simp);have v:HJ key r:=(List.pairwise_cons.1 hs).2;have:=HJ.TH v (a:=key c+1) (b:=b) (by omega) fun d j=>⟨by have:=(List.pairwise_cons.1 hs).1 d j;omega,(hc d (by simp[j])).2⟩;rw[List.length_cons];omega
theorem X4{L:List α}(hs:HJ key L)(n:Int):pos key L (n+1)=pos key L n+(if ∃c∈L,key c=n then 1 else 0):=by
 symm
 have hp:=Hk (key:=key) L n;by_cases e: ∃c∈L,key c=n
 ·rw[if_pos e];obtain⟨c,J,he⟩:=e;have h1:=Ls hs J he;have K:=(List.getElem?_eq_some_iff.1 h1).1;refine OU hs (by omega) (fun j d v C=> ?_) fun j d v C=> ?_
  ·rcases Nat.lt_or_eq_of_le (Nat.le_of_lt_succ C)with g|g
   ·have:=FM v g;omega
   ·subst g;rw[h1]at v;cases v;omega
  ·have:=hs.lt h1 v (by omega);omega
 ·rw[if_neg e];refine OU hs (by omega) (fun j d v C=> ?_) fun j d v C=> ?_
  ·have:=FM v C;omega
  ·have:=Pn hs v C;have:key d≠n:=fun h=>e ⟨d,List.mem_of_getElem? v,h⟩;omega
theorem Qj{L:List α}(hs:HJ key L){l:Iv}(d:Ok l)(hm: ∀p,mem l p↔ ∃c∈L,key c=p)(a:Int): ∀n:Nat,((pos key L (a+n):Nat):Int)=pos key L a+cnt l a (a+n)
 | 0=>by
  rw[show a+((0:Nat):Int)=a by omega];have:=(CU d (Int.le_refl a)).2 fun n h1 v=>by omega
  omega
 | n+1=>by
  have C:=Qj hs d hm a n;rw[show a+((n+1:Nat):Int)=a+n+1 by omega,X4 hs];have j:=F9 d (a:=a) (k:=a+n) (by omega);by_cases e:mem l (a+n)
  ·rw[if_pos ((hm _).1 e),j.1 e];omega
  ·rw[if_neg fun h=>e ((hm _).2 h),j.2 e];omega
theorem aG{L:List α}{a:Int}(h: ∀c∈L,a<=key c):pos key L a=0:=by
 cases L with
 | nil=>rfl
 | cons c r=>simp only[pos];rw[if_neg (by have:=h c (by simp);omega)]
theorem SP: ∀{L:List α} {a:Int},(∀c∈L,key c<a)->pos key L a=L.length
 | [],_,_=>rfl
 | c::r,a,h=>by
  simp only[pos];rw[if_pos (h c (by simp)),SP fun d j=>h d (by simp[j]),List.length_cons]
theorem Nf{L:List α}(hs:HJ key L){l:Iv}(v:Ok l)(hm: ∀p,mem l p↔ ∃c∈L,key c=p){a:Int}{n:Nat}(j: ∀p,mem l p->a<=p/\p<a+n):(L.length:Int)=CK l:=by
 have h1:=Qj hs v hm a n;rw[aG fun c d=>(j _ ((hm _).2 ⟨c,d,rfl⟩)).1,SP fun c d=>(j _ ((hm _).2 ⟨c,d,rfl⟩)).2,IC (Ok.TR v) j]at h1;omega
end
section
variable{α:Type}{f:α->List Value}{z t:Nat}{F:List Pr}{w:World}{s:AZ}{L:List α}
theorem Sat.Gd(hz:0<z)(hf: ∀x,(f x).length=z)(H:Sat (Row t z s (BV f L)::F) w):L.length=s.len/\s.len<=s.cap/\s.cap<9223372036854775808:=by
 have h:=H.GA;rw[DJ hf]at h;exact⟨Nat.eq_of_mul_eq_mul_right hz h,H.own.cap,H.own.top⟩
theorem Sat.FF(hz:0<z)(hf: ∀x,(f x).length=z)(H:Sat (Row t z s (BV f L)::F) w){i:Nat}(d:i<L.length): ∃b,s.base=some ⟨b,0,none⟩:=
 H.own.HM (by have:=H.Gd hz hf;omega)
theorem Sat.B5(hf: ∀x,(f x).length=z)(H:Sat (Row t z s (BV f L)::F) w){a:Addr}(J:s.base=some a){i:Nat}{x:α}(d:L[i]? =some x){j:Nat}{v:Value}(C:(f x)[j]? =some v):w.cell? (a.add (i*z+j))=some v:=
 H.own.cell J (SN hf d C)
theorem VH: ∀(news:List Value) {vs:List Value} {w:World} (o i:Nat),Sat (Row t z s vs::F) w->o+i+news.length<=vs.length->(∀v∈news,v.oneCell'=true)-> ∀{a:Addr},s.base=some a-> ∀{K:World->Prop},
  (∀w',Sat (Row t z s (vs.take (o+i)++news++vs.drop (o+i+news.length))::F) w'->K w')->stCells (a.add o) i news w K
 | [],vs,w,o,i,H,hl,ho,a,ha,K,hK=>by
  refine hK w ?_;simpa using H
 | v::r,vs,w,o,i,H,hl,ho,a,ha,K,hK=>by
  have d:o+i<vs.length:=by simp at hl;omega
  have h1:=Hc H (j:=o+i) (v:=v) (ho v (by simp)) d ha (K:=fun w'=>stCells (a.add o) (i+1) r w' K) fun w' N=>VH r o (i+1) N (by simp at hl⊢;omega) (fun u hu=>ho u (by simp[hu])) ha fun J C=>hK J ?_
  ·simp only[stCells,add_zero]at h1⊢;rw[add_add];exact h1
  ·have:(vs.set (o+i) v).take (o+(i+1))++r++(vs.set (o+i) v).drop (o+(i+1)+r.length)=vs.take (o+i)++(v::r)++vs.drop (o+i+(v::r).length):=by
    rw[show o+(i+1)=o+i+1 from by omega,List.take_set,List.take_succ_eq_append_getElem d,List.set_append_right _ _ (by simp;omega)];simp only[List.length_take,Nat.min_eq_left (Nat.le_of_lt d),Nat.sub_self,List.set_cons_zero,List.append_assoc,List.singleton_append,List.length_cons,List.cons_append];congr 2;rw[List.drop_set_of_lt (by omega),show o+i+1+r.length=o+i+(r.length+1)from by omega];simp
   rw[<-this];exact C
theorem X5(hf: ∀x,(f x).length=z)(C: ∀x,∀v∈f x,v.oneCell'=true)(H:Sat (Row t z s (BV f L)::F) w){i:Nat}(d:i<L.length)(y:α){a:Addr}(N:s.base=some a){K:World->Prop}
  (J: ∀w',Sat (Row t z s (BV f (L.set i y))::F) w'->K w'):stCells (a.add (i*z)) 0 (f y) w K:=by
 have hle:i*z+z<=L.length*z:=by rw[<-Nat.succ_mul];exact Nat.mul_le_mul_right _ d
 refine VH (f y) (i*z) 0 H (by rw[DJ hf,hf];omega) (C y) N fun w' j=>J w' ?_;rw[Nat.add_zero,hf,SO hf d]at j;exact j
theorem Sat.Ng(hz:0<z)(hf: ∀x,(f x).length=z)(H:Sat (Row t z s (BV f L)::F) w){i:Nat}(j:i<=L.length):rowAt w (Fe s.base s.cap 0 z) (i*z) (BV f (L.take i)):=by
 have d:=H.Gd hz hf;rw[Jb];have:=Iu H.Ky (m:=i*z) (Nat.mul_le_mul_right _ (by omega)) H.GA;rwa[Pl hf]at this
theorem Sat.Nh(hz:0<z)(hf: ∀x,(f x).length=z)(H:Sat (Row t z s (BV f L)::F) w){i:Nat}(j:i<=L.length):rowAt w (Fe s.base s.cap i z) ((s.len-i)*z) (BV f (L.drop i)):=by
 have d:=H.Gd hz hf;have:=Ha (z:=z) H.Ky rfl (k:=i) (by omega) d.2.1 H.GA;rwa[Pm hf]at this
theorem bsearch{key:α->Int}{c o:Nat}(hz:0<z)(hf: ∀x,(f x).length=z)(hk: ∀x,(f x)[0]? =some (.int .u64 (key x)))(hs:HJ key L)(H:Sat (Row t z s (BV f L)::F) w)
  (hc:w.cell? ((Addr.mk c 0 none).add o)=some (.slice s.base s.len s.cap))(hlen:s.len<4611686018427387904)(n:Int){K:(Int×Int×Unit)->World->Prop}(hK: ∀st:Int×Int×Unit,st.1=(pos key L n:Nat)->K st w):
  Be (Int×Int×Unit) (0,((s.len:Nat):Int),()) w fun s3 _ T J=>
  CND (decide ((s3.1:Int)<s3.2.1)) (
   2≠(0:Int)/\
   Gl (i64 (Int.tdiv (i64 (s3.1+s3.2.1)) 2):Int) fun d=>
   NC (some (Addr.mk c 0 none)) fun p7=>
   ∃O:AZ,T.cell? (p7.add o)=some (.slice O.base O.len O.cap)/\
   NC O.base fun p9=>
   ((0:Int)<=d/\(d:Int)<(O.len:Nat))/\
   ∃Y:Int,T.cell? (p9.add (Int.toNat d*z))=some (.int .u64 Y)/\
   CND (decide ((Y:Int)<n)) (
    J (i64 (d+1),s3.2.1,()) T
   ) (
    J (s3.1,d,()) T
   )
  ) (K s3 T):=by
 have hL:=H.Gd hz hf;refine AM (fun st w'=>w'=w/\0<=st.1/\st.1<=st.2.1/\st.2.1<=s.len/\(∀(j:Nat) x,L[j]? =some x->(j:Int)<st.1->key x<n)/\(∀(j:Nat) x,L[j]? =some x->st.2.1<=(j:Int)->n<=key x)) (fun st _=>(st.2.1-st.1).toNat)
  ⟨rfl,Int.le_refl _,Int.natCast_nonneg _,Int.le_refl _,fun j x _ h=>by dsimp only at h;omega,fun j x C h=>by have:=(List.getElem?_eq_some_iff.1 C).1;dsimp only at h;omega⟩ ?_
 rintro⟨lo,hi,v⟩ _ w' ⟨rfl,h0,h1,h2,h3,h4⟩;dsimp only at h0 h1 h2 h3 h4⊢;refine AE (fun aM=>⟨by decide,AY fun aF aA=> ?_⟩) fun aK=>hK _ ?_
 ·rw[AN (n:=lo+hi),Int.tdiv_eq_ediv_of_nonneg (by omega),AN (n:=(lo+hi)/2)]at aA;obtain⟨x,C⟩: ∃x,L[aF.toNat]? =some x:=⟨_,List.getElem?_eq_getElem (by omega)⟩;obtain⟨b,hb⟩:=H.FF hz hf (i:=aF.toNat) (by omega);simp only[AI];refine⟨s,hc,?_⟩;have CC:=H.B5 hf hb C (hk x);rw[hb];refine⟨⟨by omega,by omega⟩,key x,by simpa using CC,AE (fun g=> ?_) fun g=> ?_⟩
  ·rw[AN (n:=aF+1)];refine⟨⟨by trivial,by omega,by omega,by omega,fun j y N hj=> ?_,h4⟩,by omega⟩;rcases Int.lt_or_le (j:Int) aF with q|q
   ·have:=hs.lt N C (by omega);omega
   ·have:aF.toNat=j:=by omega
    rw[this]at C;rw[C]at N;cases N;exact g
  ·refine⟨⟨by trivial,by omega,by omega,by omega,h3,fun j y N hj=> ?_⟩,by omega⟩;rcases Int.lt_or_le aF (j:Int)with q|q
   ·have:=hs.lt C N (by omega);omega
   ·have:aF.toNat=j:=by omega
    rw[this]at C;rw[C]at N;cases N;omega
 ·have:=OU hs (n:=n) (i:=lo.toNat) (by omega) (fun j x C hj=>h3 j x C (by omega)) fun j x C hj=>h4 j x C (by omega);omega
end
end Go.Sh
set_option linter.all false
set_option maxRecDepth 4000
set_option maxHeartbeats 1000000
namespace Go.Sh
structure FX where
 n:Nat
 bk:List Nat
def afterL:List Nat->Nat->Option Nat
 | [],_=>none
 | a::r,i=>if a=i then r.head? else afterL r i
def OV(R:Nat->Nat)(x:Option Nat):Option Addr:=x.map fun i=>⟨R i,0,none⟩
def recC(E:Env)(R:Nat->Nat)(bk:List Nat)(i:Nat):Pr:=Cells (R i) E.ET [.int .i64 ((i:Int)+1),.bool (!bk.contains i),.pointer (OV R (afterL bk i))]
structure SQ(X:FX):Prop where
 nd:X.bk.Nodup
 lt: ∀i∈X.bk,i<X.n
 TH:X.n<=1099511627776
def X6(E:Env)(b:Nat)(X:FX)(s:AZ)(R:Nat->Nat)(c:Int):List Pr:=
 [Cells b E.HR [.int .i64 1,HU s,.pointer (OV R X.bk.head?),.int .i64 c],Row E.D0 1 s ((List.range X.n).map fun i=>.pointer (some ⟨R i,0,none⟩)),Ap (recC E R X.bk) (List.range X.n)]
def FN(E:Env)(b:Nat)(X:FX):Pr:=Ex fun x:AZ×(Nat->Nat)×Int=>ID (SQ X) (N9 (X6 E b X x.1 x.2.1 x.2.2))
section
variable{E:Env}{b:Nat}{X:FX}{Z:List Pr}{w:World}{s:AZ}{R:Nat->Nat}{c:Int}
theorem Sat.fix:Sat (FN E b X::Z) w↔ ∃s R c,SQ X/\Sat (X6 E b X s R c++Z) w:=by
 unfold FN;rw[Sat.ex];constructor
 ·rintro⟨⟨s,R,c⟩,h⟩;rw[Sat.where,Sat.star]at h;exact⟨s,R,c,h.1,h.2⟩
 ·rintro⟨s,R,c,h1,d⟩;refine⟨⟨s,R,c⟩,?_⟩;rw[Sat.where,Sat.star];exact⟨h1,d⟩
theorem WJ(H:Sat Z w){K:Option Addr->Int->World->Prop}(d: ∀b w',Sat (FN E b ⟨0,[]⟩::Z) w'->K (some ⟨b,0,none⟩) 0 w'):F.Lc E 1 K w:=by
 unfold F.Lc;refine Ax (Ab (by decide) fun j=>Ab (by decide) ?_);refine Am (vs:=[.int .i64 1,.slice none 0 0,.pointer none,.int .i64 0]) H fun b w' v _=>d b w' (Sat.fix.2 ⟨⟨none,0,0⟩,fun _=>0,0,⟨.nil,fun i h=>(by cases h),by decide⟩,?_⟩);have h1:=v.nil E.D0 1;have C:Sat (Ap (recC E (fun _=>0) []) []::_) w':=h1.KN (recC E (fun _=>0) []);exact C.perm ((List.reverse_perm [_,_,_]).symm.append_right Z)
theorem Pq{l:List Nat}{i:Nat}(h:i∉l):afterL l i=none:=by
 induction l with
 | nil=>rfl
 | cons a r ih=>
  unfold afterL;rw[if_neg fun e=>h (by simp[e]),ih fun e=>h (by simp[e])]
theorem OW{n a x:Nat}(C:a<n)(v:x∈(List.range n).eraseIdx a):x≠a:=by
 obtain⟨i,d⟩:=List.mem_iff_getElem?.1 v;rw[List.getElem?_eraseIdx]at d;split at d
 ·rename_i h;rw[List.getElem?_range (by omega)]at d;cases d;omega
 ·rename_i h;have j:=(List.getElem?_eq_some_iff.1 d).1;rw[List.length_range]at j;rw[List.getElem?_range j]at d;cases d;omega
theorem Tx(H:Sat (FN E b X::Z) w)(aY:X.n<1099511627776){K:Int->World->Prop}
  (aJ:X.bk=[]-> ∀w',Sat (FN E b ⟨X.n+1,[]⟩::Z) w'->K ((X.n:Int)+1) w')
  (aK: ∀a r,X.bk=a::r-> ∀w',Sat (FN E b ⟨X.n,r⟩::Z) w'->K ((a:Int)+1) w'):F.GH E (some ⟨b,0,none⟩) K w:=by
 obtain⟨s,R,c,hI,H⟩:=Sat.fix.1 H;unfold F.GH;simp only[AI];refine⟨_,H.cell rfl,?_⟩;cases hb:X.bk with
 | nil=>
  unfold X6 at H;rw[hb]at H;have hl:=(H.front 1 rfl).GA;rw[List.length_map,List.length_range,Nat.mul_one]at hl;refine Ax (Ao rfl ⟨s,H.cell rfl,?_⟩);rw[AN (n:=((s.len:Nat):Int)+1),<-hl];refine Am (vs:=[.int .i64 ((X.n:Int)+1),.bool false,.pointer none]) H fun d w9 H9 _=>⟨s,(H9.front 1 rfl).cell rfl,?_⟩;refine Am (vs:=[.pointer (some ⟨d,0,none⟩)]) H9 fun a3 a7 aH _=> ?_;refine IE (news:=[.pointer (some ⟨d,0,none⟩)]) (aH.DF 2 rfl) rfl rfl (by intro v hv;simp at hv;subst hv;rfl) (by omega) (by omega) fun Y a8 aV _=> ?_;refine Aj (aV.front 2 rfl) (o:=0) (m:=1) rfl (by simp) fun a6 aS j=> ?_;simp only[AI];have aQ:=aS.front 2 rfl;refine Aj aQ (o:=0) (m:=1) rfl (by simp) fun aM aC=>Aj aC (o:=0) (m:=2) rfl (by simp) fun aN aD=> ?_;have N:=aD.front 1 rfl;refine⟨_,N.cell rfl,Aj N (o:=0) (m:=3) rfl (by simp) fun J C=>⟨_,(C.front 1 rfl).BI rfl,aJ hb J ?_⟩⟩;refine Sat.fix.2 ⟨Y,fun i=>if i=X.n then d else R i,i64 (c+1),⟨.nil,fun i h=>(by cases h),by show X.n+1<=_;omega⟩,?_⟩;have e1:(List.range (X.n+1)).map (fun i=>Value.pointer (some ⟨(if i=X.n then d else R i),0,none⟩))=((List.range X.n).map fun i=>Value.pointer (some ⟨R i,0,none⟩))++[.pointer (some ⟨d,0,none⟩)]:=by
   rw[List.range_succ,List.map_append];congr 1
   ·refine List.map_congr_left fun i hi=> ?_;have:=List.mem_range.1 hi;rw[if_neg (by omega)]
   ·simp
  have e2:Ap (recC E R []) (List.range X.n)=Ap (recC E (fun i=>if i=X.n then d else R i) []) (List.range X.n):=Ap.congr fun x hx=>by
   have:=List.mem_range.1 hx;show recC E R [] x=Cells (if x=X.n then d else R x) _ _;rw[if_neg (by omega)];rfl
  have e3:recC E (fun i=>if i=X.n then d else R i) [] X.n=Cells d E.ET [.int .i64 ((X.n:Int)+1),.bool true,.pointer none]:=by
   show Cells (if X.n=X.n then d else R X.n) _ _=_;rw[if_pos rfl];rfl
  have T:=(C.front 3 rfl).DF 1 rfl|>fun h=>h.perm (.swap _ _ _);have aA:Sat (recC E (fun i=>if i=X.n then d else R i) [] X.n::Ap (recC E (fun i=>if i=X.n then d else R i) []) (List.range X.n)::Cells b E.HR [.int .i64 1,HU Y,.pointer none,.int .i64 (i64 (c+1))]::Row E.D0 1 Y (((List.range X.n).map fun i=>Value.pointer (some ⟨R i,0,none⟩))++[.pointer (some ⟨d,0,none⟩)])::Z) J:=by
   rw[e3,<-e2];exact T
  have O:=aA.OD;rw[<-List.range_succ]at O;unfold X6;rw[e1];exact O.perm (by
   have: ∀(a b c:Pr),(a::b::c::Z).Perm (b::c::a::Z):=fun a b c=>(List.perm_middle (l₁:=[b,c]) (a:=a)).symm;exact this _ _ _)
 | cons a r=>
  unfold X6 at H;rw[hb]at H;have ha:a<X.n:=hI.lt a (by rw[hb];simp);have aB:=hI.nd;rw[hb]at aB;have aF:a∉r:=(List.nodup_cons.1 aB).1;have hg:(List.range X.n)[a]? =some a:=List.getElem?_range ha;have H2:=(H.front 2 rfl).IF hg;have e0:OV R (afterL (a::r) a)=OV R r.head?:=by unfold afterL;rw[if_pos rfl]
  have aI:recC E R (a::r) a=Cells (R a) E.ET [.int .i64 ((a:Int)+1),.bool (!(a::r).contains a),.pointer (OV R r.head?)]:=by unfold recC;rw[e0]
  rw[aI]at H2;refine Ax (Ab rfl ?_);show NC (some (Addr.mk (R a) 0 none)) _;simp only[AI];refine⟨_,H2.cell rfl,Aj (H2.front 2 rfl) (o:=0) (m:=2) rfl (by simp) fun a5 aO j=> ?_⟩;show NC (some (Addr.mk (R a) 0 none)) _;simp only[AI];have aL:=aO.front 1 rfl;refine Aj aL (o:=0) (m:=1) rfl (by simp) fun aM aC=> ?_;show NC (some (Addr.mk (R a) 0 none)) _;simp only[AI];refine Aj aC (o:=0) (m:=2) rfl (by simp) fun aN aD=> ?_;have N:=aD.front 1 rfl;refine⟨_,N.cell rfl,Aj N (o:=0) (m:=3) rfl (by simp) fun J C=> ?_⟩;show NC (some (Addr.mk (R a) 0 none)) _;simp only[AI];refine⟨_,(C.front 1 rfl).BI rfl,aK a r hb J ?_⟩;refine Sat.fix.2 ⟨s,R,i64 (c+1),⟨(List.nodup_cons.1 aB).2,fun i hi=>hI.lt i (by rw[hb];simp[hi]),hI.TH⟩,?_⟩;have e3:recC E R r a=Cells (R a) E.ET [.int .i64 ((a:Int)+1),.bool true,.pointer none]:=by
   unfold recC;rw[Pq aF];have:r.contains a=false:=by simpa using aF
   rw[this];rfl
  have e2:Ap (recC E R (a::r)) ((List.range X.n).eraseIdx a)=Ap (recC E R r) ((List.range X.n).eraseIdx a):=Ap.congr fun x hx=>by
   have aE:=OW ha hx;unfold recC;have h1:(a::r).contains x=r.contains x:=by
    rw[List.contains_cons];have:(x==a)=false:=by simpa using aE
    rw[this,Bool.false_or]
   have h2:afterL (a::r) x=afterL r x:=by
    show(if a=x then r.head? else afterL r x)=_;rw[if_neg fun e=>aE e.symm]
   rw[h1,h2]
  have T:=(C.front 1 rfl).DF 1 rfl;rw[e2]at T;have aA:Sat (recC E R r a::Ap (recC E R r) ((List.range X.n).eraseIdx a)::Cells b E.HR [.int .i64 1,HU s,.pointer (OV R r.head?),.int .i64 (i64 (c+1))]::Row E.D0 1 s ((List.range X.n).map fun i=>.pointer (some ⟨R i,0,none⟩))::Z) J:=by
   rw[e3];exact T
  have O:=aA.Hf hg;exact O.perm (by
   have: ∀(a b c:Pr),(a::b::c::Z).Perm (b::c::a::Z):=fun a b c=>(List.perm_middle (l₁:=[b,c]) (a:=a)).symm;exact this _ _ _)
theorem Tz(H:Sat (FN E b X::Z) w){a:Nat}(ha:a<X.n)(d:a∉X.bk){K:Int->World->Prop}(hK: ∀w',Sat (FN E b ⟨X.n,a::X.bk⟩::Z) w'->K 0 w'):F.EX E (some ⟨b,0,none⟩) ((a:Int)+1) K w:=by
 obtain⟨s,R,c,T,H⟩:=Sat.fix.1 H;have aI:=T.TH;have hl:=(H.front 1 rfl).GA;rw[List.length_map,List.length_range,Nat.mul_one]at hl;have hg:(List.range X.n)[a]? =some a:=List.getElem?_range ha;have Y:((List.range X.n).map fun i=>Value.pointer (some ⟨R i,0,none⟩))[a]? =some (.pointer (some ⟨R a,0,none⟩)):=by rw[List.getElem?_map,hg];rfl
 obtain⟨x,J⟩:=(H.front 1 rfl).own.HM (by omega);have hc:=(H.front 1 rfl).own.cell J Y;unfold F.EX T0.EX F.HN;simp only[AI,Nat.mul_one];have et:Int.toNat (i64 (((a:Int)+1)-1))=a:=by rw[AN];omega
 have H2:=(H.front 2 rfl).IF hg;have e0:recC E R X.bk a=Cells (R a) E.ET [.int .i64 ((a:Int)+1),.bool true,.pointer none]:=by
  unfold recC;rw[Pq d];have:X.bk.contains a=false:=by simpa using d
  rw[this];rfl
 rw[e0]at H2;refine Ao (decide_eq_true (by omega)) ⟨s,H.cell rfl,Ao (decide_eq_true (by omega)) ⟨s,H.cell rfl,?_⟩⟩;rw[J];simp only[AI];rw[et];have C:(0:Int)<=i64 (((a:Int)+1)-1)/\i64 (((a:Int)+1)-1)<(s.len:Nat):=by rw[AN];omega
 refine⟨C,_,hc,?_⟩;simp only[AI];refine⟨true,H2.cell rfl,Ab rfl ⟨s,H.cell rfl,?_⟩⟩;rw[J];simp only[AI];refine⟨C,_,hc,_,H.cell rfl,?_⟩;simp only[AI];refine Aj H2 (o:=0) (m:=1) rfl (by simp) fun aT aB=>Aj aB (o:=0) (m:=2) rfl (by simp) fun aP aH=> ?_;refine Aj (aH.front 2 rfl) (o:=0) (m:=2) rfl (by simp) fun aL j=>⟨_,j.cell rfl,Aj j (o:=0) (m:=3) rfl (by simp) fun O aF=>hK O ?_⟩;refine Sat.fix.2 ⟨s,R,i64 (c-1),⟨List.nodup_cons.2 ⟨d,T.nd⟩,fun i hi=> ?_,T.TH⟩,?_⟩
 ·rcases List.mem_cons.1 hi with h|h
  ·subst h;exact ha
  ·exact T.lt i h
 ·have e3:recC E R (a::X.bk) a=Cells (R a) E.ET [.int .i64 ((a:Int)+1),.bool false,.pointer (OV R X.bk.head?)]:=by
   unfold recC;have:(a::X.bk).contains a=true:=by simp
   rw[this];have:afterL (a::X.bk) a=X.bk.head?:=by unfold afterL;rw[if_pos rfl]
   rw[this];rfl
  have e2:Ap (recC E R X.bk) ((List.range X.n).eraseIdx a)=Ap (recC E R (a::X.bk)) ((List.range X.n).eraseIdx a):=Ap.congr fun x J=>by
   have v:=OW ha J;unfold recC;have h1:(a::X.bk).contains x=X.bk.contains x:=by
    rw[List.contains_cons];have:(x==a)=false:=by simpa using v
    rw[this,Bool.false_or]
   have h2:afterL (a::X.bk) x=afterL X.bk x:=by
    show(if a=x then X.bk.head? else afterL X.bk x)=_;rw[if_neg fun e=>v e.symm]
   rw[h1,h2]
  have N:=(aF.front 1 rfl).DF 1 rfl;rw[e2]at N;have aC:Sat (recC E R (a::X.bk) a::Ap (recC E R (a::X.bk)) ((List.range X.n).eraseIdx a)::Cells b E.HR [.int .i64 1,HU s,.pointer (some ⟨R a,0,none⟩),.int .i64 (i64 (c-1))]::Row E.D0 1 s ((List.range X.n).map fun i=>.pointer (some ⟨R i,0,none⟩))::Z) O:=by
   rw[e3];exact N
  have aA:=Sat.Hf aC hg;exact aA.perm (by
   have: ∀(a b c:Pr),(a::b::c::Z).Perm (b::c::a::Z):=fun a b c=>(List.perm_middle (l₁:=[b,c]) (a:=a)).symm;exact this _ _ _)
end
end Go.Sh
set_option linter.all false
set_option maxRecDepth 4000
set_option maxHeartbeats 2000000
namespace Go.Sh
abbrev WK:=Int×Int×Int×Int
def Fk(e:WK):List Value:=[.int .i64 e.1,.int .i64 e.2.1,.int .i64 e.2.2.1,.int .u32 e.2.2.2]
theorem Af(e:WK):(Fk e).length=4:=rfl
theorem SR(e:WK): ∀v∈Fk e,v.oneCell'=true:=by intro v d;simp[Fk]at d;rcases d with rfl|rfl|rfl|rfl<;>rfl
def Qk(n:Int):Bool:=(n !=0)&&(E8 .u64 0 n (u64 (n-1))==0)
def F2(size d:Int):Int:=if Qk (u64 size)=false then d else if 2048<=size then 256 else if 128<=size then i64 (Int.tdiv size 8)else if 32<=size then 16 else d
def bytesF(size:Int):Nat->Int->Int
 | 0,n=>n
 | k+1,n=>if Int.tmod n size>i64 (Int.tdiv n 8)then bytesF size k (i64 (n+8192))else n
def VI(size n:Int):Bool:=decide (¬Int.tmod n size>i64 (Int.tdiv n 8))
structure Lt where
 IX:Int
 size:Int
 l:List WK
def Lt.last(s:Lt):WK:=s.l.getLastD (0,0,0,0)
def Lt.same(s:Lt):Bool:=decide (1<s.l.length)&&(s.last.2.1==i64 (Int.tdiv (bytesF s.size 16 8192) 8192)&&(i64 (Int.tdiv (i64 (s.last.2.1*8192)) s.last.1)==i64 (Int.tdiv (bytesF s.size 16 8192) s.size)))
def Lt.next(s:Lt):Lt:=
 ⟨F2 s.size s.IX,i64 (s.size+F2 s.size s.IX),
  if s.same=true then s.l.dropLast++[(s.size,s.last.2)]else s.l++[(s.size,i64 (Int.tdiv (bytesF s.size 16 8192) 8192),0,0)]⟩
def Lt.X7(s:Lt):Bool:=decide (8<=s.size)&&(decide (s.size<=32768)&&(VI s.size (bytesF s.size 16 8192)&&(decide (0<s.l.length)&&(decide (s.l.length<=200)&&((decide (8<=F2 s.size s.IX)&&decide (F2 s.size s.IX<=10000))&&(decide (s.l.length=1)||s.last.1 !=0))))))
def Ki:Nat->Lt
 | 0=>⟨8,8,[(0,0,0,0)]⟩
 | n+1=>(Ki n).next
def runAll:Nat->Lt->Bool×Lt
 | 0,s=>(true,s)
 | n+1,s=>match s.X7 with
  | true=>runAll n s.next
  | false=>(false,s)
theorem My: ∀(n k:Nat) {s:Lt},(runAll n (Ki k))=(true,s)->(∀j,j<n->(Ki (k+j)).X7=true)/\Ki (k+n)=s
 | 0,k,s,h=>⟨fun j v=>by omega,(Prod.mk.inj h).2⟩
 | n+1,k,s,h=>by
  unfold runAll at h;split at h
  ·rename_i hg;have d:=My n (k+1) (s:=s) h;refine⟨fun j v=> ?_,by rw[<-d.2,show k+1+n=k+(n+1) by omega]⟩;cases j with
   | zero=>exact hg
   | succ j=>have:=d.1 j (by omega);rwa[show k+1+j=k+(j+1) by omega]at this
  ·cases h
def Cw(c:WK):WK:=
 let n:=i64 (c.2.1*8192)
 let wide:=i64 (i64 (Int.tdiv (i64 (Int.tdiv n (i64 (Int.tdiv n c.1)))) 128)*128)
 let sz:=if wide>c.1 then wide else c.1
 (sz,c.2.1,i64 (Int.tdiv n sz),if IntKind.wrap .u32 sz<2 then 0 else IntKind.wrap .u32 (IntKind.wrap .u32 (Int.tdiv 4294967295 (IntKind.wrap .u32 sz))+1))
def SS(c:WK):Bool:=(c.1 !=0)&&((i64 (Int.tdiv (i64 (c.2.1*8192)) c.1) !=0)&&((Cw c).1 !=0&&(decide (IntKind.wrap .u32 (Cw c).1<2)||IntKind.wrap .u32 (Cw c).1 !=0)))
def rounds:Nat:=162
def SU:Lt:=(runAll rounds (Ki 0)).2
def KA:List WK:=match SU.l with
 | []=>[]
 | c::r=>c::r.map Cw
theorem gW:(runAll rounds (Ki 0)).1=true:=by decide+kernel
theorem VJ:SU.size>32768:=by decide+kernel
theorem VK:SU.l.length=68:=by decide+kernel
theorem VL:(SU.l.tail.all SS)=true:=by decide+kernel
theorem Lu:KA.length=68:=by decide+kernel
theorem runs:(∀j,j<rounds->(Ki j).X7=true)/\Ki rounds=SU:=by
 have h:runAll rounds (Ki 0)=(true,SU):=Prod.ext gW rfl;have:=My rounds 0 h;refine⟨fun j d=>by have:=this.1 j d;rwa[Nat.zero_add]at this,by have:=this.2;rwa[Nat.zero_add]at this⟩
structure wK(s:Lt):Prop where
 s0:8<=s.size
 s1:s.size<=32768
 IX:Int.tmod (bytesF s.size 16 8192) s.size<=i64 (Int.tdiv (bytesF s.size 16 8192) 8)
 l0:0<s.l.length
 l1:s.l.length<=200
 sV:8<=F2 s.size s.IX
 sX:F2 s.size s.IX<=10000
 nz:1<s.l.length->s.last.1≠0
theorem Lv{s:Lt}(h:s.X7=true):wK s:=by
 unfold Lt.X7 VI at h;simp only[Bool.and_eq_true,decide_eq_true_eq,Bool.or_eq_true,bne_iff_ne]at h;obtain⟨h1,C,N,v,d,⟨K,j⟩,J⟩:=h;exact⟨h1,C,by omega,v,d,K,j,fun h=>by
  rcases J with g|g
  ·omega
  ·exact g⟩
section
variable{E:Env}{w:World}{Z:List Pr}
theorem OX{n:Int}{K:Bool->World->Prop}(d:K (Qk n) w):F.KP E n K w:=by
 unfold F.KP;unfold Qk at d;refine DE (fun h=> ?_) fun h=> ?_
 ·rw[show(n !=0)=true by simpa using h,Bool.true_and]at d;exact d
 ·subst h;exact d
theorem WL{size j:Int}(h0:8<=size){K:Int->World->Prop}(d:K (F2 size j) w):F.FH E size j K w:=by
 unfold F.FH T0.FH;unfold F2 at d;refine OX ?_;cases hp:Qk (u64 size)
 ·rw[hp,if_pos rfl]at d;exact Ao rfl d
 ·rw[hp,if_neg (by decide)]at d;refine Ab rfl (AE (fun h=> ?_) fun h=>AE (fun v=>⟨by decide,?_⟩) fun v=>AE (fun C=> ?_) fun C=> ?_)
  ·rw[if_pos h]at d;exact d
  ·rw[if_neg h,if_pos v]at d;exact d
  ·rw[if_neg h,if_neg v,if_pos C]at d;exact d
  ·rw[if_neg h,if_neg v,if_neg C]at d;exact d
theorem T3{size:Int}(hs:size≠0)(BH:Int.tmod (bytesF size 16 8192) size<=i64 (Int.tdiv (bytesF size 16 8192) 8)){K:Int->World->Prop}(C:K (bytesF size 16 8192) w):F.Gu E size 8192 K w:=by
 unfold F.Gu;refine AM (fun st w'=>w'=w/\ ∃i:Nat,i<=16/\st.1=8192+i*8192/\bytesF size (16-i) st.1=bytesF size 16 8192) (fun st _=>(200000-st.1).toNat) ⟨rfl,0,by decide,by show(8192:Int)=_;omega,rfl⟩ ?_;rintro⟨n,v⟩ _ T ⟨rfl,i,Y,N,d⟩;dsimp only at N d⊢;refine⟨hs,by decide,AE (fun j=> ?_) fun hle=> ?_⟩
 ·rcases Nat.lt_or_ge i 16 with J|J
  ·obtain⟨k,O⟩: ∃k,16-i=k+1:=⟨15-i,by omega⟩;rw[O]at d;rw[AN (n:=n+8192)];refine⟨⟨by trivial,i+1,by omega,by omega,?_⟩,by omega⟩;rw[<-d,show 16-(i+1)=k by omega];unfold bytesF;rw[if_pos j,AN (n:=n+8192)];cases k<;>rfl
  ·have:i=16:=by omega
   subst this;have:bytesF size 0 n=n:=rfl;rw[show 16-16=0 from rfl,this]at d;rw[<-d]at BH;exact absurd j (by omega)
 ·have:bytesF size (16-i) n=n:=by
   cases h:16-i with
   | zero=>rfl
   | succ k=>unfold bytesF;rw[if_neg (by omega)]
  rw[<-d,this]at C;exact C
theorem T4{n:Int}(v:n<2∨n≠0){K:Int->World->Prop}(d:K (if n<2 then 0 else IntKind.wrap .u32 (IntKind.wrap .u32 (Int.tdiv 4294967295 n)+1)) w):F.Ie E n K w:=by
 unfold F.Ie;refine AE (fun h=> ?_) fun h=>⟨by omega,AY fun x j=> ?_⟩
 ·rw[if_pos h]at d;exact d
 ·rw[if_neg h]at d;rw[j];exact d
theorem SV{L:List WK}(h:0<L.length)(y:WK):L.set (L.length-1) y=L.dropLast++[y]:=by
 apply List.ext_getElem?;intro i;rw[List.getElem?_set];by_cases e:L.length-1=i
 ·subst e;rw[if_pos rfl,if_pos (by omega),List.getElem?_append_right (by rw[List.length_dropLast];omega),List.length_dropLast,Nat.sub_self];rfl
 ·rw[if_neg e];by_cases hl:i<L.length-1
  ·rw[List.getElem?_append_left (by rw[List.length_dropLast];omega),List.getElem?_dropLast,if_pos hl]
  ·rw[List.getElem?_eq_none (by omega),List.getElem?_eq_none (by rw[List.length_append,List.length_dropLast];simp;omega)]
theorem SW{L:List WK}(h:0<L.length):L[L.length-1]? =some (L.getLastD (0,0,0,0)):=by
 rw[List.getLastD_eq_getLast?,List.getLast?_eq_getElem?];rw[List.getElem?_eq_getElem (by omega)];rfl
theorem T5(H:Sat Z w){K:AZ->World->Prop}(hK: ∀s w',Sat (Row E.Al 4 s (BV Fk KA)::Z) w'->K s w'):F.En E K w:=by
 unfold F.En T0.En F.Fx T0.Fx;have p1:Qk (u64 8192)=true:=by decide+kernel
 have p2:Qk (u64 32768)=true:=by decide+kernel
 refine Ax (Ab (by decide) (Ab (by decide) (OX ?_)));rw[p1];refine Ab rfl (Ab (by decide) (Ab (by decide+kernel) (OX ?_)));rw[p2];refine fun j=>Ab rfl ?_;obtain⟨aA,aI⟩:=runs;refine GB (n:=1) (z:=4) H rfl (by decide) fun b8 w9 H9=> ?_;refine AM (fun st w'=> ∃k:Nat,k<=rounds/\st.2.1=(Ki k).IX/\st.2.2.1=(Ki k).size/\Sat (Row E.Al 4 st.1 (BV Fk (Ki k).l)::Z) w') (fun st _=>(40000-st.2.2.1).toNat)
  ⟨0,Nat.zero_le _,rfl,rfl,H9⟩ ?_
 rintro⟨C,IX,size,v⟩ _ bU ⟨k,hk,aJ,aD,J⟩;dsimp only at aJ aD J⊢;have hl:=J.Gd (by decide) Af;refine AE (fun hle=> ?_) fun aS=> ?_
 ·have aM:k<rounds:=by
   rcases Nat.lt_or_eq_of_le hk with g|g
   ·exact g
   ·subst g;rw[aI]at aD;have:=VJ;omega
  have hg:=Lv (aA k aM);rw[aJ,aD];generalize hS:Ki k=S at hg aD aJ J hl⊢;have Y:Ki (k+1)=S.next:=by rw[<-hS];rfl
  have cB:=hg.s0;have bY:=hg.s1;have aX:=hg.l0;have bE:=hg.l1;refine WL hg.s0 (T3 (by omega) hg.IX ?_);have d:=SW aX;obtain⟨b,O⟩:=J.FF (by decide) Af (i:=S.l.length-1) (by omega);rw[O];simp only[AI];rw[AN (n:=((C.len:Nat):Int)-1)];have et:Int.toNat (((C.len:Nat):Int)-1)=S.l.length-1:=by omega
  rw[et];have Hd:=J.drew;have c0:=Hd.B5 Af O d (j:=0) rfl;have c1:=Hd.B5 Af O d (j:=1) rfl;have aK:S.l.getLastD (0,0,0,0)=S.last:=rfl;rw[aK]at c0 c1 d;rw[Nat.add_zero]at c0;have bD:=hg.sV;have bH:=hg.sX;rw[AN (n:=S.size+F2 S.size S.IX)];have aH:S.next.size=S.size+F2 S.size S.IX:=AN;refine⟨⟨by omega,by omega⟩,?_⟩;refine Ak (fun st w'=>st.1=S.same/\Sat (Row E.Al 4 C (BV Fk S.l)::Z) w') ?_ ?_
  ·unfold Lt.same;refine AE (fun h1=>⟨S.last.2.1,by rw[add_add];exact c1,by decide,CO (fun e1=> ?_) fun e1=> ?_⟩) fun h1=> ?_
   ·have d1:decide (1<S.l.length)=true:=decide_eq_true (by omega);have a6:=c0;have a7:=c1;refine⟨S.last.2.1,by rw[add_add];exact a7,S.last.1,a6,hg.nz (by omega),by omega,?_,Hd⟩;rw[d1,e1,beq_self_eq_true,Bool.true_and,Bool.true_and]
   ·refine⟨?_,Hd⟩;rw[show(S.last.2.1==i64 (Int.tdiv (bytesF S.size 16 8192) 8192))=false by simpa using e1];simp
   ·refine⟨?_,Hd⟩;rw[decide_eq_false (by omega)];rfl
  rintro⟨x,v⟩ _ cA ⟨hx,aY⟩;dsimp only at hx;subst hx;refine AR (fun e=> ?_) fun e=>⟨by decide,?_⟩
  ·have hs:=Hc aY (j:=(S.l.length-1)*4) (v:=.int .i64 S.size) (K:=fun aZ=>(∃k:Nat,k<=rounds/\F2 S.size S.IX=(Ki k).IX/\S.size+F2 S.size S.IX=(Ki k).size/\Sat (Row E.Al 4 C (BV Fk (Ki k).l)::Z) aZ)/\(40000-(S.size+F2 S.size S.IX)).toNat<(40000-S.size).toNat) rfl (by rw[DJ Af];omega) O fun aZ aO=>⟨⟨k+1,by omega,by rw[Y];rfl,by rw[Y];exact aH.symm,?_⟩,by omega⟩
   ·exact hs
   ·have:=GL Af d (j:=0) (y:=(S.size,S.last.2)) (v:=.int .i64 S.size) (by decide) rfl;rw[Nat.add_zero]at this;rw[this,SV aX]at aO;rw[Y];unfold Lt.next;rw[if_pos e];exact aO
  ·refine Am aY fun b6 bR a9 _=> ?_;refine IE (news:=Fk (S.size,i64 (Int.tdiv (bytesF S.size 16 8192) 8192),0,0)) a9 rfl rfl (SR _) (by omega) (by omega) fun bO bT aR _=>⟨⟨k+1,by omega,by rw[Y];rfl,by rw[Y];exact aH.symm,?_⟩,by omega⟩;have e1:BV Fk S.l++Fk (S.size,i64 (Int.tdiv (bytesF S.size 16 8192) 8192),0,0)=BV Fk (S.l++[(S.size,i64 (Int.tdiv (bytesF S.size 16 8192) 8192),0,0)]):=by rw[HB];simp[BV]
   rw[e1]at aR;rw[Y];unfold Lt.next;rw[if_neg (show ¬S.same=true from fun h=>by have e':S.same=false:=e;rw[e']at h;cases h)];exact aR
 ·have aM:k=rounds:=by
   rcases Nat.lt_or_eq_of_le hk with g|g
   ·have:=(Lv (aA k g)).s1;omega
   ·exact g
  subst aM;rw[aI]at J hl;have hlen:=VK;cases hL:SU.l with
  | nil=>rw[hL]at hlen;cases hlen
  | cons c0 T=>
   rw[hL]at J hl hlen;have hT:T.length=67:=by simpa using hlen
   have a0: ∀i c,T[i]? =some c->SS c=true:=fun i c hc=>by
    have:=VL;rw[hL]at this;exact List.all_eq_true.1 this c (List.mem_of_getElem? hc)
   have aT:KA=c0::T.map Cw:=by unfold KA;rw[hL]
   refine⟨⟨by decide,by omega⟩,?_⟩;refine AM (fun st w'=> ∃i:Nat,st.1=(i:Int)/\i<=67/\Sat (Row E.Al 4 C (BV Fk (c0::((T.take i).map Cw++T.drop i)))::Z) w') (fun st _=>(67-st.1).toNat) ⟨0,rfl,by decide,J⟩ ?_;rintro⟨i',v⟩ _ a8 ⟨i,hi,bK,N⟩;dsimp only at hi⊢;subst hi;refine AE (fun b9=> ?_) fun bQ=> ?_
   ·have bV:i<67:=by omega
    obtain⟨c,hc⟩: ∃c,T[i]? =some c:=⟨_,List.getElem?_eq_getElem (by omega)⟩;have BH:=a0 i c hc;unfold SS at BH;simp only[Bool.and_eq_true,Bool.or_eq_true,decide_eq_true_eq,bne_iff_ne]at BH;obtain⟨o1,o2,o3,o4⟩:=BH;rw[AN (n:=(i:Int)+1)];have et:Int.toNat ((i:Int)+1)=i+1:=by omega
    rw[et];generalize hF:(c0::((T.take i).map Cw++T.drop i))=FX at N;have b1:FX.length=68:=by rw[<-hF];simp[List.length_take,List.length_drop];omega
    have aF:FX[i+1]? =some c:=by
     rw[<-hF,List.getElem?_cons_succ,List.getElem?_append_right (by rw[List.length_map,List.length_take];omega),List.length_map,List.length_take,Nat.min_eq_left (by omega),Nat.sub_self,List.getElem?_drop,Nat.add_zero];exact hc
    have a5:FX.set (i+1) (Cw c)=c0::((T.take (i+1)).map Cw++T.drop (i+1)):=by
     rw[<-hF,List.set_cons_succ];congr 1;have bB:c=T[i]:=by rw[List.getElem?_eq_getElem (by omega)]at hc;exact(Option.some.inj hc).symm
     rw[List.set_append_right _ _ (by rw[List.length_map,List.length_take];omega),List.length_map,List.length_take,Nat.min_eq_left (by omega),Nat.sub_self,List.take_succ_eq_append_getElem (by omega),List.map_append,List.drop_eq_getElem_cons (by omega),List.set_cons_zero,List.append_assoc,bB];rfl
    obtain⟨b,O⟩:=N.FF (by decide) Af (i:=i+1) (by omega);rw[O];simp only[AI];have d0:=N.B5 Af O aF (j:=0) rfl;have d1:=N.B5 Af O aF (j:=1) rfl;rw[Nat.add_zero]at d0;refine⟨⟨by omega,by omega⟩,c.2.1,by rw[add_add];exact d1,?_⟩;refine Ak (fun _ w'=>Sat (Row E.Al 4 C (BV Fk (FX.set (i+1) ((Cw c).1,c.2)))::Z) w') ?_ ?_
    ·refine⟨c.1,d0,o1,o2,by decide,AY fun wide aB=>⟨c.1,d0,AE (fun aS=> ?_) fun bC=> ?_⟩⟩
     ·have e1:(Cw c).1=wide:=by unfold Cw;dsimp only;rw[<-aB,if_pos aS]
      refine Hc N (j:=(i+1)*4) rfl (by rw[DJ Af];omega) O fun a3 aW=> ?_;have:=GL Af aF (j:=0) (y:=(wide,c.2)) (v:=.int .i64 wide) (by decide) rfl;rw[Nat.add_zero]at this;rw[this]at aW;show Sat (Row E.Al 4 C (BV Fk (FX.set (i+1) ((Cw c).1,c.2)))::Z) a3;rw[e1];exact aW
     ·have e1:(Cw c).1=c.1:=by unfold Cw;dsimp only;rw[<-aB,if_neg bC]
      show Sat (Row E.Al 4 C (BV Fk (FX.set (i+1) ((Cw c).1,c.2)))::Z) a8;rw[e1];have:FX.set (i+1) (c.1,c.2)=FX:=by
       have:=List.getElem?_eq_some_iff.1 aF;rw[show(c.1,c.2)=FX[i+1]from this.2.symm,List.set_getElem_self]
      rw[this];exact N
    rintro _ _ b7 aU;have g1:(FX.set (i+1) ((Cw c).1,c.2))[i+1]? =some ((Cw c).1,c.2):=by rw[List.getElem?_set_self (by omega)]
    have f0:=aU.B5 Af O g1 (j:=0) rfl;rw[Nat.add_zero]at f0;have aE:i64 (Int.tdiv (i64 (c.2.1*8192)) (Cw c).1)=(Cw c).2.2.1:=rfl;refine⟨(Cw c).1,f0,o3,?_⟩;rw[aE,add_add];refine Hc aU (j:=(i+1)*4+2) rfl (by rw[DJ Af,List.length_set];omega) O fun b3 aL=> ?_;have:=GL Af g1 (j:=2) (y:=((Cw c).1,c.2.1,(Cw c).2.2.1,c.2.2.2)) (v:=.int .i64 (Cw c).2.2.1) (by decide) rfl;rw[this,List.set_set]at aL;have g2:(FX.set (i+1) ((Cw c).1,c.2.1,(Cw c).2.2.1,c.2.2.2))[i+1]? =some ((Cw c).1,c.2.1,(Cw c).2.2.1,c.2.2.2):=by rw[List.getElem?_set_self (by omega)]
    have aV:=aL.B5 Af O g2 (j:=0) rfl;rw[Nat.add_zero]at aV;refine⟨(Cw c).1,aV,T4 o4 ?_⟩;have a1:(if IntKind.wrap .u32 (Cw c).1<2 then(0:Int)else IntKind.wrap .u32 (IntKind.wrap .u32 (Int.tdiv 4294967295 (IntKind.wrap .u32 (Cw c).1))+1))=(Cw c).2.2.2:=rfl;rw[a1,add_add];refine Hc aL (j:=(i+1)*4+3) rfl (by rw[DJ Af,List.length_set];omega) O fun b2 aP=>⟨⟨i+1,by omega,by omega,?_⟩,by omega⟩;have h3:=GL Af g2 (j:=3) (y:=Cw c) (v:=.int .u32 (Cw c).2.2.2) (by decide) rfl;rw[h3,List.set_set,a5]at aP;exact aP
   ·have a4:i=67:=by omega
    subst a4;rw[<-hT,List.take_length,List.drop_length,List.append_nil,<-aT]at N;exact hK _ _ N
end
end Go.Sh
set_option linter.all false
set_option maxRecDepth 4000
set_option maxHeartbeats 1000000
namespace Go.Sh
structure SI where
 base:Int
 AA:Int
 state:Int
 cls:Int
 Hl:Bool
 elem:Int
 Bs:Int
 used:Int
 f8:Bool
 f9:Bool
 lS:Int
 uw:List Int
 mw:List Int
 look:Int
def Lw(S:SI)(d sm:AZ):List Value:=[.int .u64 S.base,.int .i64 S.AA,.int .i64 S.state,.int .i64 S.cls,.bool S.Hl,.int .i64 S.elem,.int .i64 S.Bs,.int .i64 S.used,.bool S.f8,.bool S.f9,.int .u32 S.lS,HU d,HU sm,.int .i64 S.look]
def bI(E:Env)(b:Nat)(S:SI)(d sm:AZ):List Pr:=[Cells b E.Gt (Lw S d sm),Row E.AH 1 d (ints .u64 S.uw),Row E.AH 1 sm (ints .u64 S.mw)]
def GQ(E:Env)(b:Nat)(S:SI):Pr:=Ex fun x:AZ×AZ=>N9 (bI E b S x.1 x.2)
def Dp(c:Int):WK:=KA.getD c.toNat (0,0,0,0)
def D5(page AA c:Int):Prop:=AA=0∨34359738368<page∨34359738368-page<AA∨c<0∨68<=c∨(c=0/\134217728<AA)∨(0<c/\AA≠(Dp c).2.1)
def K8(page AA c:Int)(Hl:Bool):SI:=⟨page*8192,AA,1,c,Hl,if c=0 then AA*8192 else(Dp c).1,if c=0 then 1 else(Dp c).2.2.1,0,false,false,(Dp c).2.2.2,[],[],0⟩
theorem WM:(KA.all fun c=>decide (0<=c.2.1)&&decide (c.2.1<=100))=true:=by decide+kernel
theorem K9{c:Int}(h0:0<=c)(h1:c<68):KA[c.toNat]? =some (Dp c):=by
 have d:c.toNat<KA.length:=by rw[Lu];omega
 unfold Dp;rw[List.getD_eq_getElem?_getD,List.getElem?_eq_getElem d];rfl
theorem I4{c:Int}(h0:0<=c)(h1:c<68):0<=(Dp c).2.1/\(Dp c).2.1<=100:=by
 have:=List.all_eq_true.1 WM _ (List.mem_of_getElem? (K9 h0 h1));simpa using this
section
variable{E:Env}{b:Nat}{S:SI}{Z:List Pr}{w:World}
theorem Sat.span:Sat (GQ E b S::Z) w↔ ∃d sm,Sat (bI E b S d sm++Z) w:=by
 unfold GQ;rw[Sat.ex];constructor
 ·rintro⟨⟨d,sm⟩,h⟩;exact⟨d,sm,Sat.star.1 h⟩
 ·rintro⟨d,sm,h⟩;exact⟨⟨d,sm⟩,Sat.star.2 h⟩
theorem OY(H:Sat Z w){page AA c:Int}{np:Bool}(h0:0<=page)(p0:0<=AA)(p1:AA<18446744073709551616){K:Option Addr->Int->World->Prop}
  (aS:D5 page AA c-> ∀w',Sat Z w'->K none 1 w')(aP: ¬D5 page AA c-> ∀b w',Sat (GQ E b (K8 page AA c np)::Z) w'->K (some ⟨b,0,none⟩) 0 w'):F.Gv E page AA c np K w:=by
 unfold F.Gv T0.Gv;refine T5 H fun J w2 H2=> ?_;have hl:=H2.Gd (by decide) Af;rw[Lu]at hl;have ct:0<=c->c<68-> ∃x,J.base=some ⟨x,0,none⟩/\ ∀{w'} {Y:List Pr},Sat (Row E.Al 4 J (BV Fk KA)::Y) w'->w'.cell? ((Addr.mk x 0 none).add (Int.toNat c*4))=some (.int .i64 (Dp c).1)/\w'.cell? (((Addr.mk x 0 none).add (Int.toNat c*4)).add 1)=some (.int .i64 (Dp c).2.1)/\
   w'.cell? (((Addr.mk x 0 none).add (Int.toNat c*4)).add 2)=some (.int .i64 (Dp c).2.2.1)/\w'.cell? (((Addr.mk x 0 none).add (Int.toNat c*4)).add 3)=some (.int .u32 (Dp c).2.2.2):=fun c0 c1=>by
  obtain⟨x,N⟩:=H2.FF (by decide) Af (i:=c.toNat) (by rw[Lu];omega);refine⟨x,N,fun h=>⟨?_,?_,?_,?_⟩⟩
  ·have:=h.B5 Af N (K9 c0 c1) (j:=0) rfl;rwa[Nat.add_zero]at this
  ·rw[add_add];exact h.B5 Af N (K9 c0 c1) (j:=1) rfl
  ·rw[add_add];exact h.B5 Af N (K9 c0 c1) (j:=2) rfl
  ·rw[add_add];exact h.B5 Af N (K9 c0 c1) (j:=3) rfl
 have d:D5 page AA c->K none 1 w2:=fun h=>aS h w2 H2.tail;have main: ¬D5 page AA c->
   NC J.base fun aH=>
   ((0:Int)<=c/\(c:Int)<(J.len:Nat))/\
   ∃aD:Int,w2.drew.cell? (aH.add (Int.toNat c*4))=some (.int .i64 aD)/\
   NC J.base fun aK=>
   ((0:Int)<=c/\(c:Int)<(J.len:Nat))/\
   ∃aC:Int,w2.drew.cell? ((aK.add (Int.toNat c*4)).add 2)=some (.int .i64 aC)/\
   NC J.base fun aL=>
   ((0:Int)<=c/\(c:Int)<(J.len:Nat))/\
   ∃aB:Int,w2.drew.cell? ((aL.add (Int.toNat c*4)).add 3)=some (.int .u32 aB)/\
   AL (.cells #[.int .u64 (u64 (page*8192)),.int .i64 (i64 (AA)),.int .i64 1,.int .i64 c,.bool np,.int .i64 aD,.int .i64 aC,.int .i64 0,.bool false,.bool false,.int .u32 aB,.slice none 0 0,.slice none 0 0,.int .i64 0] E.Gt) w2.drew fun v C=>
   C.cell? ((aL.add (Int.toNat c*4)).add 3)=some (.int .u32 aB)/\
   C.cell? ((aK.add (Int.toNat c*4)).add 2)=some (.int .i64 aC)/\
   C.cell? (aH.add (Int.toNat c*4))=some (.int .i64 aD)/\
   CND ((c:Int)==0) (
    stCells ((Addr.mk v 0 none).add 5) 0 [.int .i64 (i64 ((i64 (AA))*8192))] C fun aG=>
    stCells ((Addr.mk v 0 none).add 6) 0 [.int .i64 1] aG fun aM=>
    K (some (Addr.mk v 0 none)) 0 aM
   ) (
    K (some (Addr.mk v 0 none)) 0 C
   ):=fun aJ=>by
  have O:=aJ;unfold D5 at O;have c0:0<=c:=by omega
  have c1:c<68:=by omega
  have aO:=I4 c0 c1;have a1:AA<=134217728:=by
   by_cases e:c=0
   ·omega
   ·have:AA=(Dp c).2.1:=Classical.byContradiction fun h=>O (.inr (.inr (.inr (.inr (.inr (.inr ⟨by omega,h⟩))))));omega
  obtain⟨x,N,CC⟩:=ct c0 c1;have Hd:=H2.drew;obtain⟨d0,d1,d2,d3⟩:=CC Hd;have T:(0:Int)<=c/\(c:Int)<(J.len:Nat):=by omega
  rw[N];simp only[AI];refine⟨T,_,d0,T,_,d2,T,_,d3,?_⟩;rw[AG (n:=page*8192),AN (n:=AA),AN (n:=AA*8192)];refine Am (vs:=[.int .u64 (page*8192),.int .i64 AA,.int .i64 1,.int .i64 c,.bool np,.int .i64 (Dp c).1,.int .i64 (Dp c).2.2.1,.int .i64 0,.bool false,.bool false,.int .u32 (Dp c).2.2.2,.slice none 0 0,.slice none 0 0,.int .i64 0]) Hd fun v C aA _=> ?_;obtain⟨f0,f1,f2,f3⟩:=CC (aA.front 1 rfl);have fin: ∀{w'} {el sl:Int},el=(if c=0 then AA*8192 else(Dp c).1)->sl=(if c=0 then 1 else(Dp c).2.2.1)->
    Sat (Cells v E.Gt [.int .u64 (page*8192),.int .i64 AA,.int .i64 1,.int .i64 c,.bool np,.int .i64 el,.int .i64 sl,.int .i64 0,.bool false,.bool false,.int .u32 (Dp c).2.2.2,.slice none 0 0,.slice none 0 0,.int .i64 0]::Row E.Al 4 J (BV Fk KA)::Z) w'->K (some ⟨v,0,none⟩) 0 w':=fun e1 e2 h=>by
   subst e1;subst e2;refine aP aJ v _ (Sat.span.2 ⟨⟨none,0,0⟩,⟨none,0,0⟩,?_⟩);have h1:=(h.front 1 rfl).tail;have h2:=h1.nil E.AH 1;have h3:=h2.nil E.AH 1;exact h3.perm ((List.reverse_perm [_,_,_]).symm.append_right Z)
  refine⟨f3,f2,f0,CO (fun e=> ?_) fun e=>fin (by rw[if_neg e]) (by rw[if_neg e]) aA⟩;refine Aj aA (o:=0) (m:=5) rfl (by simp) fun aG aQ=>Aj aQ (o:=0) (m:=6) rfl (by simp) fun aM aR=>fin (by rw[if_pos e]) (by rw[if_pos e]) aR
 refine Ax (CO (fun e j=>Ao rfl (d (.inl e))) fun n1=>AE (fun e j=>Ao rfl (d (.inr (.inl (by omega))))) fun n2=> ?_);rw[AG (n:=34359738368-page)];refine AE (fun e j=>Ao rfl (d (.inr (.inr (.inl (by omega)))))) fun n3=>AE (fun e j=>Ao rfl (d (.inr (.inr (.inr (.inl e)))))) fun n4=>AE (fun e j=>Ao rfl (d (.inr (.inr (.inr (.inr (.inl (by omega)))))))) fun n5=>CO (fun e0=>AE (fun e j=>Ao rfl (d (.inr (.inr (.inr (.inr (.inr (.inl ⟨e0,by omega⟩)))))))) fun n6=>AE (fun e=>by omega) fun n7 j=>Ab rfl (main ?_)) fun e0=>AE (fun e=> ?_) fun n7=>by omega
 ·unfold D5;omega
 ·obtain⟨x,N,CC⟩:=ct (by omega) (by omega);have aO:=I4 (c:=c) (by omega) (by omega);have aN:=(CC H2).2.1;have m':=main;rw[N]at m'⊢;simp only[AI]at m'⊢;refine⟨⟨by omega,by omega⟩,_,aN,fun j=> ?_⟩;rw[AG (n:=(Dp c).2.1)];refine DE (fun h=>d (.inr (.inr (.inr (.inr (.inr (.inr ⟨by omega,h⟩))))))) fun h=>m' ?_;unfold D5;omega
theorem Mz(H:Sat (GQ E b S::Z) w){K:Int->Int->Int->Int->Bool->Int->Int->Int->Bool->Bool->World->Prop}(C: ∀w',Sat (GQ E b S::Z) w'->K S.base S.AA S.state S.cls S.Hl S.elem S.Bs S.used S.f8 S.f9 w'):
  F.EH E (some ⟨b,0,none⟩) K w:=by
 obtain⟨J,sm,H⟩:=Sat.span.1 H;unfold F.EH;simp only[AI];refine Am (vs:=[.int .u64 0,.int .i64 0,.int .i64 0,.int .i64 0,.bool false,.int .i64 0,.int .i64 0,.int .i64 0,.bool false,.bool false]) H fun b1 N v _=> ?_;have h:=v.front 1 rfl;refine⟨_,h.cell rfl,_,h.cell rfl,_,h.cell rfl,_,h.cell rfl,_,h.cell rfl,_,h.cell rfl,_,h.cell rfl,_,h.cell rfl,_,h.cell rfl,_,h.cell rfl,?_⟩;refine Jg (news:=[.int .u64 S.base,.int .i64 S.AA,.int .i64 S.state,.int .i64 S.cls,.bool S.Hl,.int .i64 S.elem,.int .i64 S.Bs,.int .i64 S.used,.bool S.f8,.bool S.f9]) v rfl (by simp[Value.oneCell']) fun j d=> ?_;exact⟨_,d.cell rfl,_,d.cell rfl,_,d.cell rfl,_,d.cell rfl,_,d.cell rfl,_,d.cell rfl,_,d.cell rfl,_,d.cell rfl,_,d.cell rfl,_,d.cell rfl,C j (Sat.span.2 ⟨J,sm,d.tail⟩)⟩
theorem T6(H:Sat (GQ E b S::Z) w){K:Int->World->Prop}(d:(S.state=0∨0<S.used)->K 33 w)
  (v: ¬(S.state=0∨0<S.used)-> ∀w',Sat (GQ E b {S with state:=0,used:=0,uw:=[],mw:=[]}::Z) w'->K 0 w'):F.Fj E (some ⟨b,0,none⟩) K w:=by
 obtain⟨su,sm,H⟩:=Sat.span.1 H;unfold F.Fj;simp only[AI];refine Ax ⟨_,H.cell rfl,CO (fun e j=>Ao rfl (d (.inl e))) fun n1=>⟨_,H.cell rfl,fun j=>AE (fun e=>d (.inr e)) fun n2=> ?_⟩⟩;refine Aj H (o:=0) (m:=2) rfl (by simp[Lw]) fun w1 H1=>Aj H1 (o:=0) (m:=7) rfl (by simp[Lw]) fun w2 N=>Aj N (o:=0) (m:=11) rfl (by simp[Lw]) fun w3 J=>Aj J (o:=0) (m:=12) rfl (by simp[Lw]) fun C T=>v (by omega) C (Sat.span.2 ⟨⟨none,0,0⟩,⟨none,0,0⟩,?_⟩);have h1:=(T.front 1 rfl).tail;have Y:=(h1.front 1 rfl).tail;have O:=Y.nil E.AH 1;have h4:=O.nil E.AH 1;exact h4.perm ((List.reverse_perm [_,_,_]).symm.append_right Z)
end
end Go.Sh

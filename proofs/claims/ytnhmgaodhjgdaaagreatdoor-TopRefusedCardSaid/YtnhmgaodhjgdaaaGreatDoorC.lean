/- Records, classes and spans do what they say. No further condition. -/
import Derived.Test.YtnhmgaodhjgdaaaGreatDoorA
import Derived.Test.YtnhmgaodhjgdaaaGreatDoorM
import Derived.Test.YtnhmgaodhjgdaaaGreatDoorY
import Derived.Test.YtnhmgaodhjgdaaaGreatDoorF
import Derived.Test.YtnhmgaodhjgdaaaGreatDoorSh
set_option linter.all false
set_option maxRecDepth 50000
set_option maxHeartbeats 2000000
namespace Go.Sh
section
variable{α:Type}{f:α->List Value}{z:Nat}
def DI(f:α->List Value)(L:List α):List Value:=L.flatMap f
def KG(x:α)(L:List α):DI f (x::L)=f x++DI f L:=by simp[DI]
def Q4(L M:List α):DI f (L++M)=DI f L++DI f M:=by simp[DI]
def Md(a: ∀x,(f x).length=z): ∀L:List α,(DI f L).length=L.length*z
 | []=>by simp[DI]
 | x::r=>by rw[KG,List.length_append,Md a r,a,List.length_cons,Nat.succ_mul];omega
def ZD(a: ∀x,(f x).length=z): ∀{L:List α} {i:Nat} {x:α} {j:Nat} {v:Value},L[i]? =some x->(f x)[j]? =some v->(DI f L)[i*z+j]? =some v
 | y::r,0,x,j,v,h,hj=>by
  have h:y=x:=Option.some.inj h;subst h;have:=(List.getElem?_eq_some_iff.1 hj).1;rw[KG,Nat.zero_mul,Nat.zero_add,List.getElem?_append_left this];exact hj
 | y::r,i+1,x,j,v,h,hj=>by
  rw[KG,Nat.succ_mul,List.getElem?_append_right (by grind),a,show i*z+z+j-z=i*z+j by omega];exact ZD a (L:=r) h hj
def pE(ho: ∀x,∀v∈f x,v.oneCell'=true)(L:List α): ∀v∈DI f L,v.oneCell'=true:=by
 intro v a;simp only[DI,List.mem_flatMap]at a
 grind
def OJ(a: ∀x,(f x).length=z): ∀{L:List α} {i:Nat} {x y:α} {j:Nat} {v:Value},L[i]? =some x->j<z->(f x).set j v=f y->(DI f L).set (i*z+j) v=DI f (L.set i y)
 | c::r,0,x,y,j,v,h,hj,he=>by
  have h:c=x:=Option.some.inj h;subst h;rw[KG,Nat.zero_mul,Nat.zero_add,List.set_append_left _ _ (by rw[a];exact hj),he,List.set_cons_zero,KG]
 | c::r,i+1,x,y,j,v,h,hj,he=>by
  rw[KG,List.set_cons_succ,KG,Nat.succ_mul,List.set_append_right _ _ (by grind),a,show i*z+z+j-z=i*z+j by omega,OJ a (L:=r) h hj he]
def pos(key:α->Int):List α->Int->Nat
 | [],_=>0
 | c::r,n=>if key c<n then pos key r n+1 else 0
def Lp(key:α->Int)(L:List α):Prop:=L.Pairwise λa b=>key a<key b
variable{key:α->Int}
def cC: ∀(L:List α) (n:Int),pos key L n<=L.length
 | [],_=>Nat.le_refl _
 | c::r,n=>by simp only[pos];split;exact Nat.succ_le_succ (cC r n);omega
def M1: ∀{L:List α} {n:Int} {j:Nat} {c:α},L[j]? =some c->j<pos key L n->key c<n
 | c::r,n,0,x,h,hj=>by
  have h:c=x:=Option.some.inj h;subst h;simp only[pos]at hj;grind
 | c::r,n,j+1,x,h,hj=>by
  simp only[pos]at hj;split at hj
  .exact M1 (L:=r) h (by omega)
  .omega
def pos_at: ∀{L:List α} {n:Int} {c:α},L[pos key L n]? =some c->n<=key c
 | c::r,n,x,h=>by
  simp only[pos]at h;split at h
  .exact pos_at (L:=r) h
  .have h:c=x:=Option.some.inj h
   grind
def Lp.lt{L:List α}(m:Lp key L){i j:Nat}{a b:α}(hi:L[i]? =some a)(e:L[j]? =some b)(h:i<j):key a<key b:=by
 have h1:=(List.getElem?_eq_some_iff.1 hi);have d:=(List.getElem?_eq_some_iff.1 e);have:=List.pairwise_iff_getElem.1 m i j h1.1 d.1 h
 grind
def V8{L:List α}(m:Lp key L){n:Int}{j:Nat}{c:α}(h:L[j]? =some c)(e:pos key L n<=j):n<=key c:=by
 have u:=(List.getElem?_eq_some_iff.1 h).1;have d:=List.getElem?_eq_getElem (show pos key L n<L.length by omega);have h1:=pos_at d;rcases Nat.lt_or_eq_of_le e with a|a
 .have:=m.lt d h a;omega
 grind
def gP{L:List α}(u:Lp key L){n:Int}{c:α}(m:c∈L)(K:key c=n):L[pos key L n]? =some c:=by
 obtain⟨j,a⟩:=List.mem_iff_getElem?.1 m;rcases Nat.lt_or_ge j (pos key L n)with h|h
 .have:=M1 a h;omega
 .have J:=(List.getElem?_eq_some_iff.1 a).1;rcases Nat.lt_or_eq_of_le h with d|d
  .have e:=List.getElem?_eq_getElem (show pos key L n<L.length by omega);have:=pos_at e;have v:=u.lt e a d;omega
  grind
def Lp.take{L:List α}(a:Lp key L)(i:Nat):Lp key (L.take i):=List.Pairwise.sublist (List.take_sublist _ _) a
def Lp.drop{L:List α}(a:Lp key L)(i:Nat):Lp key (L.drop i):=List.Pairwise.sublist (List.drop_sublist _ _) a
def Lp.filter{L:List α}(a:Lp key L)(p:α->Bool):Lp key (L.filter p):=List.Pairwise.sublist List.filter_sublist a
def XK{L:List α}{n:Int}{c:α}(d:c∈L.take (pos key L n)):c∈L/\key c<n:=by
 obtain⟨j,a⟩:=List.mem_iff_getElem?.1 d;rw[List.getElem?_take]at a;split at a
 .rename_i h;exact⟨List.mem_of_getElem? a,M1 a h⟩
 .cases a
def XL{L:List α}(e:Lp key L){n:Int}{c:α}(d:c∈L.drop (pos key L n)):c∈L/\n<=key c:=by
 obtain⟨j,a⟩:=List.mem_iff_getElem?.1 d;rw[List.getElem?_drop]at a;exact⟨List.mem_of_getElem? a,V8 e a (by omega)⟩
def Lp.mid{L M N:List α}(m:Lp key L)(u:Lp key M)(v:Lp key N){a b:Int}(J:a<=b)(h1: ∀c∈L,key c<a)(e: ∀c∈M,a<=key c/\key c<b)(O: ∀c∈N,b<=key c):Lp key (L++M++N):=by
 unfold Lp;rw[List.append_assoc,List.pairwise_append,List.pairwise_append];refine⟨m,⟨u,v,λx d y K=> ?_⟩,λx d y K=> ?_⟩
 .have:=(e x d).2;grind
 .have:=h1 x d
  grind
end
section
variable{α:Type}{f:α->List Value}{z t:Nat}{F:List Pr}{w:World}{s:AW}{L:List α}
def Sat.JJ(hz:0<z)(a: ∀x,(f x).length=z)(H:Sat (Row t z s (DI f L)::F) w):L.length=s.len/\s.len<=s.cap/\s.cap<9223372036854775808:=by
 have h:=H.Bs;rw[Md a]at h;exact⟨Nat.eq_of_mul_eq_mul_right hz h,H.own.cap,H.own.top⟩
def Sat.L9(hz:0<z)(a: ∀x,(f x).length=z)(H:Sat (Row t z s (DI f L)::F) w){i:Nat}(hi:i<L.length): ∃b,s.base=some ⟨b,0,none⟩:=
 H.own.Gj (by have:=H.JJ hz a;omega)
def Sat.Gk(e: ∀x,(f x).length=z)(H:Sat (Row t z s (DI f L)::F) w){a:Addr}(d:s.base=some a){i:Nat}{x:α}(hi:L[i]? =some x){j:Nat}{v:Value}(m:(f x)[j]? =some v):w.cell? (a.add (i*z+j))=some v:=
 H.own.cell d (ZD e hi m)
def XM: ∀(news:List Value) {vs:List Value} {w:World} (o i:Nat),Sat (Row t z s vs::F) w->o+i+news.length<=vs.length->(∀v∈news,v.oneCell'=true)-> ∀{a:Addr},s.base=some a-> ∀{K:World->Prop},
  (∀w',Sat (Row t z s (vs.take (o+i)++news++vs.drop (o+i+news.length))::F) w'->K w')->stCells (a.add o) i news w K
 | [],vs,w,o,i,H,hl,ho,a,ha,K,hK=>by
  refine hK w ?_;simpa using H
 | v::r,vs,w,o,i,H,hl,ho,a,ha,K,hK=>by
  have d:o+i<vs.length:=by grind
  have h1:=Km H (j:=o+i) (v:=v) (ho v (by simp)) d ha (K:=λw'=>stCells (a.add o) (i+1) r w' K) λw' m=>XM r o (i+1) m (by grind) (λu hu=>ho u (by simp[hu])) ha λe J=>hK e ?_
  .simp only[stCells,add_zero]at h1⊢;rw[add_add];exact h1
  .have:(vs.set (o+i) v).take (o+(i+1))++r++(vs.set (o+i) v).drop (o+(i+1)+r.length)=vs.take (o+i)++(v::r)++vs.drop (o+i+(v::r).length):=by
    rw[show o+(i+1)=o+i+1 from by omega,List.take_set,List.take_succ_eq_append_getElem d,List.set_append_right _ _ (by simp;omega)];simp only[List.length_take,Nat.min_eq_left (Nat.le_of_lt d),Nat.sub_self,List.set_cons_zero,List.append_assoc,List.singleton_append,List.length_cons,List.cons_append];congr 2;rw[List.drop_set_of_lt (by omega),show o+i+1+r.length=o+i+(r.length+1)from by omega];simp
   grind
end
structure FX where
 n:Nat
 bk:List Nat
def afterL:List Nat->Nat->Option Nat
 | [],_=>none
 | a::r,i=>if a=i then r.head? else afterL r i
def Uc(R:Nat->Nat)(x:Option Nat):Option Addr:=x.map λi=>⟨R i,0,none⟩
def recC(E:Env)(R:Nat->Nat)(bk:List Nat)(i:Nat):Pr:=Cells (R i) E.GK [.int .i64 ((i:Int)+1),.bool (!bk.contains i),.pointer (Uc R (afterL bk i))]
structure FInv(X:FX):Prop where
 nd:X.bk.Nodup
 lt: ∀i∈X.bk,i<X.n
 NN:X.n<=1099511627776
def pF(E:Env)(b:Nat)(X:FX)(s:AW)(R:Nat->Nat)(c:Int):List Pr:=
 [Cells b E.LB [.int .i64 1,FJ s,.pointer (Uc R X.bk.head?),.int .i64 c],Row E.Fa 1 s ((List.range X.n).map λi=>.pointer (some ⟨R i,0,none⟩)),Al (recC E R X.bk) (List.range X.n)]
def Gi(E:Env)(b:Nat)(X:FX):Pr:=Ex λx:AW×(Nat->Nat)×Int=>KR (FInv X) (S5 (pF E b X x.1 x.2.1 x.2.2))
section
variable{E:Env}{b:Nat}{X:FX}{Z:List Pr}{w:World}{s:AW}{R:Nat->Nat}{c:Int}
def Sat.fix:Sat (Gi E b X::Z) w↔ ∃s R c,FInv X/\Sat (pF E b X s R c++Z) w:=by
 unfold Gi;rw[Sat.ex];constructor
 .rintro⟨⟨s,R,c⟩,h⟩;rw[Sat.where,Sat.star]at h
  grind
 .rintro⟨s,R,c,h1,a⟩;refine⟨⟨s,R,c⟩,?_⟩;rw[Sat.where,Sat.star]
  grind
def kP(H:Sat Z w){K:Option Addr->Int->World->Prop}(e: ∀b w',Sat (Gi E b ⟨0,[]⟩::Z) w'->K (some ⟨b,0,none⟩) 0 w'):F.TP E 1 K w:=by
 unfold F.TP;refine AZ (AO (by decide) λj=>AO (by decide) ?_);refine AJ (vs:=[.int .i64 1,.slice none 0 0,.pointer none,.int .i64 0]) H λb w' a _=>e b w' (Sat.fix.2 ⟨⟨none,0,0⟩,λ_=>0,0,⟨.nil,λi h=>(by cases h),by decide⟩,?_⟩);have h1:=a.nil E.Fa 1;have d:Sat (Al (recC E (λ_=>0) []) []::_) w':=h1.Mr (recC E (λ_=>0) []);exact d.perm ((List.reverse_perm [_,_,_]).symm.append_right Z)
def V9{l:List Nat}{i:Nat}(h:i∉l):afterL l i=none:=by
 induction l with
 | nil=>rfl
 | cons a r ih=>
  unfold afterL
  grind
def Ud{n a x:Nat}(e:a<n)(d:x∈(List.range n).eraseIdx a):x≠a:=by
 obtain⟨i,hi⟩:=List.mem_iff_getElem?.1 d;rw[List.getElem?_eraseIdx]at hi;split at hi
 .rename_i h;rw[List.getElem?_range (by omega)]at hi;cases hi;omega
 .rename_i h;have m:=(List.getElem?_eq_some_iff.1 hi).1
  grind
def cD(H:Sat (Gi E b X::Z) w)(aV:X.n<1099511627776){K:Int->World->Prop}
  (aO:X.bk=[]-> ∀w',Sat (Gi E b ⟨X.n+1,[]⟩::Z) w'->K ((X.n:Int)+1) w')
  (aP: ∀a r,X.bk=a::r-> ∀w',Sat (Gi E b ⟨X.n,r⟩::Z) w'->K ((a:Int)+1) w'):F.Ky E (some ⟨b,0,none⟩) K w:=by
 obtain⟨s,R,c,hI,H⟩:=Sat.fix.1 H;unfold F.Ky;simp only[AK];refine⟨_,H.cell rfl,?_⟩;cases hb:X.bk with
 | nil=>
  unfold pF at H;rw[hb]at H;have hl:=(H.front 1 rfl).Bs;rw[List.length_map,List.length_range,Nat.mul_one]at hl;refine AZ (Aa rfl ⟨s,H.cell rfl,?_⟩);rw[AI (n:=((s.len:Nat):Int)+1),<-hl];refine AJ (vs:=[.int .i64 ((X.n:Int)+1),.bool false,.pointer none]) H λd w9 H9 _=>⟨s,(H9.front 1 rfl).cell rfl,?_⟩;refine AJ (vs:=[.pointer (some ⟨d,0,none⟩)]) H9 λaZ a4 aD _=> ?_;refine GJ (news:=[.pointer (some ⟨d,0,none⟩)]) (aD.Bh 2 rfl) rfl rfl (by intro v hv;simp at hv;subst hv;rfl) (by omega) (by omega) λMt a5 aE _=> ?_;refine Ah (aE.front 2 rfl) (o:=0) (m:=1) rfl (by simp) λa6 aF j=> ?_;simp only[AK];have aG:=aF.front 2 rfl;refine Ah aG (o:=0) (m:=1) rfl (by simp) λaR Y=>Ah Y (o:=0) (m:=2) rfl (by simp) λaS aA=> ?_;have e:=aA.front 1 rfl;refine⟨_,e.cell rfl,Ah e (o:=0) (m:=3) rfl (by simp) λJ u=>⟨_,(u.front 1 rfl).AU rfl,aO hb J ?_⟩⟩;refine Sat.fix.2 ⟨Mt,λi=>if i=X.n then d else R i,i64 (c+1),⟨.nil,λi h=>(by cases h),by grind⟩,?_⟩;have e1:(List.range (X.n+1)).map (λi=>Value.pointer (some ⟨(if i=X.n then d else R i),0,none⟩))=((List.range X.n).map λi=>Value.pointer (some ⟨R i,0,none⟩))++[.pointer (some ⟨d,0,none⟩)]:=by
   rw[List.range_succ,List.map_append];congr 1
   .refine List.map_congr_left λi hi=> ?_
    grind
   .simp
  have e2:Al (recC E R []) (List.range X.n)=Al (recC E (λi=>if i=X.n then d else R i) []) (List.range X.n):=Al.congr λx hx=>by
   have:=List.mem_range.1 hx;show recC E R [] x=Cells (if x=X.n then d else R x) _ _;rw[if_neg (by omega)];rfl
  have e3:recC E (λi=>if i=X.n then d else R i) [] X.n=Cells d E.GK [.int .i64 ((X.n:Int)+1),.bool true,.pointer none]:=by
   show Cells (if X.n=X.n then d else R X.n) _ _=_;rw[if_pos rfl];rfl
  have O:=(u.front 3 rfl).Bh 1 rfl|>λh=>h.perm (.swap _ _ _);have aB:Sat (recC E (λi=>if i=X.n then d else R i) [] X.n::Al (recC E (λi=>if i=X.n then d else R i) []) (List.range X.n)::Cells b E.LB [.int .i64 1,FJ Mt,.pointer none,.int .i64 (i64 (c+1))]::Row E.Fa 1 Mt (((List.range X.n).map λi=>Value.pointer (some ⟨R i,0,none⟩))++[.pointer (some ⟨d,0,none⟩)])::Z) J:=by
   rw[e3,<-e2];exact O
  have T:=aB.T6;rw[<-List.range_succ]at T;unfold pF;rw[e1];exact T.perm (by
   have: ∀(a b c:Pr),(a::b::c::Z).Perm (b::c::a::Z):=λa b c=>(List.perm_middle (l₁:=[b,c]) (a:=a)).symm;exact this _ _ _)
 | cons a r=>
  unfold pF at H;rw[hb]at H;have ha:a<X.n:=hI.lt a (by rw[hb];simp);have aC:=hI.nd;rw[hb]at aC;have aN:a∉r:=(List.nodup_cons.1 aC).1;have hg:(List.range X.n)[a]? =some a:=List.getElem?_range ha;have H2:=(H.front 2 rfl).FO hg;have e0:Uc R (afterL (a::r) a)=Uc R r.head?:=by unfold afterL;grind
  have aK:recC E R (a::r) a=Cells (R a) E.GK [.int .i64 ((a:Int)+1),.bool (!(a::r).contains a),.pointer (Uc R r.head?)]:=by unfold recC;rw[e0]
  rw[aK]at H2;refine AZ (AO rfl ?_);show NC (some (Addr.mk (R a) 0 none)) _;simp only[AK];refine⟨_,H2.cell rfl,Ah (H2.front 2 rfl) (o:=0) (m:=2) rfl (by simp) λa7 aI j=> ?_⟩;show NC (some (Addr.mk (R a) 0 none)) _;simp only[AK];have aJ:=aI.front 1 rfl;refine Ah aJ (o:=0) (m:=1) rfl (by simp) λaR Y=> ?_;show NC (some (Addr.mk (R a) 0 none)) _;simp only[AK];refine Ah Y (o:=0) (m:=2) rfl (by simp) λaS aA=> ?_;have e:=aA.front 1 rfl;refine⟨_,e.cell rfl,Ah e (o:=0) (m:=3) rfl (by simp) λJ u=> ?_⟩;show NC (some (Addr.mk (R a) 0 none)) _;simp only[AK];refine⟨_,(u.front 1 rfl).AU rfl,aP a r hb J ?_⟩;refine Sat.fix.2 ⟨s,R,i64 (c+1),⟨(List.nodup_cons.1 aC).2,λi hi=>hI.lt i (by rw[hb];simp[hi]),hI.NN⟩,?_⟩;have e3:recC E R r a=Cells (R a) E.GK [.int .i64 ((a:Int)+1),.bool true,.pointer none]:=by
   unfold recC;rw[V9 aN];have:r.contains a=false:=by grind
   rw[this];rfl
  have e2:Al (recC E R (a::r)) ((List.range X.n).eraseIdx a)=Al (recC E R r) ((List.range X.n).eraseIdx a):=Al.congr λx hx=>by
   have a3:=Ud ha hx;unfold recC;have h1:(a::r).contains x=r.contains x:=by grind
   have h2:afterL (a::r) x=afterL r x:=by
    show(if a=x then r.head? else afterL r x)=_
    grind
   rw[h1,h2]
  have O:=(u.front 1 rfl).Bh 1 rfl;rw[e2]at O;have aB:Sat (recC E R r a::Al (recC E R r) ((List.range X.n).eraseIdx a)::Cells b E.LB [.int .i64 1,FJ s,.pointer (Uc R r.head?),.int .i64 (i64 (c+1))]::Row E.Fa 1 s ((List.range X.n).map λi=>.pointer (some ⟨R i,0,none⟩))::Z) J:=by
   rw[e3];exact O
  have T:=aB.Jb hg;exact T.perm (by
   have: ∀(a b c:Pr),(a::b::c::Z).Perm (b::c::a::Z):=λa b c=>(List.perm_middle (l₁:=[b,c]) (a:=a)).symm;exact this _ _ _)
def cE(H:Sat (Gi E b X::Z) w){a:Nat}(ha:a<X.n)(v:a∉X.bk){K:Int->World->Prop}(hK: ∀w',Sat (Gi E b ⟨X.n,a::X.bk⟩::Z) w'->K 0 w'):F.GV E (some ⟨b,0,none⟩) ((a:Int)+1) K w:=by
 obtain⟨s,R,c,hI,H⟩:=Sat.fix.1 H;have aH:=hI.NN;have hl:=(H.front 1 rfl).Bs;rw[List.length_map,List.length_range,Nat.mul_one]at hl;have hg:(List.range X.n)[a]? =some a:=List.getElem?_range ha;have aF:((List.range X.n).map λi=>Value.pointer (some ⟨R i,0,none⟩))[a]? =some (.pointer (some ⟨R a,0,none⟩)):=by grind
 obtain⟨x,J⟩:=(H.front 1 rfl).own.Gj (by omega);have hc:=(H.front 1 rfl).own.cell J aF;unfold F.GV T0.GV F.Mx;simp only[AK,Nat.mul_one];have et:Int.toNat (i64 (((a:Int)+1)-1))=a:=by rw[AI];omega
 have H2:=(H.front 2 rfl).FO hg;have e0:recC E R X.bk a=Cells (R a) E.GK [.int .i64 ((a:Int)+1),.bool true,.pointer none]:=by
  unfold recC;rw[V9 v];have:X.bk.contains a=false:=by grind
  rw[this];rfl
 rw[e0]at H2;refine Aa (decide_eq_true (by omega)) ⟨s,H.cell rfl,Aa (decide_eq_true (by omega)) ⟨s,H.cell rfl,?_⟩⟩;rw[J];simp only[AK];rw[et];have u:(0:Int)<=i64 (((a:Int)+1)-1)/\i64 (((a:Int)+1)-1)<(s.len:Nat):=by rw[AI];omega
 refine⟨u,_,hc,?_⟩;simp only[AK];refine⟨true,H2.cell rfl,AO rfl ⟨s,H.cell rfl,?_⟩⟩;rw[J];simp only[AK];refine⟨u,_,hc,_,H.cell rfl,?_⟩;simp only[AK];refine Ah H2 (o:=0) (m:=1) rfl (by simp) λaR T=>Ah T (o:=0) (m:=2) rfl (by simp) λaS Y=> ?_;refine Ah (Y.front 2 rfl) (o:=0) (m:=2) rfl (by simp) λaT d=>⟨_,d.cell rfl,Ah d (o:=0) (m:=3) rfl (by simp) λO aA=>hK O ?_⟩;refine Sat.fix.2 ⟨s,R,i64 (c-1),⟨List.nodup_cons.2 ⟨v,hI.nd⟩,λi hi=> ?_,hI.NN⟩,?_⟩
 .rcases List.mem_cons.1 hi with h|h
  .subst h;exact ha
  .exact hI.lt i h
 .have e3:recC E R (a::X.bk) a=Cells (R a) E.GK [.int .i64 ((a:Int)+1),.bool false,.pointer (Uc R X.bk.head?)]:=by
   unfold recC;have:(a::X.bk).contains a=true:=by simp
   rw[this];have:afterL (a::X.bk) a=X.bk.head?:=by unfold afterL;grind
   grind
  have e2:Al (recC E R X.bk) ((List.range X.n).eraseIdx a)=Al (recC E R (a::X.bk)) ((List.range X.n).eraseIdx a):=Al.congr λx J=>by
   have aQ:=Ud ha J;unfold recC;have h1:(a::X.bk).contains x=X.bk.contains x:=by grind
   have h2:afterL (a::X.bk) x=afterL X.bk x:=by
    show(if a=x then X.bk.head? else afterL X.bk x)=_
    grind
   rw[h1,h2]
  have e:=(aA.front 1 rfl).Bh 1 rfl;rw[e2]at e;have aC:Sat (recC E R (a::X.bk) a::Al (recC E R (a::X.bk)) ((List.range X.n).eraseIdx a)::Cells b E.LB [.int .i64 1,FJ s,.pointer (some ⟨R a,0,none⟩),.int .i64 (i64 (c-1))]::Row E.Fa 1 s ((List.range X.n).map λi=>.pointer (some ⟨R i,0,none⟩))::Z) O:=by
   rw[e3];exact e
  have aD:=Sat.Jb aC hg;exact aD.perm (by
   have: ∀(a b c:Pr),(a::b::c::Z).Perm (b::c::a::Z):=λa b c=>(List.perm_middle (l₁:=[b,c]) (a:=a)).symm;exact this _ _ _)
end
abbrev kQ:=Int×Int×Int×Int
def NU(e:kQ):List Value:=[.int .i64 e.1,.int .i64 e.2.1,.int .i64 e.2.2.1,.int .u32 e.2.2.2]
def BW(e:kQ):(NU e).length=4:=rfl
def pG(e:kQ): ∀v∈NU e,v.oneCell'=true:=by intro v a;simp[NU]at a;rcases a with rfl|rfl|rfl|rfl<;>rfl
def kR(n:Int):Bool:=(n !=0)&&(DQ .u64 0 n (u64 (n-1))==0)
def Me(size a:Int):Int:=if kR (u64 size)=false then a else if 2048<=size then 256 else if 128<=size then i64 (Int.tdiv size 8)else if 32<=size then 16 else a
def bytesF(size:Int):Nat->Int->Int
 | 0,n=>n
 | k+1,n=>if Int.tmod n size>i64 (Int.tdiv n 8)then bytesF size k (i64 (n+8192))else n
def gQ(size n:Int):Bool:=decide (¬Int.tmod n size>i64 (Int.tdiv n 8))
structure WB where
 QK:Int
 size:Int
 l:List kQ
def WB.last(s:WB):kQ:=s.l.getLastD (0,0,0,0)
def WB.same(s:WB):Bool:=decide (1<s.l.length)&&(s.last.2.1==i64 (Int.tdiv (bytesF s.size 16 8192) 8192)&&(i64 (Int.tdiv (i64 (s.last.2.1*8192)) s.last.1)==i64 (Int.tdiv (bytesF s.size 16 8192) s.size)))
def WB.next(s:WB):WB:=
 ⟨Me s.size s.QK,i64 (s.size+Me s.size s.QK),
  if s.same=true then s.l.dropLast++[(s.size,s.last.2)]else s.l++[(s.size,i64 (Int.tdiv (bytesF s.size 16 8192) 8192),0,0)]⟩
def WB.cF(s:WB):Bool:=decide (8<=s.size)&&(decide (s.size<=32768)&&(gQ s.size (bytesF s.size 16 8192)&&(decide (0<s.l.length)&&(decide (s.l.length<=200)&&((decide (8<=Me s.size s.QK)&&decide (Me s.size s.QK<=10000))&&(decide (s.l.length=1)||s.last.1 !=0))))))
def ZE:Nat->WB
 | 0=>⟨8,8,[(0,0,0,0)]⟩
 | n+1=>(ZE n).next
def runAll:Nat->WB->Bool×WB
 | 0,s=>(true,s)
 | n+1,s=>match s.cF with
  | true=>runAll n s.next
  | false=>(false,s)
def SX: ∀(n k:Nat) {s:WB},(runAll n (ZE k))=(true,s)->(∀j,j<n->(ZE (k+j)).cF=true)/\ZE (k+n)=s
 | 0,k,s,h=>⟨λj a=>by omega,(Prod.mk.inj h).2⟩
 | n+1,k,s,h=>by
  unfold runAll at h;split at h
  .rename_i hg;have d:=SX n (k+1) (s:=s) h;refine⟨λj a=> ?_,by rw[<-d.2,show k+1+n=k+(n+1) by omega]⟩;cases j with
   | zero=>exact hg
   | succ j=>grind
  .cases h
def Iq(c:kQ):kQ:=
 let n:=i64 (c.2.1*8192)
 let wide:=i64 (i64 (Int.tdiv (i64 (Int.tdiv n (i64 (Int.tdiv n c.1)))) 128)*128)
 let sz:=if wide>c.1 then wide else c.1
 (sz,c.2.1,i64 (Int.tdiv n sz),if IntKind.wrap .u32 sz<2 then 0 else IntKind.wrap .u32 (IntKind.wrap .u32 (Int.tdiv 4294967295 (IntKind.wrap .u32 sz))+1))
def pH(c:kQ):Bool:=(c.1 !=0)&&((i64 (Int.tdiv (i64 (c.2.1*8192)) c.1) !=0)&&((Iq c).1 !=0&&(decide (IntKind.wrap .u32 (Iq c).1<2)||IntKind.wrap .u32 (Iq c).1 !=0)))
def rounds:Nat:=162
def cG:WB:=(runAll rounds (ZE 0)).2
def OK:List kQ:=match cG.l with
 | []=>[]
 | c::r=>c::r.map Iq
def run_ok:(runAll rounds (ZE 0)).1=true:=by decide+kernel
def vI:cG.size>32768:=by decide+kernel
def vJ:cG.l.length=68:=by decide+kernel
def vK:(cG.l.tail.all pH)=true:=by decide+kernel
def K1:OK.length=68:=by decide+kernel
def runs:(∀j,j<rounds->(ZE j).cF=true)/\ZE rounds=cG:=by
 have h:runAll rounds (ZE 0)=(true,cG):=Prod.ext run_ok rfl;have:=SX rounds 0 h
 grind
structure MkG(s:WB):Prop where
 s0:8<=s.size
 s1:s.size<=32768
 QK:Int.tmod (bytesF s.size 16 8192) s.size<=i64 (Int.tdiv (bytesF s.size 16 8192) 8)
 l0:0<s.l.length
 l1:s.l.length<=200
 st0:8<=Me s.size s.QK
 st1:Me s.size s.QK<=10000
 nz:1<s.l.length->s.last.1≠0
def ZF{s:WB}(h:s.cF=true):MkG s:=by
 unfold WB.cF gQ at h;simp only[Bool.and_eq_true,decide_eq_true_eq,Bool.or_eq_true,bne_iff_ne]at h;obtain⟨h1,a,v,d,e,⟨m,u⟩,J⟩:=h;exact⟨h1,a,by omega,d,e,m,u,λh=>by omega⟩
section
variable{E:Env}{w:World}{Z:List Pr}
def Ue{n:Int}{K:Bool->World->Prop}(a:K (kR n) w):F.Qm E n K w:=by
 unfold F.Qm;unfold kR at a;refine EO (λh=> ?_) λh=> ?_
 .rw[show(n !=0)=true by grind,Bool.true_and]at a;exact a
 .subst h;exact a
def kS{size d:Int}(h0:8<=size){K:Int->World->Prop}(a:K (Me size d) w):F.IN E size d K w:=by
 unfold F.IN T0.IN;unfold Me at a;refine Ue ?_;cases hp:kR (u64 size)
 .rw[hp,if_pos rfl]at a;exact Aa rfl a
 .rw[hp,if_neg (by decide)]at a;refine AO rfl (AG (λh=> ?_) λh=>AG (λe=>⟨by decide,?_⟩) λe=>AG (λm=> ?_) λm=> ?_)
  .rw[if_pos h]at a;exact a
  .rw[if_neg h,if_pos e]at a;exact a
  .rw[if_neg h,if_neg e,if_pos m]at a;exact a
  .rw[if_neg h,if_neg e,if_neg m]at a;exact a
def cH{size:Int}(J:size≠0)(BU:Int.tmod (bytesF size 16 8192) size<=i64 (Int.tdiv (bytesF size 16 8192) 8)){K:Int->World->Prop}(O:K (bytesF size 16 8192) w):F.L0 E size 8192 K w:=by
 unfold F.L0;refine AM (λst w'=>w'=w/\ ∃i:Nat,i<=16/\st.1=8192+i*8192/\bytesF size (16-i) st.1=bytesF size 16 8192) (λst _=>(200000-st.1).toNat) ⟨rfl,0,by decide,by omega,rfl⟩ ?_;rintro⟨n,v⟩ _ T ⟨rfl,i,hi,u,a⟩;dsimp only at u a⊢;refine⟨J,by decide,AG (λd=> ?_) λhle=> ?_⟩
 .rcases Nat.lt_or_ge i 16 with e|e
  .obtain⟨k,m⟩: ∃k,16-i=k+1:=⟨15-i,by omega⟩;rw[m]at a;rw[AI (n:=n+8192)];refine⟨⟨by trivial,i+1,by omega,by omega,?_⟩,by omega⟩;rw[<-a,show 16-(i+1)=k by omega];unfold bytesF;rw[if_pos d,AI (n:=n+8192)];cases k<;>rfl
  .have:i=16:=by omega
   subst this;have:bytesF size 0 n=n:=rfl
   grind
 .have:bytesF size (16-i) n=n:=by
   cases h:16-i with
   | zero=>rfl
   | succ k=>unfold bytesF;rw[if_neg (by omega)]
  grind
def cI{n:Int}(e:n<2∨n≠0){K:Int->World->Prop}(a:K (if n<2 then 0 else IntKind.wrap .u32 (IntKind.wrap .u32 (Int.tdiv 4294967295 n)+1)) w):F.Oy E n K w:=by
 unfold F.Oy;refine AG (λh=> ?_) λh=>⟨by omega,Ac λx d=> ?_⟩
 .rw[if_pos h]at a;exact a
 .rw[if_neg h]at a;rw[d];exact a
def pI{L:List kQ}(h:0<L.length)(y:kQ):L.set (L.length-1) y=L.dropLast++[y]:=by
 apply List.ext_getElem?
 grind
def pJ{L:List kQ}(h:0<L.length):L[L.length-1]? =some (L.getLastD (0,0,0,0)):=by grind
def M4(H:Sat Z w){K:AW->World->Prop}(hK: ∀s w',Sat (Row E.Cv 4 s (DI NU OK)::Z) w'->K s w'):F.DM E K w:=by
 unfold F.DM T0.DM F.JE T0.JE;have p1:kR (u64 8192)=true:=by decide+kernel
 have p2:kR (u64 32768)=true:=by decide+kernel
 refine AZ (AO (by decide) (AO (by decide) (Ue ?_)));rw[p1];refine AO rfl (AO (by decide) (AO (by decide+kernel) (Ue ?_)));rw[p2];refine λj=>AO rfl ?_;obtain⟨J,aD⟩:=runs;refine Lw (n:=1) (z:=4) H rfl (by decide) λb8 w9 H9=> ?_;refine AM (λst w'=> ∃k:Nat,k<=rounds/\st.2.1=(ZE k).QK/\st.2.2.1=(ZE k).size/\Sat (Row E.Cv 4 st.1 (DI NU (ZE k).l)::Z) w') (λst _=>(40000-st.2.2.1).toNat)
  ⟨0,Nat.zero_le _,rfl,rfl,H9⟩ ?_
 rintro⟨F4,QK,size,v⟩ _ bV ⟨k,hk,aF,aC,d⟩;dsimp only at aF aC d⊢;have hl:=d.JJ (by decide) BW;refine AG (λhle=> ?_) λaS=> ?_
 .have aG:k<rounds:=by
   rcases Nat.lt_or_eq_of_le hk with g|g
   .exact g
   .subst g;rw[aD]at aC;have:=vI;omega
  have O:=ZF (J k aG);rw[aF,aC];generalize hS:ZE k=S at O aC aF d hl⊢;have aA:ZE (k+1)=S.next:=by rw[<-hS];rfl
  have bI:=O.s0;have bJ:=O.s1;have aR:=O.l0;have a5:=O.l1;refine kS O.s0 (cH (by omega) O.QK ?_);have a:=pJ aR;obtain⟨b,m⟩:=d.L9 (by decide) BW (i:=S.l.length-1) (by omega);rw[m];simp only[AK];rw[AI (n:=((F4.len:Nat):Int)-1)];have et:Int.toNat (((F4.len:Nat):Int)-1)=S.l.length-1:=by omega
  rw[et];have Hd:=d.drew;have c0:=Hd.Gk BW m a (j:=0) rfl;have c1:=Hd.Gk BW m a (j:=1) rfl;have aH:S.l.getLastD (0,0,0,0)=S.last:=rfl;rw[aH]at c0 c1 a;rw[Nat.add_zero]at c0;have a9:=O.st0;have bA:=O.st1;rw[AI (n:=S.size+Me S.size S.QK)];have a8:S.next.size=S.size+Me S.size S.QK:=AI;refine⟨⟨by omega,by omega⟩,?_⟩;refine AV (λst w'=>st.1=S.same/\Sat (Row E.Cv 4 F4 (DI NU S.l)::Z) w') ?_ ?_
  .unfold WB.same;refine AG (λh1=>⟨S.last.2.1,by rw[add_add];exact c1,by decide,Cj (λe1=> ?_) λe1=> ?_⟩) λh1=> ?_
   .have d1:decide (1<S.l.length)=true:=decide_eq_true (by omega);have aY:=c0;have aZ:=c1;refine⟨S.last.2.1,by rw[add_add];exact aZ,S.last.1,aY,O.nz (by omega),by omega,?_,Hd⟩
    grind
   .refine⟨?_,Hd⟩
    grind
   .refine⟨?_,Hd⟩
    grind
  rintro⟨x,v⟩ _ bW ⟨hx,aK⟩;dsimp only at hx;subst hx;refine AY (λe=> ?_) λe=>⟨by decide,?_⟩
  .have hs:=Km aK (j:=(S.l.length-1)*4) (v:=.int .i64 S.size) (K:=λaU=>(∃k:Nat,k<=rounds/\Me S.size S.QK=(ZE k).QK/\S.size+Me S.size S.QK=(ZE k).size/\Sat (Row E.Cv 4 F4 (DI NU (ZE k).l)::Z) aU)/\(40000-(S.size+Me S.size S.QK)).toNat<(40000-S.size).toNat) rfl (by rw[Md BW];omega) m λaU aV=>⟨⟨k+1,by omega,by rw[aA];rfl,by grind,?_⟩,by omega⟩
   .exact hs
   .have:=OJ BW a (j:=0) (y:=(S.size,S.last.2)) (v:=.int .i64 S.size) (by decide) rfl;rw[Nat.add_zero]at this;rw[this,pI aR]at aV;rw[aA];unfold WB.next
    grind
  .refine AJ aK λbF bX aW _=> ?_;refine GJ (news:=NU (S.size,i64 (Int.tdiv (bytesF S.size 16 8192) 8192),0,0)) aW rfl rfl (pG _) (by omega) (by omega) λxS bY aX _=>⟨⟨k+1,by omega,by rw[aA];rfl,by grind,?_⟩,by omega⟩;have e1:DI NU S.l++NU (S.size,i64 (Int.tdiv (bytesF S.size 16 8192) 8192),0,0)=DI NU (S.l++[(S.size,i64 (Int.tdiv (bytesF S.size 16 8192) 8192),0,0)]):=by rw[Q4];simp[DI]
   rw[e1]at aX;rw[aA];unfold WB.next
   grind
 .have aG:k=rounds:=by
   rcases Nat.lt_or_eq_of_le hk with g|g
   .have:=(ZF (J k g)).s1;omega
   .exact g
  subst aG;rw[aD]at d hl;have hlen:=vJ;cases hL:cG.l with
  | nil=>grind
  | cons c0 T=>
   rw[hL]at d hl hlen;have hT:T.length=67:=by grind
   have aQ: ∀i c,T[i]? =some c->pH c=true:=λi c hc=>by
    have:=vK;rw[hL]at this;exact List.all_eq_true.1 this c (List.mem_of_getElem? hc)
   have bB:OK=c0::T.map Iq:=by unfold OK;rw[hL]
   refine⟨⟨by decide,by omega⟩,?_⟩;refine AM (λst w'=> ∃i:Nat,st.1=(i:Int)/\i<=67/\Sat (Row E.Cv 4 F4 (DI NU (c0::((T.take i).map Iq++T.drop i)))::Z) w') (λst _=>(67-st.1).toNat) ⟨0,rfl,by decide,d⟩ ?_;rintro⟨i',v⟩ _ a4 ⟨i,hi,a6,u⟩;dsimp only at hi⊢;subst hi;refine AG (λbN=> ?_) λbK=> ?_
   .have bM:i<67:=by omega
    obtain⟨c,hc⟩: ∃c,T[i]? =some c:=⟨_,List.getElem?_eq_getElem (by omega)⟩;have BU:=aQ i c hc;unfold pH at BU;simp only[Bool.and_eq_true,Bool.or_eq_true,decide_eq_true_eq,bne_iff_ne]at BU;obtain⟨o1,o2,o3,o4⟩:=BU;rw[AI (n:=(i:Int)+1)];have et:Int.toNat ((i:Int)+1)=i+1:=by omega
    rw[et];generalize hF:(c0::((T.take i).map Iq++T.drop i))=FX at u;have bH:FX.length=68:=by grind
    have Y:FX[i+1]? =some c:=by grind
    have a1:FX.set (i+1) (Iq c)=c0::((T.take (i+1)).map Iq++T.drop (i+1)):=by
     rw[<-hF,List.set_cons_succ];congr 1;have a2:c=T[i]:=by rw[List.getElem?_eq_getElem (by omega)]at hc;exact(Option.some.inj hc).symm
     rw[List.set_append_right _ _ (by rw[List.length_map,List.length_take];omega),List.length_map,List.length_take,Nat.min_eq_left (by omega),Nat.sub_self,List.take_succ_eq_append_getElem (by omega),List.map_append,List.drop_eq_getElem_cons (by omega),List.set_cons_zero,List.append_assoc,a2];rfl
    obtain⟨b,m⟩:=u.L9 (by decide) BW (i:=i+1) (by omega);rw[m];simp only[AK];have d0:=u.Gk BW m Y (j:=0) rfl;have d1:=u.Gk BW m Y (j:=1) rfl;rw[Nat.add_zero]at d0;refine⟨⟨by omega,by omega⟩,c.2.1,by rw[add_add];exact d1,?_⟩;refine AV (λ_ w'=>Sat (Row E.Cv 4 F4 (DI NU (FX.set (i+1) ((Iq c).1,c.2)))::Z) w') ?_ ?_
    .refine⟨c.1,d0,o1,o2,by decide,Ac λwide aI=>⟨c.1,d0,AG (λaS=> ?_) λbO=> ?_⟩⟩
     .have e1:(Iq c).1=wide:=by unfold Iq;dsimp only;rw[<-aI,if_pos aS]
      refine Km u (j:=(i+1)*4) rfl (by rw[Md BW];omega) m λb2 bD=> ?_;have:=OJ BW Y (j:=0) (y:=(wide,c.2)) (v:=.int .i64 wide) (by decide) rfl
      grind
     .have e1:(Iq c).1=c.1:=by unfold Iq;grind
      show Sat (Row E.Cv 4 F4 (DI NU (FX.set (i+1) ((Iq c).1,c.2)))::Z) a4;rw[e1];have:FX.set (i+1) (c.1,c.2)=FX:=by
       have:=List.getElem?_eq_some_iff.1 Y;rw[show(c.1,c.2)=FX[i+1]from this.2.symm,List.set_getElem_self]
      grind
    rintro _ _ bZ aL;have g1:(FX.set (i+1) ((Iq c).1,c.2))[i+1]? =some ((Iq c).1,c.2):=by grind
    have f0:=aL.Gk BW m g1 (j:=0) rfl;rw[Nat.add_zero]at f0;have aB:i64 (Int.tdiv (i64 (c.2.1*8192)) (Iq c).1)=(Iq c).2.2.1:=rfl;refine⟨(Iq c).1,f0,o3,?_⟩;rw[aB,add_add];refine Km aL (j:=(i+1)*4+2) rfl (by rw[Md BW,List.length_set];omega) m λb3 aE=> ?_;have:=OJ BW g1 (j:=2) (y:=((Iq c).1,c.2.1,(Iq c).2.2.1,c.2.2.2)) (v:=.int .i64 (Iq c).2.2.1) (by decide) rfl;rw[this,List.set_set]at aE;have g2:(FX.set (i+1) ((Iq c).1,c.2.1,(Iq c).2.2.1,c.2.2.2))[i+1]? =some ((Iq c).1,c.2.1,(Iq c).2.2.1,c.2.2.2):=by grind
    have aO:=aE.Gk BW m g2 (j:=0) rfl;rw[Nat.add_zero]at aO;refine⟨(Iq c).1,aO,cI o4 ?_⟩;have aT:(if IntKind.wrap .u32 (Iq c).1<2 then(0:Int)else IntKind.wrap .u32 (IntKind.wrap .u32 (Int.tdiv 4294967295 (IntKind.wrap .u32 (Iq c).1))+1))=(Iq c).2.2.2:=rfl;rw[aT,add_add];refine Km aE (j:=(i+1)*4+3) rfl (by rw[Md BW,List.length_set];omega) m λb4 aM=>⟨⟨i+1,by omega,by omega,?_⟩,by omega⟩;have h3:=OJ BW g2 (j:=3) (y:=Iq c) (v:=.int .u32 (Iq c).2.2.2) (by decide) rfl;rw[h3,List.set_set,a1]at aM;exact aM
   .have bL:i=67:=by omega
    grind
end
structure SI where
 base:Int
 AF:Int
 state:Int
 cls:Int
 E3:Bool
 elem:Int
 AP:Int
 used:Int
 f8:Bool
 f9:Bool
 Mf:Int
 uw:List Int
 mw:List Int
 look:Int
def F3(S:SI)(a sm:AW):List Value:=[.int .u64 S.base,.int .i64 S.AF,.int .i64 S.state,.int .i64 S.cls,.bool S.E3,.int .i64 S.elem,.int .i64 S.AP,.int .i64 S.used,.bool S.f8,.bool S.f9,.int .u32 S.Mf,FJ a,FJ sm,.int .i64 S.look]
def ZG(E:Env)(b:Nat)(S:SI)(a sm:AW):List Pr:=[Cells b E.Eo (F3 S a sm),Row E.AE 1 a (ints .u64 S.uw),Row E.AE 1 sm (ints .u64 S.mw)]
def Cb(E:Env)(b:Nat)(S:SI):Pr:=Ex λx:AW×AW=>S5 (ZG E b S x.1 x.2)
def Au(c:Int):kQ:=OK.getD c.toNat (0,0,0,0)
def KY(page AF c:Int):Prop:=AF=0∨34359738368<page∨34359738368-page<AF∨c<0∨68<=c∨(c=0/\134217728<AF)∨(0<c/\AF≠(Au c).2.1)
def JV(page AF c:Int)(E3:Bool):SI:=⟨page*8192,AF,1,c,E3,if c=0 then AF*8192 else(Au c).1,if c=0 then 1 else(Au c).2.2.1,0,false,false,(Au c).2.2.2,[],[],0⟩
def kT:(OK.all λc=>decide (0<=c.2.1)&&decide (c.2.1<=100))=true:=by decide+kernel
def Lb{c:Int}(h0:0<=c)(h1:c<68):OK[c.toNat]? =some (Au c):=by
 have a:c.toNat<OK.length:=by rw[K1];omega
 unfold Au
 grind
def Q5{c:Int}(h0:0<=c)(h1:c<68):0<=(Au c).2.1/\(Au c).2.1<=100:=by
 have:=List.all_eq_true.1 kT _ (List.mem_of_getElem? (Lb h0 h1))
 grind
section
variable{E:Env}{b:Nat}{S:SI}{Z:List Pr}{w:World}
def Sat.span:Sat (Cb E b S::Z) w↔ ∃a sm,Sat (ZG E b S a sm++Z) w:=by
 unfold Cb;rw[Sat.ex];constructor
 .rintro⟨⟨a,sm⟩,h⟩;exact⟨a,sm,Sat.star.1 h⟩
 .rintro⟨a,sm,h⟩;exact⟨⟨a,sm⟩,Sat.star.2 h⟩
def Uf(H:Sat Z w){page AF c:Int}{np:Bool}(h0:0<=page)(p0:0<=AF)(p1:AF<18446744073709551616){K:Option Addr->Int->World->Prop}
  (aP:KY page AF c-> ∀w',Sat Z w'->K none 1 w')(aQ: ¬KY page AF c-> ∀b w',Sat (Cb E b (JV page AF c np)::Z) w'->K (some ⟨b,0,none⟩) 0 w'):F.KV E page AF c np K w:=by
 unfold F.KV T0.KV;refine M4 H λr1 w2 H2=> ?_;have hl:=H2.JJ (by decide) BW;rw[K1]at hl;have ct:0<=c->c<68-> ∃x,r1.base=some ⟨x,0,none⟩/\ ∀{w'} {Y:List Pr},Sat (Row E.Cv 4 r1 (DI NU OK)::Y) w'->w'.cell? ((Addr.mk x 0 none).add (Int.toNat c*4))=some (.int .i64 (Au c).1)/\w'.cell? (((Addr.mk x 0 none).add (Int.toNat c*4)).add 1)=some (.int .i64 (Au c).2.1)/\
   w'.cell? (((Addr.mk x 0 none).add (Int.toNat c*4)).add 2)=some (.int .i64 (Au c).2.2.1)/\w'.cell? (((Addr.mk x 0 none).add (Int.toNat c*4)).add 3)=some (.int .u32 (Au c).2.2.2):=λc0 c1=>by
  obtain⟨x,v⟩:=H2.L9 (by decide) BW (i:=c.toNat) (by rw[K1];omega);refine⟨x,v,λh=>⟨?_,?_,?_,?_⟩⟩
  .have:=h.Gk BW v (Lb c0 c1) (j:=0) rfl;omega
  .rw[add_add];exact h.Gk BW v (Lb c0 c1) (j:=1) rfl
  .rw[add_add];exact h.Gk BW v (Lb c0 c1) (j:=2) rfl
  .rw[add_add];exact h.Gk BW v (Lb c0 c1) (j:=3) rfl
 have a:KY page AF c->K none 1 w2:=λh=>aP h w2 H2.tail;have main: ¬KY page AF c->
   NC r1.base λaG=>
   ((0:Int)<=c/\(c:Int)<(r1.len:Nat))/\
   ∃aA:Int,w2.drew.cell? (aG.add (Int.toNat c*4))=some (.int .i64 aA)/\
   NC r1.base λaH=>
   ((0:Int)<=c/\(c:Int)<(r1.len:Nat))/\
   ∃aB:Int,w2.drew.cell? ((aH.add (Int.toNat c*4)).add 2)=some (.int .i64 aB)/\
   NC r1.base λaI=>
   ((0:Int)<=c/\(c:Int)<(r1.len:Nat))/\
   ∃aC:Int,w2.drew.cell? ((aI.add (Int.toNat c*4)).add 3)=some (.int .u32 aC)/\
   AL (.cells #[.int .u64 (u64 (page*8192)),.int .i64 (i64 (AF)),.int .i64 1,.int .i64 c,.bool np,.int .i64 aA,.int .i64 aB,.int .i64 0,.bool false,.bool false,.int .u32 aC,.slice none 0 0,.slice none 0 0,.int .i64 0] E.Eo) w2.drew λd u=>
   u.cell? ((aI.add (Int.toNat c*4)).add 3)=some (.int .u32 aC)/\
   u.cell? ((aH.add (Int.toNat c*4)).add 2)=some (.int .i64 aB)/\
   u.cell? (aG.add (Int.toNat c*4))=some (.int .i64 aA)/\
   CND ((c:Int)==0) (
    stCells ((Addr.mk d 0 none).add 5) 0 [.int .i64 (i64 ((i64 (AF))*8192))] u λaJ=>
    stCells ((Addr.mk d 0 none).add 6) 0 [.int .i64 1] aJ λaK=>
    K (some (Addr.mk d 0 none)) 0 aK
   ) (
    K (some (Addr.mk d 0 none)) 0 u
   ):=λaF=>by
  have J:=aF;unfold KY at J;have c0:0<=c:=by omega
  have c1:c<68:=by omega
  have aO:=Q5 c0 c1;have a0:AF<=134217728:=by
   by_cases e:c=0
   .omega
   .have:AF=(Au c).2.1:=Classical.byContradiction λh=>J (.inr (.inr (.inr (.inr (.inr (.inr ⟨by omega,h⟩))))));omega
  obtain⟨x,v,Cq⟩:=ct c0 c1;have Hd:=H2.drew;obtain⟨d0,d1,d2,d3⟩:=Cq Hd;have T:(0:Int)<=c/\(c:Int)<(r1.len:Nat):=by omega
  rw[v];simp only[AK];refine⟨T,_,d0,T,_,d2,T,_,d3,?_⟩;rw[AR (n:=page*8192),AI (n:=AF),AI (n:=AF*8192)];refine AJ (vs:=[.int .u64 (page*8192),.int .i64 AF,.int .i64 1,.int .i64 c,.bool np,.int .i64 (Au c).1,.int .i64 (Au c).2.2.1,.int .i64 0,.bool false,.bool false,.int .u32 (Au c).2.2.2,.slice none 0 0,.slice none 0 0,.int .i64 0]) Hd λd u O _=> ?_;obtain⟨f0,f1,f2,f3⟩:=Cq (O.front 1 rfl);have fin: ∀{w'} {el sl:Int},el=(if c=0 then AF*8192 else(Au c).1)->sl=(if c=0 then 1 else(Au c).2.2.1)->
    Sat (Cells d E.Eo [.int .u64 (page*8192),.int .i64 AF,.int .i64 1,.int .i64 c,.bool np,.int .i64 el,.int .i64 sl,.int .i64 0,.bool false,.bool false,.int .u32 (Au c).2.2.2,.slice none 0 0,.slice none 0 0,.int .i64 0]::Row E.Cv 4 r1 (DI NU OK)::Z) w'->K (some ⟨d,0,none⟩) 0 w':=λe1 e2 h=>by
   subst e1;subst e2;refine aQ aF d _ (Sat.span.2 ⟨⟨none,0,0⟩,⟨none,0,0⟩,?_⟩);have h1:=(h.front 1 rfl).tail;have h2:=h1.nil E.AE 1;have h3:=h2.nil E.AE 1;exact h3.perm ((List.reverse_perm [_,_,_]).symm.append_right Z)
  refine⟨f3,f2,f0,Cj (λe=> ?_) λe=>fin (by omega) (by omega) O⟩;refine Ah O (o:=0) (m:=5) rfl (by simp) λaJ aL=>Ah aL (o:=0) (m:=6) rfl (by simp) λaK aM=>fin (by omega) (by omega) aM
 refine AZ (Cj (λe j=>Aa rfl (a (.inl e))) λn1=>AG (λe j=>Aa rfl (a (.inr (.inl (by omega))))) λn2=> ?_);rw[AR (n:=34359738368-page)];refine AG (λe j=>Aa rfl (a (.inr (.inr (.inl (by omega)))))) λn3=>AG (λe j=>Aa rfl (a (.inr (.inr (.inr (.inl e)))))) λn4=>AG (λe j=>Aa rfl (a (.inr (.inr (.inr (.inr (.inl (by omega)))))))) λn5=>Cj (λe0=>AG (λe j=>Aa rfl (a (.inr (.inr (.inr (.inr (.inr (.inl ⟨e0,by omega⟩)))))))) λn6=>AG (λe=>by omega) λn7 j=>AO rfl (main ?_)) λe0=>AG (λe=> ?_) λn7=>by omega
 .unfold KY;omega
 .obtain⟨x,v,Cq⟩:=ct (by omega) (by omega);have aO:=Q5 (c:=c) (by omega) (by omega);have aN:=(Cq H2).2.1;have m':=main;rw[v]at m'⊢;simp only[AK]at m'⊢;refine⟨⟨by omega,by omega⟩,_,aN,λj=> ?_⟩;rw[AR (n:=(Au c).2.1)];refine EO (λh=>a (.inr (.inr (.inr (.inr (.inr (.inr ⟨by omega,h⟩))))))) λh=>m' ?_;unfold KY;omega
def JP(H:Sat (Cb E b S::Z) w){K:Int->Int->Int->Int->Bool->Int->Int->Int->Bool->Bool->World->Prop}(m: ∀w',Sat (Cb E b S::Z) w'->K S.base S.AF S.state S.cls S.E3 S.elem S.AP S.used S.f8 S.f9 w'):
  F.Ax E (some ⟨b,0,none⟩) K w:=by
 obtain⟨u,sm,H⟩:=Sat.span.1 H;unfold F.Ax;simp only[AK];refine AJ (vs:=[.int .u64 0,.int .i64 0,.int .i64 0,.int .i64 0,.bool false,.int .i64 0,.int .i64 0,.int .i64 0,.bool false,.bool false]) H λb1 v e _=> ?_;have h:=e.front 1 rfl;refine⟨_,h.cell rfl,_,h.cell rfl,_,h.cell rfl,_,h.cell rfl,_,h.cell rfl,_,h.cell rfl,_,h.cell rfl,_,h.cell rfl,_,h.cell rfl,_,h.cell rfl,?_⟩;refine CN (news:=[.int .u64 S.base,.int .i64 S.AF,.int .i64 S.state,.int .i64 S.cls,.bool S.E3,.int .i64 S.elem,.int .i64 S.AP,.int .i64 S.used,.bool S.f8,.bool S.f9]) e rfl (by simp[Value.oneCell']) λd a=> ?_;exact⟨_,a.cell rfl,_,a.cell rfl,_,a.cell rfl,_,a.cell rfl,_,a.cell rfl,_,a.cell rfl,_,a.cell rfl,_,a.cell rfl,_,a.cell rfl,_,a.cell rfl,m d (Sat.span.2 ⟨u,sm,a.tail⟩)⟩
def cJ(H:Sat (Cb E b S::Z) w){K:Int->World->Prop}(a:(S.state=0∨0<S.used)->K 33 w)
  (d: ¬(S.state=0∨0<S.used)-> ∀w',Sat (Cb E b {S with state:=0,used:=0,uw:=[],mw:=[]}::Z) w'->K 0 w'):F.KM E (some ⟨b,0,none⟩) K w:=by
 obtain⟨su,sm,H⟩:=Sat.span.1 H;unfold F.KM;simp only[AK];refine AZ ⟨_,H.cell rfl,Cj (λe j=>Aa rfl (a (.inl e))) λn1=>⟨_,H.cell rfl,λj=>AG (λe=>a (.inr e)) λn2=> ?_⟩⟩;refine Ah H (o:=0) (m:=2) rfl (by simp[F3]) λw1 H1=>Ah H1 (o:=0) (m:=7) rfl (by simp[F3]) λw2 u=>Ah u (o:=0) (m:=11) rfl (by simp[F3]) λw3 v=>Ah v (o:=0) (m:=12) rfl (by simp[F3]) λw4 J=>d (by omega) w4 (Sat.span.2 ⟨⟨none,0,0⟩,⟨none,0,0⟩,?_⟩);have h1:=(J.front 1 rfl).tail;have O:=(h1.front 1 rfl).tail;have T:=O.nil E.AE 1;have Y:=T.nil E.AE 1;exact Y.perm ((List.reverse_perm [_,_,_]).symm.append_right Z)
end
end Go.Sh

/- Records, classes and spans do what they say. No further condition. -/
import Derived.Test.YtgeilojialbgdaaGreatDoorA
import Derived.Test.YtgeilojialbgdaaGreatDoorM
import Derived.Test.YtgeilojialbgdaaGreatDoorY
import Derived.Test.YtgeilojialbgdaaGreatDoorF
import Derived.Test.YtgeilojialbgdaaGreatDoorSh
set_option linter.all false
set_option maxRecDepth 50000
set_option maxHeartbeats 2000000
namespace Go.Sh
section
variable{α:Type}{f:α->List Value}{z:Nat}
def FJ(f:α->List Value)(L:List α):List Value:=L.flatMap f
def KA(x:α)(L:List α):FJ f (x::L)=f x++FJ f L:=by simp[FJ]
def RM(L M:List α):FJ f (L++M)=FJ f L++FJ f M:=by simp[FJ]
def Mv(a: ∀x,(f x).length=z): ∀L:List α,(FJ f L).length=L.length*z
 | []=>by simp[FJ]
 | x::r=>by rw[KA,List.length_append,Mv a r,a,List.length_cons,Nat.succ_mul];omega
def Zz(a: ∀x,(f x).length=z): ∀{L:List α} {i:Nat} {x:α} {j:Nat} {v:Value},L[i]? =some x->(f x)[j]? =some v->(FJ f L)[i*z+j]? =some v
 | y::r,0,x,j,v,h,hj=>by
  have h:y=x:=Option.some.inj h;subst h;have:=(List.getElem?_eq_some_iff.1 hj).1;rw[KA,Nat.zero_mul,Nat.zero_add,List.getElem?_append_left this];exact hj
 | y::r,i+1,x,j,v,h,hj=>by
  rw[KA,Nat.succ_mul,List.getElem?_append_right (by grind),a,show i*z+z+j-z=i*z+j by omega];exact Zz a (L:=r) h hj
def rN(ho: ∀x,∀v∈f x,v.oneCell'=true)(L:List α): ∀v∈FJ f L,v.oneCell'=true:=by
 intro v a;simp only[FJ,List.mem_flatMap]at a
 grind
def Of(a: ∀x,(f x).length=z): ∀{L:List α} {i:Nat} {x y:α} {j:Nat} {v:Value},L[i]? =some x->j<z->(f x).set j v=f y->(FJ f L).set (i*z+j) v=FJ f (L.set i y)
 | c::r,0,x,y,j,v,h,hj,he=>by
  have h:c=x:=Option.some.inj h;subst h;rw[KA,Nat.zero_mul,Nat.zero_add,List.set_append_left _ _ (by rw[a];exact hj),he,List.set_cons_zero,KA]
 | c::r,i+1,x,y,j,v,h,hj,he=>by
  rw[KA,List.set_cons_succ,KA,Nat.succ_mul,List.set_append_right _ _ (by grind),a,show i*z+z+j-z=i*z+j by omega,Of a (L:=r) h hj he]
def pos(key:α->Int):List α->Int->Nat
 | [],_=>0
 | c::r,n=>if key c<n then pos key r n+1 else 0
def Lu(key:α->Int)(L:List α):Prop:=L.Pairwise λa b=>key a<key b
variable{key:α->Int}
def eW: ∀(L:List α) (n:Int),pos key L n<=L.length
 | [],_=>Nat.le_refl _
 | c::r,n=>by simp only[pos];split;exact Nat.succ_le_succ (eW r n);omega
def NR: ∀{L:List α} {n:Int} {j:Nat} {c:α},L[j]? =some c->j<pos key L n->key c<n
 | c::r,n,0,x,h,hj=>by
  have h:c=x:=Option.some.inj h;subst h;simp only[pos]at hj;grind
 | c::r,n,j+1,x,h,hj=>by
  simp only[pos]at hj;split at hj
  .exact NR (L:=r) h (by omega)
  .omega
def pos_at: ∀{L:List α} {n:Int} {c:α},L[pos key L n]? =some c->n<=key c
 | c::r,n,x,h=>by
  simp only[pos]at h;split at h
  .exact pos_at (L:=r) h
  .have h:c=x:=Option.some.inj h
   grind
def Lu.lt{L:List α}(v:Lu key L){i j:Nat}{a b:α}(hi:L[i]? =some a)(u:L[j]? =some b)(h:i<j):key a<key b:=by
 have h1:=(List.getElem?_eq_some_iff.1 hi);have e:=(List.getElem?_eq_some_iff.1 u);have:=List.pairwise_iff_getElem.1 v i j h1.1 e.1 h
 grind
def W8{L:List α}(v:Lu key L){n:Int}{j:Nat}{c:α}(h:L[j]? =some c)(u:pos key L n<=j):n<=key c:=by
 have J:=(List.getElem?_eq_some_iff.1 h).1;have e:=List.getElem?_eq_getElem (show pos key L n<L.length by omega);have h1:=pos_at e;rcases Nat.lt_or_eq_of_le u with a|a
 .have:=v.lt e h a;omega
 grind
def jT{L:List α}(J:Lu key L){n:Int}{c:α}(v:c∈L)(T:key c=n):L[pos key L n]? =some c:=by
 obtain⟨j,a⟩:=List.mem_iff_getElem?.1 v;rcases Nat.lt_or_ge j (pos key L n)with h|h
 .have:=NR a h;omega
 .have O:=(List.getElem?_eq_some_iff.1 a).1;rcases Nat.lt_or_eq_of_le h with e|e
  .have u:=List.getElem?_eq_getElem (show pos key L n<L.length by omega);have:=pos_at u;have K:=J.lt u a e;omega
  grind
def Lu.take{L:List α}(a:Lu key L)(i:Nat):Lu key (L.take i):=List.Pairwise.sublist (List.take_sublist _ _) a
def Lu.drop{L:List α}(a:Lu key L)(i:Nat):Lu key (L.drop i):=List.Pairwise.sublist (List.drop_sublist _ _) a
def Lu.filter{L:List α}(a:Lu key L)(p:α->Bool):Lu key (L.filter p):=List.Pairwise.sublist List.filter_sublist a
def X5{L:List α}{n:Int}{c:α}(e:c∈L.take (pos key L n)):c∈L/\key c<n:=by
 obtain⟨j,a⟩:=List.mem_iff_getElem?.1 e;rw[List.getElem?_take]at a;split at a
 .rename_i h;exact⟨List.mem_of_getElem? a,NR a h⟩
 .cases a
def X6{L:List α}(u:Lu key L){n:Int}{c:α}(e:c∈L.drop (pos key L n)):c∈L/\n<=key c:=by
 obtain⟨j,a⟩:=List.mem_iff_getElem?.1 e;rw[List.getElem?_drop]at a;exact⟨List.mem_of_getElem? a,W8 u a (by omega)⟩
def Lu.mid{L M N:List α}(u:Lu key L)(v:Lu key M)(J:Lu key N){a b:Int}(K:a<=b)(h1: ∀c∈L,key c<a)(j: ∀c∈M,a<=key c/\key c<b)(T: ∀c∈N,b<=key c):Lu key (L++M++N):=by
 unfold Lu;rw[List.append_assoc,List.pairwise_append,List.pairwise_append];refine⟨u,⟨v,J,λx e y O=> ?_⟩,λx e y O=> ?_⟩
 .have:=(j x e).2;grind
 .have:=h1 x e
  grind
end
section
variable{α:Type}{f:α->List Value}{z t:Nat}{F:List Pr}{w:World}{s:AY}{L:List α}
def Sat.Og(hz:0<z)(a: ∀x,(f x).length=z)(H:Sat (Row t z s (FJ f L)::F) w):L.length=s.len/\s.len<=s.cap/\s.cap<9223372036854775808:=by
 have h:=H.CK;rw[Mv a]at h;exact⟨Nat.eq_of_mul_eq_mul_right hz h,H.own.cap,H.own.top⟩
def Sat.RN(hz:0<z)(a: ∀x,(f x).length=z)(H:Sat (Row t z s (FJ f L)::F) w){i:Nat}(hi:i<L.length): ∃b,s.base=some ⟨b,0,none⟩:=
 H.own.G7 (by have:=H.Og hz a;omega)
def Sat.JA(u: ∀x,(f x).length=z)(H:Sat (Row t z s (FJ f L)::F) w){a:Addr}(e:s.base=some a){i:Nat}{x:α}(hi:L[i]? =some x){j:Nat}{v:Value}(J:(f x)[j]? =some v):w.cell? (a.add (i*z+j))=some v:=
 H.own.cell e (Zz u hi J)
def X7: ∀(news:List Value) {vs:List Value} {w:World} (o i:Nat),Sat (Row t z s vs::F) w->o+i+news.length<=vs.length->(∀v∈news,v.oneCell'=true)-> ∀{a:Addr},s.base=some a-> ∀{K:World->Prop},
  (∀w',Sat (Row t z s (vs.take (o+i)++news++vs.drop (o+i+news.length))::F) w'->K w')->stCells (a.add o) i news w K
 | [],vs,w,o,i,H,hl,ho,a,ha,K,hK=>by
  refine hK w ?_;simpa using H
 | v::r,vs,w,o,i,H,hl,ho,a,ha,K,hK=>by
  have e:o+i<vs.length:=by grind
  have h1:=Ko H (j:=o+i) (v:=v) (ho v (by simp)) e ha (K:=λw'=>stCells (a.add o) (i+1) r w' K) λw' O=>X7 r o (i+1) O (by grind) (λu hu=>ho u (by simp[hu])) ha λJ T=>hK J ?_
  .simp only[stCells,add_zero]at h1⊢;rw[add_add];exact h1
  .have:(vs.set (o+i) v).take (o+(i+1))++r++(vs.set (o+i) v).drop (o+(i+1)+r.length)=vs.take (o+i)++(v::r)++vs.drop (o+i+(v::r).length):=by
    rw[show o+(i+1)=o+i+1 from by omega,List.take_set,List.take_succ_eq_append_getElem e,List.set_append_right _ _ (by simp;omega)];simp only[List.length_take,Nat.min_eq_left (Nat.le_of_lt e),Nat.sub_self,List.set_cons_zero,List.append_assoc,List.singleton_append,List.length_cons,List.cons_append];congr 2;rw[List.drop_set_of_lt (by omega),show o+i+1+r.length=o+i+(r.length+1)from by omega];simp
   grind
end
structure FX where
 n:Nat
 bk:List Nat
def afterL:List Nat->Nat->Option Nat
 | [],_=>none
 | a::r,i=>if a=i then r.head? else afterL r i
def U1(R:Nat->Nat)(x:Option Nat):Option Addr:=x.map λi=>⟨R i,0,none⟩
def recC(E:Env)(R:Nat->Nat)(bk:List Nat)(i:Nat):Pr:=Cells (R i) E.GJ [.int .i64 ((i:Int)+1),.bool (!bk.contains i),.pointer (U1 R (afterL bk i))]
structure FInv(X:FX):Prop where
 nd:X.bk.Nodup
 lt: ∀i∈X.bk,i<X.n
 Nx:X.n<=1099511627776
def rO(E:Env)(b:Nat)(X:FX)(s:AY)(R:Nat->Nat)(c:Int):List Pr:=
 [Cells b E.LD [.int .i64 1,FI s,.pointer (U1 R X.bk.head?),.int .i64 c],Row E.Fb 1 s ((List.range X.n).map λi=>.pointer (some ⟨R i,0,none⟩)),Aj (recC E R X.bk) (List.range X.n)]
def Gg(E:Env)(b:Nat)(X:FX):Pr:=Ex λx:AY×(Nat->Nat)×Int=>Jt (FInv X) (Kx (rO E b X x.1 x.2.1 x.2.2))
section
variable{E:Env}{b:Nat}{X:FX}{Z:List Pr}{w:World}{s:AY}{R:Nat->Nat}{c:Int}
def Sat.fix:Sat (Gg E b X::Z) w↔ ∃s R c,FInv X/\Sat (rO E b X s R c++Z) w:=by
 unfold Gg;rw[Sat.ex];constructor
 .rintro⟨⟨s,R,c⟩,h⟩;rw[Sat.where,Sat.star]at h
  grind
 .rintro⟨s,R,c,h1,a⟩;refine⟨⟨s,R,c⟩,?_⟩;rw[Sat.where,Sat.star]
  grind
def mU(H:Sat Z w){K:Option Addr->Int->World->Prop}(u: ∀b w',Sat (Gg E b ⟨0,[]⟩::Z) w'->K (sM b) 0 w'):F.Ts E 1 K w:=by
 unfold F.Ts;refine Ad (AR (by decide) λj=>AR (by decide) ?_);refine AJ (vs:=[.int .i64 1,.slice none 0 0,.pointer none,.int .i64 0]) H λb w' a _=>u b w' (Sat.fix.2 ⟨⟨none,0,0⟩,λ_=>0,0,⟨.nil,λi h=>(by cases h),by decide⟩,?_⟩);have h1:=a.nil E.Fb 1;have e:Sat (Aj (recC E (λ_=>0) []) []::_) w':=h1.NI (recC E (λ_=>0) []);exact e.perm ((List.reverse_perm [_,_,_]).symm.append_right Z)
def W9{l:List Nat}{i:Nat}(h:i∉l):afterL l i=none:=by
 induction l with
 | nil=>rfl
 | cons a r ih=>
  unfold afterL
  grind
def U2{n a x:Nat}(j:a<n)(e:x∈(List.range n).eraseIdx a):x≠a:=by
 obtain⟨i,hi⟩:=List.mem_iff_getElem?.1 e;rw[List.getElem?_eraseIdx]at hi;split at hi
 .rename_i h;rw[List.getElem?_range (by omega)]at hi;cases hi;omega
 .rename_i h;have u:=(List.getElem?_eq_some_iff.1 hi).1
  grind
def eX(H:Sat (Gg E b X::Z) w)(aV:X.n<1099511627776){K:Int->World->Prop}
  (aO:X.bk=[]-> ∀w',Sat (Gg E b ⟨X.n+1,[]⟩::Z) w'->K ((X.n:Int)+1) w')
  (aP: ∀a r,X.bk=a::r-> ∀w',Sat (Gg E b ⟨X.n,r⟩::Z) w'->K ((a:Int)+1) w'):F.K2 E (sM b) K w:=by
 obtain⟨s,R,c,hI,H⟩:=Sat.fix.1 H;unfold F.K2;simp only[AK];refine⟨_,H.cell rfl,?_⟩;cases hb:X.bk with
 | nil=>
  unfold rO at H;rw[hb]at H;have hl:=(H.front 1 rfl).CK;rw[List.length_map,List.length_range,Nat.mul_one]at hl;refine Ad (Aa rfl ⟨s,H.cell rfl,?_⟩);rw[AI (n:=((s.len:Nat):Int)+1),<-hl];refine AJ (vs:=[.int .i64 ((X.n:Int)+1),.bool false,.pointer none]) H λe w9 H9 _=>⟨s,(H9.front 1 rfl).cell rfl,?_⟩;refine AJ (vs:=[.pointer (sM e)]) H9 λaZ a2 aE _=> ?_;refine GH (news:=[.pointer (sM e)]) (aE.BQ 2 rfl) rfl rfl (by intro v hv;simp at hv;subst hv;rfl) (by omega) (by omega) λM6 a3 aF _=> ?_;refine Af (aF.front 2 rfl) (o:=0) (m:=1) rfl (by simp) λa4 aG j=> ?_;simp only[AK];have aH:=aG.front 2 rfl;refine Af aH (o:=0) (m:=1) rfl (by simp) λaR aA=>Af aA (o:=0) (m:=2) rfl (by simp) λaS aB=> ?_;have u:=aB.front 1 rfl;refine⟨_,u.cell rfl,Af u (o:=0) (m:=3) rfl (by simp) λO J=>⟨_,(J.front 1 rfl).AW rfl,aO hb O ?_⟩⟩;refine Sat.fix.2 ⟨M6,λi=>if i=X.n then e else R i,i64 (c+1),⟨.nil,λi h=>(by cases h),by grind⟩,?_⟩;have e1:(List.range (X.n+1)).map (λi=>Value.pointer (some ⟨(if i=X.n then e else R i),0,none⟩))=((List.range X.n).map λi=>Value.pointer (some ⟨R i,0,none⟩))++[.pointer (sM e)]:=by
   rw[List.range_succ,List.map_append];congr 1
   .refine List.map_congr_left λi hi=> ?_
    grind
   .simp
  have e2:Aj (recC E R []) (List.range X.n)=Aj (recC E (λi=>if i=X.n then e else R i) []) (List.range X.n):=Aj.congr λx hx=>by
   have:=List.mem_range.1 hx;show recC E R [] x=Cells (if x=X.n then e else R x) _ _;rw[if_neg (by omega)];rfl
  have e3:recC E (λi=>if i=X.n then e else R i) [] X.n=Cells e E.GJ [.int .i64 ((X.n:Int)+1),.bool true,.pointer none]:=by
   show Cells (if X.n=X.n then e else R X.n) _ _=_;rw[if_pos rfl];rfl
  have T:=(J.front 3 rfl).BQ 1 rfl|>λh=>h.perm (.swap _ _ _);have aC:Sat (recC E (λi=>if i=X.n then e else R i) [] X.n::Aj (recC E (λi=>if i=X.n then e else R i) []) (List.range X.n)::Cells b E.LD [.int .i64 1,FI M6,.pointer none,.int .i64 (i64 (c+1))]::Row E.Fb 1 M6 (((List.range X.n).map λi=>Value.pointer (some ⟨R i,0,none⟩))++[.pointer (sM e)])::Z) O:=by
   rw[e3,<-e2];exact T
  have Y:=aC.UX;rw[<-List.range_succ]at Y;unfold rO;rw[e1];exact Y.perm (by
   have: ∀(a b c:Pr),(a::b::c::Z).Perm (b::c::a::Z):=λa b c=>(List.perm_middle (l₁:=[b,c]) (a:=a)).symm;exact this _ _ _)
 | cons a r=>
  unfold rO at H;rw[hb]at H;have ha:a<X.n:=hI.lt a (by rw[hb];simp);have aD:=hI.nd;rw[hb]at aD;have aN:a∉r:=(List.nodup_cons.1 aD).1;have hg:(List.range X.n)[a]? =some a:=List.getElem?_range ha;have H2:=(H.front 2 rfl).FQ hg;have e0:U1 R (afterL (a::r) a)=U1 R r.head?:=by unfold afterL;grind
  have aL:recC E R (a::r) a=Cells (R a) E.GJ [.int .i64 ((a:Int)+1),.bool (!(a::r).contains a),.pointer (U1 R r.head?)]:=by unfold recC;rw[e0]
  rw[aL]at H2;refine Ad (AR rfl ?_);show NC (some (Addr.mk (R a) 0 none)) _;simp only[AK];refine⟨_,H2.cell rfl,Af (H2.front 2 rfl) (o:=0) (m:=2) rfl (by simp) λa5 aJ j=> ?_⟩;show NC (some (Addr.mk (R a) 0 none)) _;simp only[AK];have aK:=aJ.front 1 rfl;refine Af aK (o:=0) (m:=1) rfl (by simp) λaR aA=> ?_;show NC (some (Addr.mk (R a) 0 none)) _;simp only[AK];refine Af aA (o:=0) (m:=2) rfl (by simp) λaS aB=> ?_;have u:=aB.front 1 rfl;refine⟨_,u.cell rfl,Af u (o:=0) (m:=3) rfl (by simp) λO J=> ?_⟩;show NC (some (Addr.mk (R a) 0 none)) _;simp only[AK];refine⟨_,(J.front 1 rfl).AW rfl,aP a r hb O ?_⟩;refine Sat.fix.2 ⟨s,R,i64 (c+1),⟨(List.nodup_cons.1 aD).2,λi hi=>hI.lt i (by rw[hb];simp[hi]),hI.Nx⟩,?_⟩;have e3:recC E R r a=Cells (R a) E.GJ [.int .i64 ((a:Int)+1),.bool true,.pointer none]:=by
   unfold recC;rw[W9 aN];have:r.contains a=false:=by grind
   rw[this];rfl
  have e2:Aj (recC E R (a::r)) ((List.range X.n).eraseIdx a)=Aj (recC E R r) ((List.range X.n).eraseIdx a):=Aj.congr λx hx=>by
   have a1:=U2 ha hx;unfold recC;have h1:(a::r).contains x=r.contains x:=by grind
   have h2:afterL (a::r) x=afterL r x:=by
    show(if a=x then r.head? else afterL r x)=_
    grind
   rw[h1,h2]
  have T:=(J.front 1 rfl).BQ 1 rfl;rw[e2]at T;have aC:Sat (recC E R r a::Aj (recC E R r) ((List.range X.n).eraseIdx a)::Cells b E.LD [.int .i64 1,FI s,.pointer (U1 R r.head?),.int .i64 (i64 (c+1))]::Row E.Fb 1 s ((List.range X.n).map λi=>.pointer (some ⟨R i,0,none⟩))::Z) O:=by
   rw[e3];exact T
  have Y:=aC.Jb hg;exact Y.perm (by
   have: ∀(a b c:Pr),(a::b::c::Z).Perm (b::c::a::Z):=λa b c=>(List.perm_middle (l₁:=[b,c]) (a:=a)).symm;exact this _ _ _)
def eY(H:Sat (Gg E b X::Z) w){a:Nat}(ha:a<X.n)(v:a∉X.bk){K:Int->World->Prop}(hK: ∀w',Sat (Gg E b ⟨X.n,a::X.bk⟩::Z) w'->K 0 w'):F.GP E (sM b) ((a:Int)+1) K w:=by
 obtain⟨s,R,c,hI,H⟩:=Sat.fix.1 H;have aH:=hI.Nx;have hl:=(H.front 1 rfl).CK;rw[List.length_map,List.length_range,Nat.mul_one]at hl;have hg:(List.range X.n)[a]? =some a:=List.getElem?_range ha;have aF:((List.range X.n).map λi=>Value.pointer (some ⟨R i,0,none⟩))[a]? =some (.pointer (some ⟨R a,0,none⟩)):=by grind
 obtain⟨x,J⟩:=(H.front 1 rfl).own.G7 (by omega);have hc:=(H.front 1 rfl).own.cell J aF;unfold F.GP T0.GP F.NO;simp only[AK,Nat.mul_one];have et:Int.toNat (i64 (((a:Int)+1)-1))=a:=by rw[AI];omega
 have H2:=(H.front 2 rfl).FQ hg;have e0:recC E R X.bk a=Cells (R a) E.GJ [.int .i64 ((a:Int)+1),.bool true,.pointer none]:=by
  unfold recC;rw[W9 v];have:X.bk.contains a=false:=by grind
  rw[this];rfl
 rw[e0]at H2;refine Aa (decide_eq_true (by omega)) ⟨s,H.cell rfl,Aa (decide_eq_true (by omega)) ⟨s,H.cell rfl,?_⟩⟩;rw[J];simp only[AK];rw[et];have u:(0:Int)<=i64 (((a:Int)+1)-1)/\i64 (((a:Int)+1)-1)<(s.len:Nat):=by rw[AI];omega
 refine⟨u,_,hc,?_⟩;simp only[AK];refine⟨true,H2.cell rfl,AR rfl ⟨s,H.cell rfl,?_⟩⟩;rw[J];simp only[AK];refine⟨u,_,hc,_,H.cell rfl,?_⟩;simp only[AK];refine Af H2 (o:=0) (m:=1) rfl (by simp) λaP T=>Af T (o:=0) (m:=2) rfl (by simp) λaQ Y=> ?_;refine Af (Y.front 2 rfl) (o:=0) (m:=2) rfl (by simp) λaR e=>⟨_,e.cell rfl,Af e (o:=0) (m:=3) rfl (by simp) λO aA=>hK O ?_⟩;refine Sat.fix.2 ⟨s,R,i64 (c-1),⟨List.nodup_cons.2 ⟨v,hI.nd⟩,λi hi=> ?_,hI.Nx⟩,?_⟩
 .rcases List.mem_cons.1 hi with h|h
  .subst h;exact ha
  .exact hI.lt i h
 .have e3:recC E R (a::X.bk) a=Cells (R a) E.GJ [.int .i64 ((a:Int)+1),.bool false,.pointer (U1 R X.bk.head?)]:=by
   unfold recC;have:(a::X.bk).contains a=true:=by simp
   rw[this];have:afterL (a::X.bk) a=X.bk.head?:=by unfold afterL;grind
   grind
  have e2:Aj (recC E R X.bk) ((List.range X.n).eraseIdx a)=Aj (recC E R (a::X.bk)) ((List.range X.n).eraseIdx a):=Aj.congr λx J=>by
   have aO:=U2 ha J;unfold recC;have h1:(a::X.bk).contains x=X.bk.contains x:=by grind
   have h2:afterL (a::X.bk) x=afterL X.bk x:=by
    show(if a=x then X.bk.head? else afterL X.bk x)=_
    grind
   rw[h1,h2]
  have j:=(aA.front 1 rfl).BQ 1 rfl;rw[e2]at j;have aC:Sat (recC E R (a::X.bk) a::Aj (recC E R (a::X.bk)) ((List.range X.n).eraseIdx a)::Cells b E.LD [.int .i64 1,FI s,.pointer (some ⟨R a,0,none⟩),.int .i64 (i64 (c-1))]::Row E.Fb 1 s ((List.range X.n).map λi=>.pointer (some ⟨R i,0,none⟩))::Z) O:=by
   rw[e3];exact j
  have aD:=Sat.Jb aC hg;exact aD.perm (by
   have: ∀(a b c:Pr),(a::b::c::Z).Perm (b::c::a::Z):=λa b c=>(List.perm_middle (l₁:=[b,c]) (a:=a)).symm;exact this _ _ _)
end
abbrev mV:=Int×Int×Int×Int
def Nr(e:mV):List Value:=[.int .i64 e.1,.int .i64 e.2.1,.int .i64 e.2.2.1,.int .u32 e.2.2.2]
def Bp(e:mV):(Nr e).length=4:=rfl
def rQ(e:mV): ∀v∈Nr e,v.oneCell'=true:=by intro v a;simp[Nr]at a;rcases a with rfl|rfl|rfl|rfl<;>rfl
def mW(n:Int):Bool:=(n !=0)&&(EA .u64 0 n (u64 (n-1))==0)
def Mw(size a:Int):Int:=if mW (u64 size)=false then a else if 2048<=size then 256 else if 128<=size then i64 (Int.tdiv size 8)else if 32<=size then 16 else a
def bytesF(size:Int):Nat->Int->Int
 | 0,n=>n
 | k+1,n=>if Int.tmod n size>i64 (Int.tdiv n 8)then bytesF size k (i64 (n+8192))else n
def jU(size n:Int):Bool:=decide (¬Int.tmod n size>i64 (Int.tdiv n 8))
structure XA where
 QX:Int
 size:Int
 l:List mV
def XA.last(s:XA):mV:=s.l.getLastD (0,0,0,0)
def XA.same(s:XA):Bool:=decide (1<s.l.length)&&(s.last.2.1==i64 (Int.tdiv (bytesF s.size 16 8192) 8192)&&(i64 (Int.tdiv (i64 (s.last.2.1*8192)) s.last.1)==i64 (Int.tdiv (bytesF s.size 16 8192) s.size)))
def XA.next(s:XA):XA:=
 ⟨Mw s.size s.QX,i64 (s.size+Mw s.size s.QX),
  if s.same=true then s.l.dropLast++[(s.size,s.last.2)]else s.l++[(s.size,i64 (Int.tdiv (bytesF s.size 16 8192) 8192),0,0)]⟩
def XA.eZ(s:XA):Bool:=decide (8<=s.size)&&(decide (s.size<=32768)&&(jU s.size (bytesF s.size 16 8192)&&(decide (0<s.l.length)&&(decide (s.l.length<=200)&&((decide (8<=Mw s.size s.QX)&&decide (Mw s.size s.QX<=10000))&&(decide (s.l.length=1)||s.last.1 !=0))))))
def Z0:Nat->XA
 | 0=>⟨8,8,[(0,0,0,0)]⟩
 | n+1=>(Z0 n).next
def runAll:Nat->XA->Bool×XA
 | 0,s=>(true,s)
 | n+1,s=>match s.eZ with
  | true=>runAll n s.next
  | false=>(false,s)
def Sz: ∀(n k:Nat) {s:XA},(runAll n (Z0 k))=(true,s)->(∀j,j<n->(Z0 (k+j)).eZ=true)/\Z0 (k+n)=s
 | 0,k,s,h=>⟨λj a=>by omega,(Prod.mk.inj h).2⟩
 | n+1,k,s,h=>by
  unfold runAll at h;split at h
  .rename_i hg;have e:=Sz n (k+1) (s:=s) h;refine⟨λj a=> ?_,by rw[<-e.2,show k+1+n=k+(n+1) by omega]⟩;cases j with
   | zero=>exact hg
   | succ j=>grind
  .cases h
def Io(c:mV):mV:=
 let n:=i64 (c.2.1*8192)
 let wide:=i64 (i64 (Int.tdiv (i64 (Int.tdiv n (i64 (Int.tdiv n c.1)))) 128)*128)
 let sz:=if wide>c.1 then wide else c.1
 (sz,c.2.1,i64 (Int.tdiv n sz),if IntKind.wrap .u32 sz<2 then 0 else IntKind.wrap .u32 (IntKind.wrap .u32 (Int.tdiv 4294967295 (IntKind.wrap .u32 sz))+1))
def rR(c:mV):Bool:=(c.1 !=0)&&((i64 (Int.tdiv (i64 (c.2.1*8192)) c.1) !=0)&&((Io c).1 !=0&&(decide (IntKind.wrap .u32 (Io c).1<2)||IntKind.wrap .u32 (Io c).1 !=0)))
def rounds:Nat:=162
def fA:XA:=(runAll rounds (Z0 0)).2
def PX:List mV:=match fA.l with
 | []=>[]
 | c::r=>c::r.map Io
def run_ok:(runAll rounds (Z0 0)).1=true:=by decide+kernel
def yM:fA.size>32768:=by decide+kernel
def yN:fA.l.length=68:=by decide+kernel
def yO:(fA.l.tail.all rR)=true:=by decide+kernel
def NS:PX.length=68:=by decide+kernel
def runs:(∀j,j<rounds->(Z0 j).eZ=true)/\Z0 rounds=fA:=by
 have h:runAll rounds (Z0 0)=(true,fA):=Prod.ext run_ok rfl;have:=Sz rounds 0 h
 grind
structure MkG(s:XA):Prop where
 s0:8<=s.size
 s1:s.size<=32768
 QX:Int.tmod (bytesF s.size 16 8192) s.size<=i64 (Int.tdiv (bytesF s.size 16 8192) 8)
 l0:0<s.l.length
 l1:s.l.length<=200
 st0:8<=Mw s.size s.QX
 st1:Mw s.size s.QX<=10000
 nz:1<s.l.length->s.last.1≠0
def Z1{s:XA}(h:s.eZ=true):MkG s:=by
 unfold XA.eZ jU at h;simp only[Bool.and_eq_true,decide_eq_true_eq,Bool.or_eq_true,bne_iff_ne]at h;obtain⟨h1,a,J,e,j,⟨u,v⟩,K⟩:=h;exact⟨h1,a,by omega,e,j,u,v,λh=>by omega⟩
section
variable{E:Env}{w:World}{Z:List Pr}
def U4{n:Int}{K:Bool->World->Prop}(a:K (mW n) w):F.Q4 E n K w:=by
 unfold F.Q4;unfold mW at a;refine Gm (λh=> ?_) λh=> ?_
 .rw[show(n !=0)=true by grind,Bool.true_and]at a;exact a
 .subst h;exact a
def mX{size e:Int}(h0:8<=size){K:Int->World->Prop}(a:K (Mw size e) w):F.ID E size e K w:=by
 unfold F.ID T0.ID;unfold Mw at a;refine U4 ?_;cases hp:mW (u64 size)
 .rw[hp,if_pos rfl]at a;exact Aa rfl a
 .rw[hp,if_neg (by decide)]at a;refine AR rfl (AE (λh=> ?_) λh=>AE (λj=>⟨by decide,?_⟩) λj=>AE (λu=> ?_) λu=> ?_)
  .rw[if_pos h]at a;exact a
  .rw[if_neg h,if_pos j]at a;exact a
  .rw[if_neg h,if_neg j,if_pos u]at a;exact a
  .rw[if_neg h,if_neg j,if_neg u]at a;exact a
def fB{size:Int}(O:size≠0)(Bl:Int.tmod (bytesF size 16 8192) size<=i64 (Int.tdiv (bytesF size 16 8192) 8)){K:Int->World->Prop}(T:K (bytesF size 16 8192) w):F.L7 E size 8192 K w:=by
 unfold F.L7;refine AM (λst w'=>w'=w/\ ∃i:Nat,i<=16/\st.1=8192+i*8192/\bytesF size (16-i) st.1=bytesF size 16 8192) (λst _=>(200000-st.1).toNat) ⟨rfl,0,by decide,by omega,rfl⟩ ?_;rintro⟨n,v⟩ _ Y ⟨rfl,i,hi,J,a⟩;dsimp only at J a⊢;refine⟨O,by decide,AE (λe=> ?_) λhle=> ?_⟩
 .rcases Nat.lt_or_ge i 16 with j|j
  .obtain⟨k,u⟩: ∃k,16-i=k+1:=⟨15-i,by omega⟩;rw[u]at a;rw[AI (n:=n+8192)];refine⟨⟨by trivial,i+1,by omega,by omega,?_⟩,by omega⟩;rw[<-a,show 16-(i+1)=k by omega];unfold bytesF;rw[if_pos e,AI (n:=n+8192)];cases k<;>rfl
  .have:i=16:=by omega
   subst this;have:bytesF size 0 n=n:=rfl
   grind
 .have:bytesF size (16-i) n=n:=by
   cases h:16-i with
   | zero=>rfl
   | succ k=>unfold bytesF;rw[if_neg (by omega)]
  grind
def fC{n:Int}(j:n<2∨n≠0){K:Int->World->Prop}(a:K (if n<2 then 0 else IntKind.wrap .u32 (IntKind.wrap .u32 (Int.tdiv 4294967295 n)+1)) w):F.PK E n K w:=by
 unfold F.PK;refine AE (λh=> ?_) λh=>⟨by omega,AZ λx e=> ?_⟩
 .rw[if_pos h]at a;exact a
 .rw[if_neg h]at a;rw[e];exact a
def rT{L:List mV}(h:0<L.length)(y:mV):L.set (L.length-1) y=L.dropLast++[y]:=by
 apply List.ext_getElem?
 grind
def rU{L:List mV}(h:0<L.length):L[L.length-1]? =some (L.getLastD (0,0,0,0)):=by grind
def QD(H:Sat Z w){K:AY->World->Prop}(hK: ∀s w',Sat (Row E.DA 4 s (FJ Nr PX)::Z) w'->K s w'):F.Fc E K w:=by
 unfold F.Fc T0.Fc F.JF T0.JF;have p1:mW (u64 8192)=true:=by decide+kernel
 have p2:mW (u64 32768)=true:=by decide+kernel
 refine Ad (AR (by decide) (AR (by decide) (U4 ?_)));rw[p1];refine AR rfl (AR (by decide) (AR (by decide+kernel) (U4 ?_)));rw[p2];refine λj=>AR rfl ?_;obtain⟨Y,aF⟩:=runs;refine NJ (n:=1) (z:=4) H rfl (by decide) λb8 w9 H9=> ?_;refine AM (λst w'=> ∃k:Nat,k<=rounds/\st.2.1=(Z0 k).QX/\st.2.2.1=(Z0 k).size/\Sat (Row E.DA 4 st.1 (FJ Nr (Z0 k).l)::Z) w') (λst _=>(40000-st.2.2.1).toNat)
  ⟨0,Nat.zero_le _,rfl,rfl,H9⟩ ?_
 rintro⟨GM,QX,size,v⟩ _ bV ⟨k,hk,aH,aE,u⟩;dsimp only at aH aE u⊢;have hl:=u.Og (by decide) Bp;refine AE (λhle=> ?_) λaT=> ?_
 .have aI:k<rounds:=by
   rcases Nat.lt_or_eq_of_le hk with g|g
   .exact g
   .subst g;rw[aF]at aE;have:=yM;omega
  have hg:=Z1 (Y k aI);rw[aH,aE];generalize hS:Z0 k=S at hg aE aH u hl⊢;have aC:Z0 (k+1)=S.next:=by rw[<-hS];rfl
  have bJ:=hg.s0;have bK:=hg.s1;have aS:=hg.l0;have a6:=hg.l1;refine mX hg.s0 (fB (by omega) hg.QX ?_);have a:=rU aS;obtain⟨b,J⟩:=u.RN (by decide) Bp (i:=S.l.length-1) (by omega);rw[J];simp only[AK];rw[AI (n:=((GM.len:Nat):Int)-1)];have et:Int.toNat (((GM.len:Nat):Int)-1)=S.l.length-1:=by omega
  rw[et];have Hd:=u.drew;have c0:=Hd.JA Bp J a (j:=0) rfl;have c1:=Hd.JA Bp J a (j:=1) rfl;have aJ:S.l.getLastD (0,0,0,0)=S.last:=rfl;rw[aJ]at c0 c1 a;rw[Nat.add_zero]at c0;have bA:=hg.st0;have bB:=hg.st1;rw[AI (n:=S.size+Mw S.size S.QX)];have a9:S.next.size=S.size+Mw S.size S.QX:=AI;refine⟨⟨by omega,by omega⟩,?_⟩;refine AV (λst w'=>st.1=S.same/\Sat (Row E.DA 4 GM (FJ Nr S.l)::Z) w') ?_ ?_
  .unfold XA.same;refine AE (λh1=>⟨S.last.2.1,by rw[add_add];exact c1,by decide,C6 (λe1=> ?_) λe1=> ?_⟩) λh1=> ?_
   .have d1:decide (1<S.l.length)=true:=decide_eq_true (by omega);have aZ:=c0;have a0:=c1;refine⟨S.last.2.1,by rw[add_add];exact a0,S.last.1,aZ,hg.nz (by omega),by omega,?_,Hd⟩
    grind
   .refine⟨?_,Hd⟩
    grind
   .refine⟨?_,Hd⟩
    grind
  rintro⟨x,v⟩ _ bW ⟨hx,aL⟩;dsimp only at hx;subst hx;refine AX (λe=> ?_) λe=>⟨by decide,?_⟩
  .have hs:=Ko aL (j:=(S.l.length-1)*4) (v:=.int .i64 S.size) (K:=λaV=>(∃k:Nat,k<=rounds/\Mw S.size S.QX=(Z0 k).QX/\S.size+Mw S.size S.QX=(Z0 k).size/\Sat (Row E.DA 4 GM (FJ Nr (Z0 k).l)::Z) aV)/\(40000-(S.size+Mw S.size S.QX)).toNat<(40000-S.size).toNat) rfl (by rw[Mv Bp];omega) J λaV aW=>⟨⟨k+1,by omega,by rw[aC];rfl,by grind,?_⟩,by omega⟩
   .exact hs
   .have:=Of Bp a (j:=0) (y:=(S.size,S.last.2)) (v:=.int .i64 S.size) (by decide) rfl;rw[Nat.add_zero]at this;rw[this,rT aS]at aW;rw[aC];unfold XA.next
    grind
  .refine AJ aL λbG bX aX _=> ?_;refine GH (news:=Nr (S.size,i64 (Int.tdiv (bytesF S.size 16 8192) 8192),0,0)) aX rfl rfl (rQ _) (by omega) (by omega) λs27 bY aY _=>⟨⟨k+1,by omega,by rw[aC];rfl,by grind,?_⟩,by omega⟩;have e1:FJ Nr S.l++Nr (S.size,i64 (Int.tdiv (bytesF S.size 16 8192) 8192),0,0)=FJ Nr (S.l++[(S.size,i64 (Int.tdiv (bytesF S.size 16 8192) 8192),0,0)]):=by rw[RM];simp[FJ]
   rw[e1]at aY;rw[aC];unfold XA.next
   grind
 .have aI:k=rounds:=by
   rcases Nat.lt_or_eq_of_le hk with g|g
   .have:=(Z1 (Y k g)).s1;omega
   .exact g
  subst aI;rw[aF]at u hl;have hlen:=yN;cases hL:fA.l with
  | nil=>grind
  | cons c0 T=>
   rw[hL]at u hl hlen;have hT:T.length=67:=by grind
   have aR: ∀i c,T[i]? =some c->rR c=true:=λi c hc=>by
    have:=yO;rw[hL]at this;exact List.all_eq_true.1 this c (List.mem_of_getElem? hc)
   have bC:PX=c0::T.map Io:=by unfold PX;rw[hL]
   refine⟨⟨by decide,by omega⟩,?_⟩;refine AM (λst w'=> ∃i:Nat,st.1=(i:Int)/\i<=67/\Sat (Row E.DA 4 GM (FJ Nr (c0::((T.take i).map Io++T.drop i)))::Z) w') (λst _=>(67-st.1).toNat) ⟨0,rfl,by decide,u⟩ ?_;rintro⟨i',v⟩ _ a5 ⟨i,hi,a7,O⟩;dsimp only at hi⊢;subst hi;refine AE (λbO=> ?_) λbL=> ?_
   .have bN:i<67:=by omega
    obtain⟨c,hc⟩: ∃c,T[i]? =some c:=⟨_,List.getElem?_eq_getElem (by omega)⟩;have Bl:=aR i c hc;unfold rR at Bl;simp only[Bool.and_eq_true,Bool.or_eq_true,decide_eq_true_eq,bne_iff_ne]at Bl;obtain⟨o1,o2,o3,o4⟩:=Bl;rw[AI (n:=(i:Int)+1)];have et:Int.toNat ((i:Int)+1)=i+1:=by omega
    rw[et];generalize hF:(c0::((T.take i).map Io++T.drop i))=FX at O;have bI:FX.length=68:=by grind
    have aB:FX[i+1]? =some c:=by grind
    have a2:FX.set (i+1) (Io c)=c0::((T.take (i+1)).map Io++T.drop (i+1)):=by
     rw[<-hF,List.set_cons_succ];congr 1;have a3:c=T[i]:=by rw[List.getElem?_eq_getElem (by omega)]at hc;exact(Option.some.inj hc).symm
     rw[List.set_append_right _ _ (by rw[List.length_map,List.length_take];omega),List.length_map,List.length_take,Nat.min_eq_left (by omega),Nat.sub_self,List.take_succ_eq_append_getElem (by omega),List.map_append,List.drop_eq_getElem_cons (by omega),List.set_cons_zero,List.append_assoc,a3];rfl
    obtain⟨b,J⟩:=O.RN (by decide) Bp (i:=i+1) (by omega);rw[J];simp only[AK];have d0:=O.JA Bp J aB (j:=0) rfl;have d1:=O.JA Bp J aB (j:=1) rfl;rw[Nat.add_zero]at d0;refine⟨⟨by omega,by omega⟩,c.2.1,by rw[add_add];exact d1,?_⟩;refine AV (λ_ w'=>Sat (Row E.DA 4 GM (FJ Nr (FX.set (i+1) ((Io c).1,c.2)))::Z) w') ?_ ?_
    .refine⟨c.1,d0,o1,o2,by decide,AZ λwide aK=>⟨c.1,d0,AE (λaT=> ?_) λbP=> ?_⟩⟩
     .have e1:(Io c).1=wide:=by unfold Io;dsimp only;rw[<-aK,if_pos aT]
      refine Ko O (j:=(i+1)*4) rfl (by rw[Mv Bp];omega) J λb0 bE=> ?_;have:=Of Bp aB (j:=0) (y:=(wide,c.2)) (v:=.int .i64 wide) (by decide) rfl
      grind
     .have e1:(Io c).1=c.1:=by unfold Io;grind
      show Sat (Row E.DA 4 GM (FJ Nr (FX.set (i+1) ((Io c).1,c.2)))::Z) a5;rw[e1];have:FX.set (i+1) (c.1,c.2)=FX:=by
       have:=List.getElem?_eq_some_iff.1 aB;rw[show(c.1,c.2)=FX[i+1]from this.2.symm,List.set_getElem_self]
      grind
    rintro _ _ bZ aM;have g1:(FX.set (i+1) ((Io c).1,c.2))[i+1]? =some ((Io c).1,c.2):=by grind
    have f0:=aM.JA Bp J g1 (j:=0) rfl;rw[Nat.add_zero]at f0;have aD:i64 (Int.tdiv (i64 (c.2.1*8192)) (Io c).1)=(Io c).2.2.1:=rfl;refine⟨(Io c).1,f0,o3,?_⟩;rw[aD,add_add];refine Ko aM (j:=(i+1)*4+2) rfl (by rw[Mv Bp,List.length_set];omega) J λb1 aG=> ?_;have:=Of Bp g1 (j:=2) (y:=((Io c).1,c.2.1,(Io c).2.2.1,c.2.2.2)) (v:=.int .i64 (Io c).2.2.1) (by decide) rfl;rw[this,List.set_set]at aG;have g2:(FX.set (i+1) ((Io c).1,c.2.1,(Io c).2.2.1,c.2.2.2))[i+1]? =some ((Io c).1,c.2.1,(Io c).2.2.1,c.2.2.2):=by grind
    have aP:=aG.JA Bp J g2 (j:=0) rfl;rw[Nat.add_zero]at aP;refine⟨(Io c).1,aP,fC o4 ?_⟩;have aU:(if IntKind.wrap .u32 (Io c).1<2 then(0:Int)else IntKind.wrap .u32 (IntKind.wrap .u32 (Int.tdiv 4294967295 (IntKind.wrap .u32 (Io c).1))+1))=(Io c).2.2.2:=rfl;rw[aU,add_add];refine Ko aG (j:=(i+1)*4+3) rfl (by rw[Mv Bp,List.length_set];omega) J λb2 aN=>⟨⟨i+1,by omega,by omega,?_⟩,by omega⟩;have h3:=Of Bp g2 (j:=3) (y:=Io c) (v:=.int .u32 (Io c).2.2.2) (by decide) rfl;rw[h3,List.set_set,a2]at aN;exact aN
   .have bM:i=67:=by omega
    grind
end
structure SI where
 base:Int
 AD:Int
 state:Int
 cls:Int
 Eh:Bool
 elem:Int
 AO:Int
 used:Int
 f8:Bool
 f9:Bool
 Mx:Int
 uw:List Int
 mw:List Int
 look:Int
def F3(S:SI)(a sm:AY):List Value:=[.int .u64 S.base,.int .i64 S.AD,.int .i64 S.state,.int .i64 S.cls,.bool S.Eh,.int .i64 S.elem,.int .i64 S.AO,.int .i64 S.used,.bool S.f8,.bool S.f9,.int .u32 S.Mx,FI a,FI sm,.int .i64 S.look]
def Z2(E:Env)(b:Nat)(S:SI)(a sm:AY):List Pr:=[Cells b E.Eu (F3 S a sm),Row E.AF 1 a (ints .u64 S.uw),Row E.AF 1 sm (ints .u64 S.mw)]
def Cm(E:Env)(b:Nat)(S:SI):Pr:=Ex λx:AY×AY=>Kx (Z2 E b S x.1 x.2)
def A0(c:Int):mV:=PX.getD c.toNat (0,0,0,0)
def Kc(page AD c:Int):Prop:=AD=0∨34359738368<page∨34359738368-page<AD∨c<0∨68<=c∨(c=0/\134217728<AD)∨(0<c/\AD≠(A0 c).2.1)
def Gv(page AD c:Int)(Eh:Bool):SI:=⟨page*8192,AD,1,c,Eh,if c=0 then AD*8192 else(A0 c).1,if c=0 then 1 else(A0 c).2.2.1,0,false,false,(A0 c).2.2.2,[],[],0⟩
def mY:(PX.all λc=>decide (0<=c.2.1)&&decide (c.2.1<=100))=true:=by decide+kernel
def Ma{c:Int}(h0:0<=c)(h1:c<68):PX[c.toNat]? =some (A0 c):=by
 have a:c.toNat<PX.length:=by rw[NS];omega
 unfold A0
 grind
def RO{c:Int}(h0:0<=c)(h1:c<68):0<=(A0 c).2.1/\(A0 c).2.1<=100:=by
 have:=List.all_eq_true.1 mY _ (List.mem_of_getElem? (Ma h0 h1))
 grind
section
variable{E:Env}{b:Nat}{S:SI}{Z:List Pr}{w:World}
def Sat.span:Sat (Cm E b S::Z) w↔ ∃a sm,Sat (Z2 E b S a sm++Z) w:=by
 unfold Cm;rw[Sat.ex];constructor
 .rintro⟨⟨a,sm⟩,h⟩;exact⟨a,sm,Sat.star.1 h⟩
 .rintro⟨a,sm,h⟩;exact⟨⟨a,sm⟩,Sat.star.2 h⟩
def VA(H:Sat Z w){page AD c:Int}{np:Bool}(h0:0<=page)(p0:0<=AD)(p1:AD<18446744073709551616){K:Option Addr->Int->World->Prop}
  (aQ:Kc page AD c-> ∀w',Sat Z w'->K none 1 w')(aR: ¬Kc page AD c-> ∀b w',Sat (Cm E b (Gv page AD c np)::Z) w'->K (sM b) 0 w'):F.KX E page AD c np K w:=by
 unfold F.KX T0.KX;refine QD H λr1 w2 H2=> ?_;have hl:=H2.Og (by decide) Bp;rw[NS]at hl;have ct:0<=c->c<68-> ∃x,r1.base=some ⟨x,0,none⟩/\ ∀{w'} {Y:List Pr},Sat (Row E.DA 4 r1 (FJ Nr PX)::Y) w'->w'.cell? ((Addr.mk x 0 none).add (Int.toNat c*4))=some (.int .i64 (A0 c).1)/\w'.cell? (((Addr.mk x 0 none).add (Int.toNat c*4)).add 1)=some (.int .i64 (A0 c).2.1)/\
   w'.cell? (((Addr.mk x 0 none).add (Int.toNat c*4)).add 2)=some (.int .i64 (A0 c).2.2.1)/\w'.cell? (((Addr.mk x 0 none).add (Int.toNat c*4)).add 3)=some (.int .u32 (A0 c).2.2.2):=λc0 c1=>by
  obtain⟨x,J⟩:=H2.RN (by decide) Bp (i:=c.toNat) (by rw[NS];omega);refine⟨x,J,λh=>⟨?_,?_,?_,?_⟩⟩
  .have:=h.JA Bp J (Ma c0 c1) (j:=0) rfl;omega
  .rw[add_add];exact h.JA Bp J (Ma c0 c1) (j:=1) rfl
  .rw[add_add];exact h.JA Bp J (Ma c0 c1) (j:=2) rfl
  .rw[add_add];exact h.JA Bp J (Ma c0 c1) (j:=3) rfl
 have a:Kc page AD c->K none 1 w2:=λh=>aQ h w2 H2.tail;have main: ¬Kc page AD c->
   NC r1.base λaH=>
   ((0:Int)<=c/\(c:Int)<(r1.len:Nat))/\
   ∃aB:Int,w2.drew.cell? (aH.add (Int.toNat c*4))=some (.int .i64 aB)/\
   NC r1.base λaI=>
   ((0:Int)<=c/\(c:Int)<(r1.len:Nat))/\
   ∃aC:Int,w2.drew.cell? ((aI.add (Int.toNat c*4)).add 2)=some (.int .i64 aC)/\
   NC r1.base λaJ=>
   ((0:Int)<=c/\(c:Int)<(r1.len:Nat))/\
   ∃aD:Int,w2.drew.cell? ((aJ.add (Int.toNat c*4)).add 3)=some (.int .u32 aD)/\
   AL (.cells #[.int .u64 (u64 (page*8192)),.int .i64 (i64 (AD)),.int .i64 1,.int .i64 c,.bool np,.int .i64 aB,.int .i64 aC,.int .i64 0,.bool false,.bool false,.int .u32 aD,.slice none 0 0,.slice none 0 0,.int .i64 0] E.Eu) w2.drew λu v=>
   v.cell? ((aJ.add (Int.toNat c*4)).add 3)=some (.int .u32 aD)/\
   v.cell? ((aI.add (Int.toNat c*4)).add 2)=some (.int .i64 aC)/\
   v.cell? (aH.add (Int.toNat c*4))=some (.int .i64 aB)/\
   CND ((c:Int)==0) (
    stCells ((Addr.mk u 0 none).add 5) 0 [.int .i64 (i64 ((i64 (AD))*8192))] v λaK=>
    stCells ((Addr.mk u 0 none).add 6) 0 [.int .i64 1] aK λaL=>
    K (some (Addr.mk u 0 none)) 0 aL
   ) (
    K (some (Addr.mk u 0 none)) 0 v
   ):=λaG=>by
  have O:=aG;unfold Kc at O;have c0:0<=c:=by omega
  have c1:c<68:=by omega
  have aP:=RO c0 c1;have aY:AD<=134217728:=by
   by_cases e:c=0
   .omega
   .have:AD=(A0 c).2.1:=Classical.byContradiction λh=>O (.inr (.inr (.inr (.inr (.inr (.inr ⟨by omega,h⟩))))));omega
  obtain⟨x,J,CO⟩:=ct c0 c1;have Hd:=H2.drew;obtain⟨d0,d1,d2,d3⟩:=CO Hd;have aA:(0:Int)<=c/\(c:Int)<(r1.len:Nat):=by omega
  rw[J];simp only[AK];refine⟨aA,_,d0,aA,_,d2,aA,_,d3,?_⟩;rw[AP (n:=page*8192),AI (n:=AD),AI (n:=AD*8192)];refine AJ (vs:=[.int .u64 (page*8192),.int .i64 AD,.int .i64 1,.int .i64 c,.bool np,.int .i64 (A0 c).1,.int .i64 (A0 c).2.2.1,.int .i64 0,.bool false,.bool false,.int .u32 (A0 c).2.2.2,.slice none 0 0,.slice none 0 0,.int .i64 0]) Hd λu v T _=> ?_;obtain⟨f0,f1,f2,f3⟩:=CO (T.front 1 rfl);have fin: ∀{w'} {el sl:Int},el=(if c=0 then AD*8192 else(A0 c).1)->sl=(if c=0 then 1 else(A0 c).2.2.1)->
    Sat (Cells u E.Eu [.int .u64 (page*8192),.int .i64 AD,.int .i64 1,.int .i64 c,.bool np,.int .i64 el,.int .i64 sl,.int .i64 0,.bool false,.bool false,.int .u32 (A0 c).2.2.2,.slice none 0 0,.slice none 0 0,.int .i64 0]::Row E.DA 4 r1 (FJ Nr PX)::Z) w'->K (sM u) 0 w':=λe1 e2 h=>by
   subst e1;subst e2;refine aR aG u _ (Sat.span.2 ⟨⟨none,0,0⟩,⟨none,0,0⟩,?_⟩);have h1:=(h.front 1 rfl).tail;have h2:=h1.nil E.AF 1;have h3:=h2.nil E.AF 1;exact h3.perm ((List.reverse_perm [_,_,_]).symm.append_right Z)
  refine⟨f3,f2,f0,C6 (λe=> ?_) λe=>fin (by omega) (by omega) T⟩;refine Af T (o:=0) (m:=5) rfl (by simp) λaK aM=>Af aM (o:=0) (m:=6) rfl (by simp) λaL aN=>fin (by omega) (by omega) aN
 refine Ad (C6 (λe j=>Aa rfl (a (.inl e))) λn1=>AE (λe j=>Aa rfl (a (.inr (.inl (by omega))))) λn2=> ?_);rw[AP (n:=34359738368-page)];refine AE (λe j=>Aa rfl (a (.inr (.inr (.inl (by omega)))))) λn3=>AE (λe j=>Aa rfl (a (.inr (.inr (.inr (.inl e)))))) λn4=>AE (λe j=>Aa rfl (a (.inr (.inr (.inr (.inr (.inl (by omega)))))))) λn5=>C6 (λe0=>AE (λe j=>Aa rfl (a (.inr (.inr (.inr (.inr (.inr (.inl ⟨e0,by omega⟩)))))))) λn6=>AE (λe=>by omega) λn7 j=>AR rfl (main ?_)) λe0=>AE (λe=> ?_) λn7=>by omega
 .unfold Kc;omega
 .obtain⟨x,J,CO⟩:=ct (by omega) (by omega);have aP:=RO (c:=c) (by omega) (by omega);have aO:=(CO H2).2.1;have m':=main;rw[J]at m'⊢;simp only[AK]at m'⊢;refine⟨⟨by omega,by omega⟩,_,aO,λj=> ?_⟩;rw[AP (n:=(A0 c).2.1)];refine Gm (λh=>a (.inr (.inr (.inr (.inr (.inr (.inr ⟨by omega,h⟩))))))) λh=>m' ?_;unfold Kc;omega
def JS(H:Sat (Cm E b S::Z) w){K:Int->Int->Int->Int->Bool->Int->Int->Int->Bool->Bool->World->Prop}(u: ∀w',Sat (Cm E b S::Z) w'->K S.base S.AD S.state S.cls S.Eh S.elem S.AO S.used S.f8 S.f9 w'):
  F.Av E (sM b) K w:=by
 obtain⟨v,sm,H⟩:=Sat.span.1 H;unfold F.Av;simp only[AK];refine AJ (vs:=[.int .u64 0,.int .i64 0,.int .i64 0,.int .i64 0,.bool false,.int .i64 0,.int .i64 0,.int .i64 0,.bool false,.bool false]) H λb1 J j _=> ?_;have h:=j.front 1 rfl;refine⟨_,h.cell rfl,_,h.cell rfl,_,h.cell rfl,_,h.cell rfl,_,h.cell rfl,_,h.cell rfl,_,h.cell rfl,_,h.cell rfl,_,h.cell rfl,_,h.cell rfl,?_⟩;refine Bm (news:=[.int .u64 S.base,.int .i64 S.AD,.int .i64 S.state,.int .i64 S.cls,.bool S.Eh,.int .i64 S.elem,.int .i64 S.AO,.int .i64 S.used,.bool S.f8,.bool S.f9]) j rfl (by simp[Value.oneCell']) λe a=> ?_;exact⟨_,a.cell rfl,_,a.cell rfl,_,a.cell rfl,_,a.cell rfl,_,a.cell rfl,_,a.cell rfl,_,a.cell rfl,_,a.cell rfl,_,a.cell rfl,_,a.cell rfl,u e (Sat.span.2 ⟨v,sm,a.tail⟩)⟩
def fD(H:Sat (Cm E b S::Z) w){K:Int->World->Prop}(a:(S.state=0∨0<S.used)->K 33 w)
  (u: ¬(S.state=0∨0<S.used)-> ∀w',Sat (Cm E b {S with state:=0,used:=0,uw:=[],mw:=[]}::Z) w'->K 0 w'):F.KM E (sM b) K w:=by
 obtain⟨su,sm,H⟩:=Sat.span.1 H;unfold F.KM;simp only[AK];refine Ad ⟨_,H.cell rfl,C6 (λe j=>Aa rfl (a (.inl e))) λn1=>⟨_,H.cell rfl,λj=>AE (λe=>a (.inr e)) λn2=> ?_⟩⟩;refine Af H (o:=0) (m:=2) rfl (by simp[F3]) λw1 H1=>Af H1 (o:=0) (m:=7) rfl (by simp[F3]) λw2 v=>Af v (o:=0) (m:=11) rfl (by simp[F3]) λw3 J=>Af J (o:=0) (m:=12) rfl (by simp[F3]) λw4 O=>u (by omega) w4 (Sat.span.2 ⟨⟨none,0,0⟩,⟨none,0,0⟩,?_⟩);have h1:=(O.front 1 rfl).tail;have T:=(h1.front 1 rfl).tail;have Y:=T.nil E.AF 1;have h4:=Y.nil E.AF 1;exact h4.perm ((List.reverse_perm [_,_,_]).symm.append_right Z)
end
end Go.Sh

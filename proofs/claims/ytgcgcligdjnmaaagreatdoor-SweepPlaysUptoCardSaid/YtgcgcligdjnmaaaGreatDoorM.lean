/- What pieces of a program do to memory: blocks, rows, maps, interval lists, resources that lie apart. No further condition. -/
import Derived.Test.YtgcgcligdjnmaaaGreatDoorSh
import Derived.Below
set_option linter.all false
set_option maxRecDepth 50000
namespace Go.Sh
open Go.RowKit (Below)
structure Ext(S:Nat->Prop)(w w':World):Prop where
 os:w'.os=w.os
 tape:w'.tape=w.tape
 output:w'.output=w.output
 size:w.heap.size<=w'.heap.size
 block: ∀k,k<w.heap.size-> ¬S k->w'.heap[k]? =w.heap[k]?
def AP:Nat->Prop:=λ_=>False
def KF(b:Nat):Nat->Prop:=λk=>k=b
def Ext.refl(S:Nat->Prop)(w:World):Ext S w w:=⟨rfl,rfl,rfl,Nat.le_refl _,λ_ _ _=>rfl⟩
def Ext.drew(S:Nat->Prop)(w:World):Ext S w w.drew:=⟨rfl,rfl,rfl,Nat.le_refl _,λ_ _ _=>rfl⟩
def Ext.trans{S T U:Nat->Prop}{a b c:World}(h:Ext S a b)(k:Ext T b c)(hS: ∀i,i<a.heap.size->S i->U i)(j: ∀i,i<a.heap.size->T i->U i):Ext U a c:=
 ⟨k.os.trans h.os,k.tape.trans h.tape,k.output.trans h.output,Nat.le_trans h.size k.size,λi d hu=>
  (k.block i (Nat.lt_of_lt_of_le d h.size) λt=>hu (j i d t)).trans (h.block i d λs=>hu (hS i d s))⟩
def Ext.trans'{S:Nat->Prop}{a b c:World}(h:Ext S a b)(k:Ext S b c):Ext S a c:=h.trans k (λ_ _ s=>s) (λ_ _ s=>s)
def Ext.mono{S T:Nat->Prop}{a b:World}(h:Ext S a b)(hs: ∀i,i<a.heap.size->S i->T i):Ext T a b:=
 ⟨h.os,h.tape,h.output,h.size,λi d j=>h.block i d λs=>j (hs i d s)⟩
def Ext.any{S:Nat->Prop}{a b:World}(h:Ext AP a b):Ext S a b:=h.mono λ_ _ f=>f.elim
def Ext.alloc(S:Nat->Prop)(w:World)(o:Obj):Ext S w (w.alloc o):=
 ⟨rfl,rfl,rfl,by simp,λk hk _=>RowKit.Below.heap_alloc w o k hk⟩
def Ext.setCell(w:World)(p:Addr)(v:Value):Ext (KF p.block) w (w.setCell p v):=
 ⟨rfl,rfl,rfl,by simp[World.setCell],λk hk hs=>RowKit.Below.heap_setCell w p v k hs⟩
def Ext.Gd(w:World)(b:Nat)(o:Obj):Ext (KF b) w (World.Gd w b o):=
 ⟨rfl,rfl,rfl,by simp[World.Gd],λk hk hs=>by
  have:k≠b:=hs;simp[World.Gd,Array.getElem?_setIfInBounds_ne (Ne.symm this)]⟩
def Ext.cell{S:Nat->Prop}{w w':World}(h:Ext S w w'){p:Addr}{v:Value}(d:w.cell? p=some v)(hs: ¬S p.block):w'.cell? p=some v:=by
 have j:=World.block_lt_of_cell? w p d;rw[<-d];exact World.cell?_of_block (h.block p.block j hs)
def Ext.frozen{S:Nat->Prop}{w w':World}(h:Ext S w w'){p:Addr}(d:p.block<w.heap.size)(hs: ¬S p.block):w'.frozen? p=w.frozen? p:=
 World.frozen?_of_block (h.block p.block d hs)
def Ext.obj{S:Nat->Prop}{w w':World}(h:Ext S w w'){b:Nat}{o:Obj}(d:w.heap[b]? =some o)(hs: ¬S b):w'.heap[b]? =some o:=by
 have j:b<w.heap.size:=(Array.getElem?_eq_some_iff.1 d).1;rw[h.block b j hs,d]
def Ext.below{S:Nat->Prop}{w w':World}(h:Ext S w w'){B:Nat}(d:B<=w.heap.size)(hS: ∀i,S i->B<=i):Below B w w':=
 ⟨h.os,h.tape,h.output,h.size,λk hk=>h.block k (by omega) λs=>by grind⟩
def F4{w:World}{b:Nat}{o:Obj}(h:w.heap[b]? =some o):b<w.heap.size:=(Array.getElem?_eq_some_iff.1 h).1
def AW{w:World}{b:Nat}{cs:Array Value}{t:TypeId}{f:Nat×Nat}(h:w.heap[b]? =some (.cells cs t f))(j:Nat):w.cell? ⟨b,j,none⟩=cs[j]? :=by
 simp[World.cell?,h]
def add_eq(b o n:Nat):(Addr.mk b o none).add n=⟨b,o+n,none⟩:=by
 unfold Addr.add;grind
def add_add(p:Addr)(a b:Nat):(p.add a).add b=p.add (a+b):=by
 unfold Addr.add
 grind
def add_zero(p:Addr):p.add 0=p:=by simp[Addr.add]
def Vg(p:Addr)(n:Nat):(p.add n).block=p.block:=by unfold Addr.add;grind
def BS{o:Obj}{w:World}{K:Nat->World->Prop}
  (h: ∀w',w'.heap[w.heap.size]? =some o->w'.heap.size=w.heap.size+1->Ext AP w w'->K w.heap.size w'):AL o w K:=
 h (w.alloc o) (heap_alloc_new w o) (by simp) (Ext.alloc _ w o)
structure NX(p:Addr)(v:Value)(w w':World):Prop where
 ext:Ext (KF p.block) w w'
 same:w'.cell? p=some v
 other: ∀q:Addr,q≠p->w'.cell? q=w.cell? q
 frozen: ∀q:Addr,w'.frozen? q=w.frozen? q
 size:w'.heap.size=w.heap.size
def NY{w:World}{p:Addr}{u v:Value}(h:w.cell? p=some u):NX p v w (w.setCell p v):=
 ⟨Ext.setCell w p v,World.cell?_setCell_same w p v h,λq d=>World.cell?_setCell_other w p q v (Ne.symm d),λq=>World.frozen?_setCell w p q v,by simp⟩
def Ln{p:Addr}{v u:Value}{w:World}{K:World->Prop}(h:w.cell? p=some u)(hf:w.frozen? p=false)(j:v.oneCell'=true)
  (d: ∀w',NX p v w w'->K w'):stCells p 0 [v] w K:=by
 simp only[stCells,add_zero];exact⟨⟨⟨u,h⟩,hf,j⟩,d _ (NY h)⟩
def LS{w:World}{b j:Nat}{cs:Array Value}{t:TypeId}{f:Nat×Nat}{v:Value}(h:w.heap[b]? =some (.cells cs t f)):
  (w.setCell ⟨b,j,none⟩ v).heap[b]? =some (.cells (cs.setIfInBounds j v) t f):=by
 simp[World.setCell,Array.getElem?_modify,h]
def Jc{t:TypeId}: ∀(vs:List Value) (b o i:Nat) (cs:Array Value) (w:World) (K:World->Prop),w.heap[b]? =some (.cells cs t)->o+i+vs.length<=cs.size->(∀v∈vs,v.oneCell'=true)->
  (∀w',Ext (KF b) w w'->w'.heap.size=w.heap.size->w'.heap[b]? =some (.cells (cs.toList.take (o+i)++vs++cs.toList.drop (o+i+vs.length)).toArray t)->K w')->
  stCells ⟨b,o,none⟩ i vs w K
 | [],b,o,i,cs,w,K,h,hl,ho,hK=>by
  refine hK w (Ext.refl _ _) rfl ?_;rw[h];simp
 | v::r,b,o,i,cs,w,K,h,hl,ho,hK=>by
  have O:o+i<cs.size:=by grind
  simp only[stCells,add_eq];refine⟨⟨⟨cs[o+i],by rw[AW h];grind⟩,by simp[World.frozen?,h],ho v (by simp)⟩,?_⟩;have y:=LS (j:=o+i) (v:=v) h;refine Jc r b o (i+1) _ _ K y (by grind) (λu hu=>ho u (by simp[hu])) λw' he hs J=> ?_;refine hK w' ((Ext.setCell w ⟨b,o+i,none⟩ v).trans' he) (by rw[hs];simp) ?_;rw[J];congr 3;have d:o+i<cs.toList.length:=by omega
  simp only[Array.toList_setIfInBounds];rw[show o+(i+1)=o+i+1 from by omega];rw[List.take_set,List.take_succ_eq_append_getElem d,List.set_append_right _ _ (by simp;omega)];simp only[List.length_take,Nat.min_eq_left (Nat.le_of_lt d),Nat.sub_self,List.set_cons_zero,List.append_assoc,List.singleton_append,List.length_cons];congr 2;rw[List.drop_set_of_lt (by omega)]
  grind
def Vh{S:Nat->Prop}{w w':World}{b:Option Addr}{n:Nat}{l:List Value}(h:rowAt w b n l)(he:Ext S w w')(hs: ∀a,b=some a->l≠ []-> ¬S a.block):rowAt w' b n l:=by
 cases b with
 | none=>exact h
 | some a=>
  refine⟨h.1,λj v d=>he.cell (h.2 j v d) ?_⟩;rw[Vg];exact hs a rfl (by intro e;grind)
structure I0(w:World)(B t z:Nat)(s:Aa)(vs:List Value):Prop where
 len:vs.length=s.len*z
 cap:s.len<=s.cap
 top:s.cap<9223372036854775808
 row:(s.base=none/\s.cap=0)∨ ∃b cs,s.base=some ⟨b,0,none⟩/\B<=b/\w.heap[b]? =some (.cells cs t)/\cs.size=s.cap*z/\cs.toList.take (s.len*z)=vs
def I0.nil(w:World)(B t z:Nat):I0 w B t z ⟨none,0,0⟩ []:=⟨by simp,Nat.le_refl _,by decide,.inl ⟨rfl,rfl⟩⟩
def I0.rowAt{w:World}{B t z:Nat}{s:Aa}{vs:List Value}(h:I0 w B t z s vs):rowAt w s.base (s.len*z) vs:=by
 rcases h.row with ⟨h1,h2⟩|⟨b,cs,h1,h2,d,J,K⟩
 .have:s.len=0:=by have:=h.cap;omega
  have y:=h.len;rw[this]at y;rw[h1];exact List.eq_nil_of_length_eq_zero (by omega)
 .rw[h1];refine⟨h.len,λj v O=> ?_⟩;rw[add_eq,Nat.zero_add,AW d]
  grind
def I0.ext{w w':World}{B t z:Nat}{s:Aa}{vs:List Value}{S:Nat->Prop}(h:I0 w B t z s vs)(he:Ext S w w')(hs: ∀b,s.base=some ⟨b,0,none⟩-> ¬S b):I0 w' B t z s vs:=by
 refine⟨h.len,h.cap,h.top,?_⟩;rcases h.row with h1|⟨b,cs,h1,h2,d,j⟩
 .grind
 .exact .inr ⟨b,cs,h1,h2,he.obj d (hs b h1),j⟩
def I0.lower{w:World}{B B' t z:Nat}{s:Aa}{vs:List Value}(h:I0 w B t z s vs)(v:B'<=B):I0 w B' t z s vs:=by
 refine⟨h.len,h.cap,h.top,?_⟩;rcases h.row with h1|⟨b,cs,h1,h2,d,j⟩
 .grind
 grind
def I0.lt{w:World}{B t z:Nat}{s:Aa}{vs:List Value}(h:I0 w B t z s vs){a:Addr}(v:s.base=some a):B<=a.block/\a.block<w.heap.size/\a.off=0/\a.spot=none:=by
 rcases h.row with ⟨h1,_⟩|⟨b,cs,h1,h2,d,j⟩
 .grind
 grind
def Pg{e z bytes:Nat}{zs:Array Value}{s x:Aa}{w:World}{K:Aa->World->Prop}{B:Nat}{vs news:List Value}
  (hz:zs.size=z)(d:I0 w B e z s vs)(T:rowAt w x.base (x.len*z) news)(j:news.length=x.len*z)(ho: ∀v∈news,v.oneCell'=true)(hB:B<=w.heap.size)
  (hb:(s.len+x.len)*bytes<=140737488355328)(Y:s.len+x.len<=9223372036854775807)
  (hK: ∀s' w',I0 w' B e z s' (vs++news)->s'.len=s.len+x.len->Ext (λk=> ∃a,s.base=some a/\k=a.block) w w'->
   (s'.base=s.base∨ ∃b,s'.base=some ⟨b,0,none⟩/\w.heap.size<=b)->K s' w'):APP e z bytes zs s x w K:=by
 refine⟨news,T,λy=> ?_,λaC=>⟨hb,Y,vs,d.rowAt,λcap O J=> ?_⟩⟩
 .rcases d.row with ⟨h1,h2⟩|⟨b,cs,h1,h2,h3,h4,h5⟩
  .have hx:x.len=0:=by omega
   have hs:s.len=0:=by omega
   rw[h1];have hn:news=[]:=List.eq_nil_of_length_eq_zero (by grind);have hv:vs=[]:=List.eq_nil_of_length_eq_zero (by rw[d.len,hs];simp);subst hn;subst hv;refine hK _ w ⟨by grind,by omega,d.top,.inl ⟨rfl,h2⟩⟩ rfl (Ext.refl _ _) (.inl h1.symm)
  .rw[h1];simp only[add_eq,Nat.zero_add];have hle:s.len*z+news.length<=cs.size:=by
    rw[j,h4,<-Nat.add_mul];exact Nat.mul_le_mul_right _ y
   refine Jc news b (s.len*z) 0 cs w _ h3 (by omega) ho λw' he aL aB=> ?_;refine hK _ w' ⟨by grind,y,d.top,.inr ⟨b,_,rfl,h2,aB,?_,?_⟩⟩ rfl (he.mono λi _ hi=>⟨_,h1,hi⟩) (.inl h1.symm)
   .grind
   .simp only[Nat.add_zero];rw[h5,List.append_assoc,<-List.append_assoc,Nat.add_mul,<-j,<-d.len,<-List.length_append]
    grind
 .refine hK _ _ ⟨by simp[d.len,j,Nat.add_mul],O,J,.inr ⟨w.heap.size,_,rfl,hB,heap_alloc_new w.drew _,?_,?_⟩⟩ rfl ((Ext.drew _ w).trans' (Ext.alloc _ w.drew _)) (.inr ⟨_,rfl,Nat.le_refl _⟩)
  .simp only[Array.size_append,List.size_toArray,Builtin.zeroCells,Array.size_map,Array.size_range,d.len,j,hz];rw[<-Nat.add_mul,<-Nat.add_mul]
   grind
  .simp only[Array.toList_append,Nat.add_mul];rw[<-j,<-d.len,<-List.length_append]
   grind
def WX{w w':World}{B t z n:Nat}{cells:List Value}(h:w'.heap[w.heap.size]? =some (.cells ⟨cells⟩ t))(d:cells.length=n*z)(j:B<=w.heap.size)(v:n<9223372036854775808):
  I0 w' B t z ⟨some ⟨w.heap.size,0,none⟩,n,n⟩ cells:=
 ⟨d,Nat.le_refl _,v,.inr ⟨_,_,rfl,j,h,by omega,by rw[<-d];simp⟩⟩
def KR(a:Option Addr)(c z:Nat):F2 a c 0 z=a:=by
 unfold F2;split
 .rfl
 .cases a<;>simp[add_zero]
def KG{w:World}{b:Option Addr}{n m:Nat}{l:List Value}(h:rowAt w b n l)(hm:m<=n)(d:l.length=n):rowAt w b m (l.take m):=by
 cases b with
 | none=>have:l=[]:=h;grind
 | some a=>
  refine⟨by rw[List.length_take,d];omega,λj v y=>h.2 j v ?_⟩
  grind
def JC{w:World}{b:Option Addr}{n len cap k z:Nat}{l:List Value}(h:rowAt w b n l)(O:n=len*z)(hk:k<=len)(K:len<=cap)(J:l.length=n):
  rowAt w (F2 b cap k z) ((len-k)*z) (l.drop (k*z)):=by
 have hlen:(l.drop (k*z)).length=(len-k)*z:=by rw[List.length_drop,J,O,Nat.sub_mul]
 unfold F2;split
 .rename_i hck;have:len-k=0:=by omega
  rw[this]at hlen⊢;have d:l.drop (k*z)=[]:=List.eq_nil_of_length_eq_zero (by omega);rw[d];cases b with
  | none=>rfl
  | some a=>exact⟨by simp,by simp⟩
 .cases b with
  | none=>have:l=[]:=h;grind
  | some a=>
   refine⟨hlen,λj v y=> ?_⟩;rw[add_add];rw[List.getElem?_drop]at y;exact h.2 _ v y
def AH{σ:Type}{s0:σ}{w0:World}{body:σ->(Nat->Value)->World->(σ->World->Prop)->Prop}(I:σ->World->Prop)(μ:σ->World->Nat)(h0:I s0 w0)
  (h: ∀s j w,I s w->body s j w λs' w'=>I s' w'/\μ s' w'<μ s w):At σ s0 w0 body:=⟨I,μ,h0,h⟩
def AX{σ:Type}{first:(σ->World->Prop)->Prop}{rest:σ->(Nat->Value)->World->Prop}(J:σ->World->Prop)(h1:first J)(h2: ∀s j w,J s w->rest s j w):Af σ first rest:=⟨J,h1,h2⟩
def AQ{b:Bool}{T E:Prop}(h1:b=true->T)(h2:b=false->E):CND b T E:=eY.2 ⟨h1,h2⟩
def AB{p:Prop}[Decidable p]{T E:Prop}(h1:p->T)(h2: ¬p->E):CND (decide p) T E:=
 eY.2 ⟨λh=>h1 (of_decide_eq_true h),λh=>h2 (of_decide_eq_false h)⟩
def AY{α:Type}{e:α}{K:α->Prop}(h: ∀x,x=e->K x):Hk e K:=h e rfl
def Ph(n:Int):u64 n=n %18446744073709551616:=by simp[u64,IntKind.wrap,IntKind.bits,IntKind.signed]
def AK{n:Int}(h0:0<=n:=by omega)(h1:n<18446744073709551616:=by omega):u64 n=n:=by rw[Ph];omega
def AE{n:Int}(h0: -9223372036854775808<=n:=by omega)(h1:n<9223372036854775808:=by omega):i64 n=n:=IntWalk.i64_in n (by omega)
def WY(a b:Int):WI a b=min a b:=by unfold WI;omega
def Sq(a b:Int):SV a b=max a b:=by unfold SV;omega
end Go.Sh
namespace Go.Sh
abbrev Iv:=List (Int×Int)
def Ok:Iv->Prop
 | []=>True
 | p::r=>0<=p.1/\p.1<p.2/\p.2<18446744073709551616/\(∀q∈r,p.2<q.1)/\Ok r
def mem(l:Iv)(n:Int):Prop:= ∃p∈l,p.1<=n/\n<p.2
def posn:Iv->Int->Nat
 | [],_=>0
 | p::r,x=>if p.2<=x then posn r x+1 else 0
def Gn:Iv->Int
 | []=>0
 | p::r=>(p.2-p.1)+Gn r
def NZ(p:Int×Int)(a b:Int):Int:=max 0 (min p.2 b-max p.1 a)
def cnt:Iv->Int->Int->Int
 | [],_,_=>0
 | p::r,a,b=>NZ p a b+cnt r a b
def Pj(p:Int×Int)(a b:Int):Iv:=(if p.1<a then [(p.1,min p.2 a)]else [])++(if b<p.2 then [(max p.1 b,p.2)]else [])
def Dz:Iv->Int->Int->Iv
 | [],_,_=>[]
 | p::r,a,b=>Pj p a b++Dz r a b
def addHi(l:Iv)(i:Nat)(b:Int):Int×Nat:=match l[i]? with
 | some q=>if q.1=b then(q.2,i+1)else(b,i)
 | none=>(b,i)
def addLo(l:Iv)(i:Nat)(a:Int):Int×Nat:=match i with
 | 0=>(a,0)
 | i+1=>match l[i]? with
  | some q=>if q.2=a then(q.1,i)else(a,i+1)
  | none=>(a,i+1)
def SZ(l:Iv)(a b:Int):Iv:=
 l.take (addLo l (posn l a) a).2++[((addLo l (posn l a) a).1,(addHi l (posn l a) b).1)]++l.drop (addHi l (posn l a) b).2
def Dt(l:Iv)(a b:Int):Iv:=SZ (Dz l a b) a b
def LU: ∀(l:Iv) (x:Int),posn l x<=l.length
 | [],_=>Nat.le_refl _
 | p::r,x=>by
  unfold posn;split
  .have:=LU r x;simp;omega
  .simp
def Na: ∀(l:Iv) (x:Int) (i:Nat) (p:Int×Int),i<posn l x->l[i]? =some p->p.2<=x
 | [],x,i,p,h,_=>by simp[posn]at h
 | q::r,x,i,p,h,hp=>by
  unfold posn at h;split at h
  .rename_i hq;cases i with
   | zero=>simp at hp;subst hp;exact hq
   | succ i=>exact Na r x i p (by omega) (by grind)
  .omega
def WZ: ∀(l:Iv) (x:Int) (p:Int×Int),l[posn l x]? =some p->x<p.2
 | [],x,p,h=>by simp at h
 | q::r,x,p,h=>by
  unfold posn at h;split at h
  .exact WZ r x p (by grind)
  .simp at h;subst h;omega
def Ok.tail{p:Int×Int}{r:Iv}(h:Ok (p::r)):Ok r:=h.2.2.2.2
def Ok.get: ∀{l:Iv},Ok l-> ∀{i:Nat} {p:Int×Int},l[i]? =some p->0<=p.1/\p.1<p.2/\p.2<18446744073709551616
 | [],_,i,p,h=>by simp at h
 | q::r,h,0,p,hp=>by simp at hp;subst hp;exact⟨h.1,h.2.1,h.2.2.1⟩
 | q::r,h,i+1,p,hp=>Ok.get h.tail (by simpa using hp)
def Ok.mem: ∀{l:Iv},Ok l-> ∀{p:Int×Int},p∈l->0<=p.1/\p.1<p.2/\p.2<18446744073709551616
 | [],_,p,h=>by cases h
 | q::r,h,p,hp=>by
  rcases List.mem_cons.1 hp with rfl|hp
  .exact⟨h.1,h.2.1,h.2.2.1⟩
  .exact Ok.mem h.tail hp
def Ok.lt: ∀{l:Iv},Ok l-> ∀{i j:Nat} {p q:Int×Int},i<j->l[i]? =some p->l[j]? =some q->p.2<q.1
 | [],_,i,j,p,q,_,h,_=>by simp at h
 | r::l,h,0,j+1,p,q,_,hp,hq=>by
  simp at hp;subst hp;exact h.2.2.2.1 q (List.mem_of_getElem? (by simpa using hq))
 | r::l,h,i+1,j+1,p,q,hij,hp,hq=>Ok.lt (l:=l) (i:=i) (j:=j) h.tail (by omega) (by grind) (by grind)
 | _::_,_,_,0,_,_,hij,_,_=>by omega
def K9{l:Iv}(h:Ok l)(x:Int){i:Nat}{p:Int×Int}(J:posn l x<=i)(hp:l[i]? =some p):x<p.2:=by
 rcases Nat.lt_or_ge (posn l x) i with d|v
 .have j:posn l x<l.length:=by grind
  have h1:=WZ l x _ (List.getElem?_eq_getElem j);have h2:=h.lt d (List.getElem?_eq_getElem j) hp;have y:=h.get hp;omega
 .have:i=posn l x:=by omega
  subst this;exact WZ l x p hp
def Bt(n:Int): ¬mem [] n:=by rintro⟨p,hp,_⟩;cases hp
def mem_cons{p:Int×Int}{r:Iv}{n:Int}:mem (p::r) n↔(p.1<=n/\n<p.2)∨mem r n:=by
 constructor
 .rintro⟨q,d,h⟩;rcases List.mem_cons.1 d with rfl|d
  .omega
  .exact .inr ⟨q,d,h⟩
 .rintro(h|⟨q,d,h⟩)
  .exact⟨p,by simp,h⟩
  .exact⟨q,by simp[d],h⟩
def mem_append{l m:Iv}{n:Int}:mem (l++m) n↔mem l n∨mem m n:=by
 induction l with
 | nil=>simp[Bt]
 | cons p r ih=>simp[mem_cons,ih,or_assoc]
def mJ{p:Int×Int}{a b n:Int}(d:a<b):mem (Pj p a b) n↔(p.1<=n/\n<p.2)/\ ¬(a<=n/\n<b):=by
 unfold Pj;rw[mem_append];have h1:mem (if p.1<a then [(p.1,min p.2 a)]else []) n↔p.1<a/\p.1<=n/\n<min p.2 a:=by
  split<;>rename_i h<;>simp[mem_cons,Bt,h]
 have h2:mem (if b<p.2 then [(max p.1 b,p.2)]else []) n↔b<p.2/\max p.1 b<=n/\n<p.2:=by
  split<;>rename_i h<;>simp[mem_cons,Bt,h]
 grind
def Et{l:Iv}{a b n:Int}(d:a<b):mem (Dz l a b) n↔mem l n/\ ¬(a<=n/\n<b):=by
 induction l with
 | nil=>simp[Dz,Bt]
 | cons p r ih=>
  simp only[Dz,mem_append,mem_cons,mJ d,ih]
  grind
def Fx: ∀{l m:Iv},Ok (l++m)↔Ok l/\Ok m/\ ∀p∈l,∀q∈m,p.2<q.1
 | [],m=>by simp[Ok]
 | p::r,m=>by
  simp only[List.cons_append,Ok,Fx (l:=r) (m:=m),List.mem_append,List.mem_cons]
  grind
def Rd{p q:Int×Int}{a b:Int}(j:q∈Pj p a b)(hp:p.1<p.2)(d:a<b):p.1<=q.1/\q.2<=p.2/\q.1<q.2:=by
 unfold Pj at j
 grind
def Nb{l:Iv}{a b:Int}{q:Int×Int}(h:Ok l)(j:a<b)(d:q∈Dz l a b): ∃p∈l,p.1<=q.1/\q.2<=p.2/\q.1<q.2:=by
 induction l with
 | nil=>cases d
 | cons p r ih=>
  rcases List.mem_append.1 d with d|d
  .exact⟨p,by simp,Rd d h.2.1 j⟩
  .obtain⟨J,v,y⟩:=ih h.tail d
   grind
def rN{p:Int×Int}{a b:Int}(h0:0<=p.1)(h1:p.1<p.2)(h2:p.2<18446744073709551616)(d:a<b):Ok (Pj p a b):=by
 unfold Pj;split<;>split<;>simp[Ok]<;>omega
def Gl{l:Iv}{a b:Int}(h:Ok l)(d:a<b):Ok (Dz l a b):=by
 induction l with
 | nil=>trivial
 | cons p r ih=>
  simp only[Dz,Fx];refine⟨rN h.1 h.2.1 h.2.2.1 d,ih h.tail,λq y O v=> ?_⟩;have h1:=Rd y h.2.1 d;obtain⟨J,j,h2⟩:=Nb h.tail d v;have K:=h.2.2.2.1 J j;omega
def MR(l m:Iv):Gn (l++m)=Gn l+Gn m:=by
 induction l with
 | nil=>simp[Gn]
 | cons p r ih=>simp[Gn,ih];omega
def mK{p:Int×Int}{a b:Int}(hp:p.1<p.2)(d:a<b):Gn (Pj p a b)=p.2-p.1-NZ p a b:=by
 unfold Pj NZ;rw[MR];split<;>split<;>simp[Gn]<;>omega
def TZ{l:Iv}{a b:Int}(h:Ok l)(d:a<b):Gn (Dz l a b)=Gn l-cnt l a b:=by
 induction l with
 | nil=>simp[Dz,Gn,cnt]
 | cons p r ih=>
  simp only[Dz,MR,Gn,cnt,ih h.tail,mK h.2.1 d];omega
def MS{l:Iv}(h:Ok l):0<=Gn l:=by
 induction l with
 | nil=>simp[Gn]
 | cons p r ih=>have:=ih h.tail;have:=h.2.1;simp only[Gn];omega
def mL: ∀{l:Iv} (h:Ok l) (B:Int),0<=B->B<18446744073709551616->(∀p∈l,B<=p.1)->B+Gn l<18446744073709551616
 | [],_,B,h0,h1,_=>by simp only[Gn];omega
 | p::r,h,B,h0,h1,hB=>by
  have h2:=hB p (by simp);have:=mL h.tail p.2 (by have:=h.1;have:=h.2.1;omega) h.2.2.1 (λq d=>by have:=h.2.2.2.1 q d;omega);simp only[Gn];omega
def fB{l:Iv}(h:Ok l):Gn l<18446744073709551616:=by
 have:=mL h 0 (by omega) (by omega) (λp hp=>(h.mem hp).1);omega
def DL(l:Iv)(a b:Int):0<=cnt l a b:=by
 induction l with
 | nil=>simp[cnt]
 | cons p r ih=>simp only[cnt,NZ];omega
def Ta(l m:Iv)(a b:Int):cnt (l++m) a b=cnt l a b+cnt m a b:=by
 induction l with
 | nil=>simp[cnt]
 | cons p r ih=>simp[cnt,ih];omega
def Re: ∀{l:Iv} (h:Ok l) {a b:Int},a<=b-> ∀c:Int,a<=c->c<=b->(∀p∈l,c<=p.1)->cnt l a b<=b-c
 | [],_,a,b,hab,c,_,hc,_=>by simp[cnt];omega
 | p::r,h,a,b,hab,c,hac,hcb,hB=>by
  have h1:=hB p (by simp);simp only[cnt,NZ];rcases Int.lt_or_le b p.2 with v|v
  .have:cnt r a b=0:=by
    have: ∀l:Iv,(∀q∈l,b<=q.1)->cnt l a b=0:=by
     intro l
     induction l with
     | nil=>intro _;rfl
     | cons q s ih=>
      intro d;have:=d q (by simp);have:=ih λy j=>d y (by simp[j]);simp only[cnt,NZ];omega
    exact this r λq d=>by have:=h.2.2.2.1 q d;omega
   omega
  .have:=Re h.tail hab p.2 (by have:=h.2.1;omega) v (λq d=>by have:=h.2.2.2.1 q d;omega);have:=h.2.1;omega
def E0: ∀{l:Iv} (h:Ok l) {a b:Int},a<=b->cnt l a b<=b-a
 | [],_,a,b,hab=>by simp[cnt];omega
 | p::r,h,a,b,hab=>by
  have hp:=h.2.1;simp only[cnt,NZ];have hz:(∀q∈r,b<=q.1)->cnt r a b=0:=by
   intro y;have: ∀l:Iv,(∀q∈l,b<=q.1)->cnt l a b=0:=by
    intro l
    induction l with
    | nil=>intro _;rfl
    | cons q s ih=>
     intro d;have:=d q (by simp);have:=ih λv j=>d v (by simp[j]);simp only[cnt,NZ];omega
   grind
  rcases Int.lt_or_le p.2 a with h1|h1
  .have:=E0 h.tail hab;omega
  .rcases Int.lt_or_le b p.2 with h2|h2
   .have:=hz λq d=>by have:=h.2.2.2.1 q d;omega
    omega
   .have:=Re h.tail hab p.2 h1 h2 (λq d=>by have:=h.2.2.2.1 q d;omega);omega
def Sa{l:Iv}{a b:Int}(h: ∀p∈l,p.2<=a):cnt l a b=0:=by
 induction l with
 | nil=>rfl
 | cons q s ih=>
  have:=h q (by simp);have:=ih λj d=>h j (by simp[d]);simp only[cnt,NZ];omega
def Tb{l:Iv}{a b:Int}(h: ∀p∈l,b<=p.1):cnt l a b=0:=by
 induction l with
 | nil=>rfl
 | cons q s ih=>
  have:=h q (by simp);have:=ih λj d=>h j (by simp[d]);simp only[cnt,NZ];omega
def Nc(l m:Iv)(a b:Int):Dz (l++m) a b=Dz l a b++Dz m a b:=by
 induction l with
 | nil=>rfl
 | cons p r ih=>simp[Dz,ih]
def YC{l:Iv}{a b:Int}(d:a<b)(h: ∀p∈l,p.1<p.2/\p.2<=a):Dz l a b=l:=by
 induction l with
 | nil=>rfl
 | cons p r ih=>
  have hp:=h p (by simp);simp only[Dz,ih λq j=>h q (by simp[j])];unfold Pj
  grind
def aX{l:Iv}{a b:Int}(d:a<b)(h: ∀p∈l,p.1<p.2/\b<=p.1):Dz l a b=l:=by
 induction l with
 | nil=>rfl
 | cons p r ih=>
  have hp:=h p (by simp);simp only[Dz,ih λq j=>h q (by simp[j])];unfold Pj
  grind
def Pk{l:Iv}{a:Int}: ∀p∈l.take (posn l a),p.2<=a:=by
 intro p hp;obtain⟨i,d,rfl⟩:=List.mem_iff_getElem.1 hp;simp only[List.length_take]at d;rw[List.getElem_take];exact Na l a i _ (by omega) (List.getElem?_eq_getElem (by omega))
def aY{l:Iv}(h:Ok l){a b:Int}(v:a<b){k:Nat}(hk:posn l a<=k)(y: ∀p,l[k]? =some p->b<=p.1):
  Dz l a b=l.take (posn l a)++Dz ((l.take k).drop (posn l a)) a b++l.drop k:=by
 have h1:l=l.take (posn l a)++(l.take k).drop (posn l a)++l.drop k:=by
  have J:l.take k=(l.take k).take (posn l a)++(l.take k).drop (posn l a):=(List.take_append_drop _ _).symm;rw[List.take_take,Nat.min_eq_left hk]at J;rw[<-J,List.take_append_drop]
 have h2:Dz (l.take (posn l a)) a b=l.take (posn l a):=YC v λp hp=>⟨(h.mem (List.mem_of_mem_take hp)).2.1,Pk p hp⟩;have K:Dz (l.drop k) a b=l.drop k:=by
  refine aX v λp hp=>⟨(h.mem (List.mem_of_mem_drop hp)).2.1,?_⟩;obtain⟨i,O,rfl⟩:=List.mem_iff_getElem.1 hp;rw[List.getElem_drop];simp only[List.length_drop]at O;have d:k<l.length:=by omega
  have Y:=y _ (List.getElem?_eq_getElem d);rcases Nat.eq_zero_or_pos i with rfl|T
  .omega
  .have h5:=h.lt (i:=k) (j:=k+i) (by omega) (List.getElem?_eq_getElem d) (List.getElem?_eq_getElem (by omega));have h6:=h.get (List.getElem?_eq_getElem d);omega
 conv=>lhs;rw[h1]
 rw[Nc,Nc,h2,K]
def Clear(l:Iv)(a b:Int):Prop:= ∀p∈l,p.2<=a∨b<=p.1
def Tc{l:Iv}{a b:Int}(h:Ok l)(d:a<b):Clear (Dz l a b) a b:=by
 intro q j;have hm:mem (Dz l a b) q.1:=⟨q,j,by omega,((Gl h d).mem j).2.1⟩;have h1:=(Et d).1 hm;have h2:=(Gl h d).mem j;rcases Int.lt_or_le q.1 a with J|y
 .left;rcases Int.lt_or_le a q.2 with v|v
  .have:mem (Dz l a b) a:=⟨q,j,by omega,v⟩;have:=((Et d).1 this).2;omega
  .exact v
 omega
def iP(l:Iv)(i:Nat)(n:Int):mem l n↔mem (l.take i) n∨mem (l.drop i) n:=by
 rw[<-mem_append,List.take_append_drop]
def iQ{l:Iv}(h:Ok l){a b:Int}(d:Clear l a b): ∀p∈l.drop (posn l a),b<=p.1:=by
 intro p hp;obtain⟨i,j,rfl⟩:=List.mem_iff_getElem.1 hp;rw[List.getElem_drop];simp only[List.length_drop]at j;have h1:=K9 h a (i:=posn l a+i) (by omega) (List.getElem?_eq_getElem (by omega));rcases d _ (List.getElem_mem (l:=l) (n:=posn l a+i) (by omega))with h2|h2<;>omega
def Vi{l:Iv}{a b:Int}(h:Ok l)(aU:a<b)(h0:0<=a)(hb:b<18446744073709551616)(hc:Clear l a b):
  Ok (SZ l a b)/\(∀n,mem (SZ l a b) n↔mem l n∨(a<=n/\n<b))/\Gn (SZ l a b)=Gn l+(b-a):=by
 have aX:=LU l a;obtain⟨i,hi⟩: ∃i,i=posn l a:=⟨_,rfl⟩;have aG: ∀p∈l.take i,p.2<=a:=by rw[hi];exact Pk
 have aF: ∀p∈l.drop i,b<=p.1:=by rw[hi];exact iQ h hc
 have T:l=l.take i++l.drop i:=(List.take_append_drop i l).symm;have aE:=h;rw[T,Fx]at aE;obtain⟨J,K,aT⟩:=aE;have key: ∀(L M R N:Iv) (x y:Int),l.take i=L++M->l.drop i=N++R->x<=a->b<=y->0<=x->y<18446744073709551616->
   (∀p∈L,p.2<x)->(∀p∈R,y<p.1)->(∀n,(x<=n/\n<y)↔mem M n∨(a<=n/\n<b)∨mem N n)->y-x=Gn M+(b-a)+Gn N->
   SZ l a b=L++[(x,y)]++R->Ok (SZ l a b)/\(∀n,mem (SZ l a b) n↔mem l n∨(a<=n/\n<b))/\Gn (SZ l a b)=Gn l+(b-a):=by
  intro L M R N x y h1 h2 hx hy aY aZ hl hr aH aS he;rw[he];rw[h1]at J;rw[h2]at K;rw[Fx]at J K;refine⟨?_,λn=> ?_,?_⟩
  .rw[Fx,Fx];refine⟨⟨J.1,?_,?_⟩,K.2.1,?_⟩
   .simp only[Ok];grind
   .grind
   grind
  .rw[mem_append,mem_append,iP l i n,h1,h2,mem_append,mem_append];simp only[mem_cons,Bt,or_false];rw[aH n];constructor
   .grind
   grind
  .have e1:=MR (l.take i) (l.drop i);rw[List.take_append_drop]at e1;rw[e1,h1,h2];simp only[MR,Gn];omega
 have aK:(∃q R,l.drop i=q::R/\q.1=b/\addHi l i b=(q.2,i+1)/\l.drop (i+1)=R)∨((∀p∈l.drop i,b<p.1)/\addHi l i b=(b,i)):=by
  unfold addHi;rcases Nat.lt_or_ge i l.length with v|aW
  .have hg:=List.getElem?_eq_getElem v;rw[hg];have hd:l.drop i=l[i]::l.drop (i+1):=List.drop_eq_getElem_cons v;by_cases Y:l[i].1=b
   .grind
   .refine .inr ⟨?_,by simp[Y]⟩;intro p hp;rw[hd]at hp;have aI:b<=l[i].1:=aF _ (by grind);rcases List.mem_cons.1 hp with rfl|hp
    .omega
    .have h2:=K;rw[hd]at h2;have:=h2.2.2.2.1 p hp;have:=h2.2.1;omega
  grind
 have aM:(∃q L,l.take i=L++[q]/\q.2=a/\addLo l i a=(q.1,i-1)/\l.take (i-1)=L)∨((∀p∈l.take i,p.2<a)/\addLo l i a=(a,i)):=by
  unfold addLo;cases i with
  | zero=>grind
  | succ j=>
   have v:j<l.length:=by omega
   have hg:=List.getElem?_eq_getElem v;simp only[hg];have ht:l.take (j+1)=l.take j++[l[j]]:=List.take_succ_eq_append_getElem v;by_cases Y:l[j].2=a
   .grind
   .refine .inr ⟨?_,by simp[Y]⟩;intro p hp;have aI:l[j].2<=a:=aG _ (by rw[ht];exact List.mem_append_right _ List.mem_cons_self);rw[ht]at hp;rcases List.mem_append.1 hp with hp|hp
    .have h2:=J;rw[ht,Fx]at h2;have:=h2.2.2 p hp l[j] (by simp);have:=h2.2.1.2.1;omega
    .simp at hp;grind
 have d:SZ l a b=l.take (addLo l i a).2++[((addLo l i a).1,(addHi l i b).1)]++l.drop (addHi l i b).2:=by rw[hi];rfl
 rcases aM with ⟨q,L,h1,h2,h3,h4⟩|⟨h1,h3⟩<;>rcases aK with ⟨q',R,O,h6,h7,h8⟩|⟨O,h7⟩
 .rw[h3,h7]at d;simp only[h4,h8]at d;have Y:q∈l.take i:=by rw[h1];simp
  have aA:q'∈l.drop i:=by rw[O];simp
  have g1:=J.mem Y;have g2:=K.mem aA;refine key L [q] R [q'] q.1 q'.2 h1 O (by omega) (by omega) (by omega) (by omega) ?_ ?_ ?_ ?_ d
  .rw[h1,Fx]at J;intro p hp;exact J.2.2 p hp q (by simp)
  .rw[O]at K;exact K.2.2.2.1
  .intro n;simp only[mem_cons,Bt,or_false];omega
  .simp only[Gn];omega
 .rw[h3,h7]at d;simp only[h4]at d;have Y:q∈l.take i:=by rw[h1];simp
  have g1:=J.mem Y;refine key L [q] (l.drop i) [] q.1 b h1 rfl (by omega) (by omega) (by omega) hb ?_ O ?_ ?_ d
  .rw[h1,Fx]at J;intro p hp;exact J.2.2 p hp q (by simp)
  .intro n;simp only[mem_cons,Bt,or_false];omega
  .simp only[Gn];omega
 .rw[h3,h7]at d;simp only[h8]at d;have aA:q'∈l.drop i:=by rw[O];simp
  have g2:=K.mem aA;refine key (l.take i) [] R [q'] a q'.2 (by simp) O (by omega) (by omega) h0 (by omega) h1 ?_ ?_ ?_ d
  .rw[O]at K;exact K.2.2.2.1
  .intro n;simp only[mem_cons,Bt,or_false,false_or];omega
  .simp only[Gn];omega
 .rw[h3,h7]at d;refine key (l.take i) [] (l.drop i) [] a b (by simp) rfl (by omega) (by omega) h0 hb h1 O ?_ ?_ d
  .intro n;simp only[Bt,or_false,false_or]
  .simp only[Gn];omega
def FQ{l:Iv}{a b:Int}(h:Ok l)(d:a<b)(h0:0<=a)(v:b<18446744073709551616):
  Ok (Dt l a b)/\(∀n,mem (Dt l a b) n↔mem l n∨(a<=n/\n<b))/\Gn (Dt l a b)=Gn l-cnt l a b+(b-a):=by
 obtain⟨h1,h2,j⟩:=Vi (Gl h d) d h0 v (Tc h d);refine⟨h1,λn=> ?_,by rw[Dt,j,TZ h d]⟩;rw[Dt,h2,Et d]
 grind
def Td{α:Type}{l:List α}{k:Nat}{x:α}(h:l[k]? =some x):l.drop k=x::l.drop (k+1):=by
 obtain⟨d,rfl⟩:=List.getElem?_eq_some_iff.1 h;exact List.drop_eq_getElem_cons d
def mM{p:Int×Int}{a m b:Int}(hp:p.1<p.2)(h1:a<=m)(h2:m<=b):NZ p a b=NZ p a m+NZ p m b:=by
 unfold NZ;omega
def LW: ∀{l:Iv},(∀p∈l,p.1<p.2)-> ∀{a m b:Int},a<=m->m<=b->cnt l a b=cnt l a m+cnt l m b
 | [],_,a,m,b,_,_=>rfl
 | p::r,h,a,m,b,h1,h2=>by
  simp only[cnt];rw[LW (λq d=>h q (List.mem_cons_of_mem _ d)) h1 h2,mM (h p List.mem_cons_self) h1 h2];omega
def Sr: ∀{l:Iv},(∀p∈l,p.1<p.2)-> ∀{a:Int},0<cnt l a (a+1)↔mem l a
 | [],_,a=>by simp[cnt,mem]
 | p::r,h,a=>by
  have j:=Sr (l:=r) (λq d=>h q (List.mem_cons_of_mem _ d)) (a:=a);have h0:=DL r a (a+1);have hp:=h p List.mem_cons_self;rw[mem_cons,<-j];simp only[cnt];unfold NZ;omega
def Eu{l:Iv}(h:Ok l){a b:Int}(j:a<=b):cnt l a b=b-a↔ ∀n,a<=n->n<b->mem l n:=by
 have d: ∀p∈l,p.1<p.2:=λp hp=>(h.mem hp).2.1;obtain⟨k,hk⟩: ∃k:Nat,b=a+k:=⟨(b-a).toNat,by omega⟩;subst hk
 induction k with
 | zero=>
  have h1:=E0 h (a:=a) (b:=a+(0:Nat)) j;have h2:=DL l a (a+(0:Nat))
  grind
 | succ k y=>
  have y:=y (by omega);have e:=LW d (a:=a) (m:=a+(k:Nat)) (b:=a+((k+1:Nat):Int)) (by omega) (by omega);have h1:=E0 h (a:=a) (b:=a+(k:Nat)) (by omega);have h2:=E0 h (a:=a+(k:Nat)) (b:=a+(k:Nat)+1) (by omega);have v:=Sr d (a:=a+(k:Nat))
  grind
def Ok.aZ{l:Iv}(h:Ok l): ∀p∈l,p.1<p.2:=λp hp=>(h.mem hp).2.1
def DW{l:Iv}(h:Ok l){a b:Int}(d:a<=b):cnt l a b=0↔ ∀n,a<=n->n<b-> ¬mem l n:=by
 obtain⟨k,hk⟩: ∃k:Nat,b=a+k:=⟨(b-a).toNat,by omega⟩;subst hk
 induction k with
 | zero=>
  have h1:=E0 h (a:=a) (b:=a+(0:Nat)) d;have h2:=DL l a (a+(0:Nat))
  grind
 | succ k v=>
  have v:=v (by omega);have e:=LW h.aZ (a:=a) (m:=a+(k:Nat)) (b:=a+((k+1:Nat):Int)) (by omega) (by omega);have h1:=DL l a (a+(k:Nat));have h2:=DL l (a+(k:Nat)) (a+(k:Nat)+1);have j:=Sr h.aZ (a:=a+(k:Nat))
  grind
def EW{l:Iv}(h:Ok l){a b:Int}(d:a<b)(h0:0<=a)(j:b<18446744073709551616)(n:Int):mem (Dt l a b) n↔mem l n∨(a<=n/\n<b):=
 (FQ h d h0 j).2.1 n
def Pl{l:Iv}(h:Ok l){n:Int}(hm:mem l n):0<=n:=by
 obtain⟨p,hp,h1,h2⟩:=hm;have:=(h.mem hp).1;omega
def Wa{l:Iv}(h:Ok l): ∀{a b:Int},a<b->(∀n,a<=n->n<b->mem l n)-> ∃q∈l,q.1<=a/\b<=q.2:=by
 induction l with
 | nil=>intro a b d hm;exact absurd (hm a (Int.le_refl _) d) (Bt _)
 | cons p r ih=>
  intro a b d hm;by_cases h1:p.1<=a/\a<p.2
  .by_cases h2:b<=p.2
   .grind
   .have j:=hm p.2 (by omega) (by omega);rcases mem_cons.1 j with v|⟨q,j,v,y⟩
    .omega
    .have:=h.2.2.2.1 q j;omega
  .have J: ∀n,a<=n->n<b->mem r n:=by
    intro n K O;rcases mem_cons.1 (hm n K O)with v|v
    .exfalso;have T:=hm a (Int.le_refl _) d;rcases mem_cons.1 T with y|⟨q,j,y,Y⟩
     .exact h1 y
     .have:=h.2.2.2.1 q j;omega
    .exact v
   obtain⟨q,j,v⟩:=ih h.tail d J
   grind
def mN: ∀{l m:Iv},Ok l->Ok m->(∀n,mem l n↔mem m n)->l=m
 | [],[],_,_,_=>rfl
 | [],q::m,_,hm,h=>absurd ((h q.1).2 (mem_cons.2 (.inl ⟨by omega,hm.2.1⟩))) (Bt _)
 | p::l,[],j,_,h=>absurd ((h p.1).1 (mem_cons.2 (.inl ⟨by omega,j.2.1⟩))) (Bt _)
 | p::l,q::m,j,hm,h=>by
  have first: ∀{p q:Int×Int} {l m:Iv},Ok (p::l)->Ok (q::m)->(∀n,mem (p::l) n->mem (q::m) n)->q.1<=p.1/\(p.1<=q.1->p.2<=q.2):=by
   intro p q l m j hm h;constructor
   .rcases mem_cons.1 (h p.1 (mem_cons.2 (.inl ⟨by omega,j.2.1⟩)))with h1|⟨r,d,h1,h2⟩
    .exact h1.1
    .have:=hm.2.2.2.1 r d;have:=hm.2.1;omega
   .intro hle;obtain⟨r,d,h1,h2⟩:=Wa hm (a:=p.1) (b:=p.2) j.2.1 λn h1 h2=>h n (mem_cons.2 (.inl ⟨h1,h2⟩));rcases List.mem_cons.1 d with rfl|d
    .exact h2
    .have:=hm.2.2.2.1 r d;have:=hm.2.1;omega
  have h1:=first j hm λn=>(h n).1
  have h2:=first hm j λn=>(h n).2
  have O:p.1=q.1:=by omega
  have T:p.2=q.2:=by have:=h1.2 (by omega);have:=h2.2 (by omega);omega
  have e:p=q:=Prod.ext O T;subst e;rw[mN j.tail hm.tail];intro n;have K:=h n;rw[mem_cons,mem_cons]at K;constructor
  .rintro⟨r,d,y,J⟩;rcases K.1 (.inr ⟨r,d,y,J⟩)with v|v
   .have:=j.2.2.2.1 r d;omega
   .exact v
  .rintro⟨r,d,y,J⟩;rcases K.2 (.inr ⟨r,d,y,J⟩)with v|v
   .have:=hm.2.2.2.1 r d;omega
   .exact v
def Jd{l:Iv}(h:Ok l){a k:Int}(hk:a<=k):(mem l k->cnt l a (k+1)=cnt l a k+1)/\(¬mem l k->cnt l a (k+1)=cnt l a k):=by
 have h1:=LW (Ok.aZ h) hk (show k<=k+1 by omega);have h2:=Sr (Ok.aZ h) (a:=k);have d:=E0 h (show k<=k+1 by omega);have j:=DL l k (k+1)
 grind
def LX: ∀{l:Iv},(∀p∈l,p.1<p.2)-> ∀{a b:Int},(∀n,mem l n->a<=n/\n<b)->cnt l a b=Gn l
 | [],_,a,b,_=>rfl
 | p::r,h,a,b,hin=>by
  have hp:=h p List.mem_cons_self;have h1:=hin p.1 (mem_cons.2 (.inl ⟨by omega,hp⟩));have h2:=hin (p.2-1) (mem_cons.2 (.inl ⟨by omega,by omega⟩));have v:=LX (l:=r) (λq j=>h q (List.mem_cons_of_mem _ j)) (a:=a) (b:=b) λn d=>hin n (mem_cons.2 (.inr d));simp only[cnt,Gn,NZ,v];omega
def aget:List (Int×Value)->Int->Option Value
 | [],_=>none
 | p::r,n=>if p.1=n then some p.2 else aget r n
structure MapI(k:IntKind)(es:Array MapEntry)(clock:Nat)(m:List (Int×Value)):Prop where
 keys:es.toList.map (λe=>(e.key,e.val))=m.map (λp=>(Value.int k p.1,p.2))
 nodup:(m.map (·.1)).Nodup
 born:(es.toList.map (·.born)).Nodup
 lt: ∀e∈es.toList,e.born<clock
def MapI.empty(k:IntKind):MapI k #[] 0 []:=⟨rfl,by simp,by simp,by simp⟩
def YD(k:IntKind)(a b:Int):Instr.sameNow (.int k) (.int k a) (.int k b)=some (a==b):=by simp[Instr.sameNow]
def Pm(k:IntKind)(n:Int): ∀(es:List MapEntry) (m:List (Int×Value)) (i:Nat),es.map (λe=>(e.key,e.val))=m.map (λp=>(Value.int k p.1,p.2))->
  ∃res,Instr.findNow (.int k) (.int k n) es i=some res/\
   ((res=none/\aget m n=none)∨ ∃j v,res=some (i+j,v)/\aget m n=some v/\m[j]? =some (n,v)/\j<es.length)
 | [],[],i,_=>⟨none,rfl,.inl ⟨rfl,rfl⟩⟩
 | [],_::_,i,h=>by simp at h
 | _::_,[],i,h=>by simp at h
 | e::r,p::m,i,h=>by
  simp only[List.map_cons,List.cons.injEq,Prod.mk.injEq]at h;obtain⟨⟨hk,K⟩,J⟩:=h;simp only[Instr.findNow,hk,YD];by_cases hn:n=p.1
  .subst hn;simp only[beq_self_eq_true];refine⟨_,rfl,.inr ⟨0,p.2,by simp[K],by simp[aget],by simp,by simp⟩⟩
  .have:(n==p.1)=false:=by simp[hn]
   simp only[this];obtain⟨res,h1,h2⟩:=Pm k n r m (i+1) J;refine⟨res,h1,?_⟩;rcases h2 with ⟨d,y⟩|⟨j,v,d,y,O,T⟩
   .exact .inl ⟨d,by simp[aget,Ne.symm hn,y]⟩
   .refine .inr ⟨j+1,v,by rw[d];grind,by simp[aget,Ne.symm hn,y],by grind,by simp;omega⟩
def MapI.find{k:IntKind}{es:Array MapEntry}{c:Nat}{m:List (Int×Value)}(h:MapI k es c m)(n:Int):
  ∃res,Mz k n es res/\((res=none/\aget m n=none)∨ ∃j v,res=some (j,v)/\aget m n=some v/\m[j]? =some (n,v)/\j<es.size):=by
 obtain⟨res,h1,h2⟩:=Pm k n es.toList m 0 h.keys;refine⟨res,h1,?_⟩
 grind
def L0{k:IntKind}{n:Int}{b:Nat}{w:World}{z:Value}{K:Value->Bool->Array MapEntry->Prop}{es:Array MapEntry}{c:Nat}{m:List (Int×Value)}
  (J:w.heap[b]? =some (.map es c))(h:MapI k es c m)(d:K ((aget m n).getD z) (aget m n).isSome es):mE k n (some b) w z K:=by
 obtain⟨res,h1,h2⟩:=h.find n;refine⟨es,res,⟨c,J⟩,h1,?_⟩;rcases h2 with ⟨rfl,y⟩|⟨j,v,rfl,y,_⟩
 .rw[y]at d;exact d
 .rw[y]at d;exact d
def L1{m:List (Int×Value)}{n:Int}{q:List (Int×Value)}(h:aget m n=none):aget (m++q) n=aget q n:=by
 induction m with
 | nil=>rfl
 | cons p r ih=>
  simp only[aget]at h;split at h
  .cases h
  .rename_i hp;simp[aget,hp,ih h]
def Of{m:List (Int×Value)}{n:Int}:aget m n=none↔n∉m.map (·.1):=by
 induction m with
 | nil=>simp[aget]
 | cons p r ih=>
  simp only[aget,List.map_cons,List.mem_cons,not_or]
  grind
def Qu{m q:List (Int×Value)}{n:Int}{v:Value}(h:aget m n=some v):aget (m++q) n=some v:=by
 induction m with
 | nil=>cases h
 | cons p r ih=>
  simp only[aget]at h;by_cases hp:p.1=n
  .rw[if_pos hp]at h;simp[aget,hp,h]
  .rw[if_neg hp]at h;simp[aget,hp,ih h]
def mO{m:List (Int×Value)}{n:Int}{v:Value}{j:Nat}{u:Value}(d:m[j]? =some (n,u))(J:(m.map (·.1)).Nodup):
  (∀i,aget (m.set j (n,v)) i=if i=n then some v else aget m i)/\(m.set j (n,v)).map (·.1)=m.map (·.1):=by
 induction m generalizing j with
 | nil=>simp at d
 | cons p r ih=>
  cases j with
  | zero=>
   simp at d;subst d;refine⟨λi=> ?_,by simp⟩;simp only[List.set_cons_zero,aget]
   grind
  | succ j=>
   simp only[List.map_cons,List.nodup_cons]at J;obtain⟨h1,h2⟩:=ih (by simpa using d) J.2;have y:n∈r.map (·.1):=List.mem_map.2 ⟨_,List.mem_of_getElem? (by simpa using d),rfl⟩;have K:p.1≠n:=λe=>J.1 (e▸y);refine⟨λi=> ?_,by grind⟩;simp only[List.set_cons_succ,aget,h1]
   grind
def MapI.put{k:IntKind}{es:Array MapEntry}{c:Nat}{m:List (Int×Value)}(h:MapI k es c m)(n:Int)(v:Value){res:Option (Nat×Value)}(hf:Mz k n es res):
  ∃d Y m',mapPut es c (.int k n) v res= .map d Y/\MapI k d Y m'/\(∀i,aget m' i=if i=n then some v else aget m i)/\m'.length<=m.length+1/\
   (aget m n=none->m'.length=m.length+1)/\(aget m n≠none->m'.length=m.length):=by
 obtain⟨J,h1,h2⟩:=h.find n;have:J=res:=by unfold Mz at h1 hf;rw[h1]at hf;exact Option.some.inj hf
 subst this;rcases h2 with ⟨rfl,K⟩|⟨j,u,rfl,K,h4,h5⟩
 .refine⟨_,_,m++[(n,v)],rfl,⟨?_,?_,?_,?_⟩,λi=> ?_,by simp,by simp,λh=>absurd K h⟩
  .simp[h.keys]
  .rw[List.map_append,List.nodup_append];refine⟨h.nodup,by simp,λa T b O=> ?_⟩;simp at O;subst O;intro e;subst e;exact Of.1 K T
  .simp only[Array.toList_push,List.map_append,List.nodup_append];refine⟨h.born,by simp,λa T b O=> ?_⟩;simp at O;obtain⟨e,he,rfl⟩:=List.mem_map.1 T;have:=h.lt e he;omega
  .intro e he;simp only[Array.toList_push,List.mem_append,List.mem_singleton]at he;rcases he with he|rfl
   .have:=h.lt e he;omega
   .simp
  .by_cases y:i=n
   .subst y;rw[if_pos rfl,L1 K];simp[aget]
   .rw[if_neg y];cases hg:aget m i with
    | none=>rw[L1 hg];simp[aget,Ne.symm y]
    | some u=>exact Qu hg
 .obtain⟨g1,g2⟩:=mO (v:=v) h4 h.nodup;refine⟨_,_,m.set j (n,v),rfl,⟨?_,by rw[g2];exact h.nodup,?_,?_⟩,g1,by simp,(λh=>by grind),λ_=>by simp⟩
  .apply List.ext_getElem?;intro i;have hk:=congrArg (λl=>l[i]?) h.keys
   grind
  .have:(es.modify j λe=>{e with key:=.int k n,val:=v}).toList.map (·.born)=es.toList.map (·.born):=by
    apply List.ext_getElem?
    grind
   rw[this];exact h.born
  .intro e he;obtain⟨i,y,rfl⟩:=List.mem_iff_getElem.1 he;simp only[Array.getElem_toList,Array.getElem_modify];have aB:i<es.size:=by simpa using y
   split
   .exact h.lt es[i] (by simp)
   .exact h.lt es[i] (by simp)
def Te{k:IntKind}{n:Int}{v:Value}{b:Nat}{w:World}{K:World->Prop}{es:Array MapEntry}{c:Nat}{m:List (Int×Value)}
  (J:w.heap[b]? =some (.map es c))(h:MapI k es c m)
  (hK: ∀w' d j m',w'.heap[b]? =some (.map d j)->MapI k d j m'->(∀i,aget m' i=if i=n then some v else aget m i)->m'.length<=m.length+1->
   (aget m n=none->m'.length=m.length+1)->(aget m n≠none->m'.length=m.length)->Ext (KF b) w w'->w'.heap.size=w.heap.size->K w'):WQ k n v (some b) w K:=by
 obtain⟨res,h1,_⟩:=h.find n;refine⟨b,es,c,res,rfl,J,h1,?_⟩;obtain⟨d,j,m',h2,O,T,Y,h6,h7⟩:=h.put n v h1;rw[h2];have y:=F4 J;exact hK _ d j m' (by simp[World.Gd,y]) O T Y h6 h7 (Ext.Gd w b _) (by simp[World.Gd])
def Ir{α β:Type}(f:α->β): ∀(l:List α) (j:Nat),(l.eraseIdx j).map f=(l.map f).eraseIdx j
 | [],j=>by simp
 | x::r,0=>by simp
 | x::r,j+1=>by simp[Ir f r j]
def a7{m:List (Int×Value)}{n:Int}{j:Nat}{u:Value}(v:m[j]? =some (n,u))(y:(m.map (·.1)).Nodup):
  (∀i,aget (m.eraseIdx j) i=if i=n then none else aget m i)/\((m.eraseIdx j).map (·.1)).Nodup:=by
 refine⟨?_,?_⟩
 .induction m generalizing j with
  | nil=>simp at v
  | cons p r ih=>
   simp only[List.map_cons,List.nodup_cons]at y;cases j with
   | zero=>
    simp at v;subst v;intro i;simp only[List.eraseIdx_cons_zero,aget];by_cases h:n=i
    .subst h;simp;exact Of.2 y.1
    grind
   | succ j=>
    have d:n∈r.map (·.1):=List.mem_map.2 ⟨_,List.mem_of_getElem? (by simpa using v),rfl⟩;have J:p.1≠n:=λe=>y.1 (e▸d);intro i;simp only[List.eraseIdx_cons_succ,aget]
    grind
 grind
def MapI.del{k:IntKind}{es:Array MapEntry}{c:Nat}{m:List (Int×Value)}(h:MapI k es c m)(n:Int){res:Option (Nat×Value)}(hf:Mz k n es res):
  ∃d m',WO es c res= .map d c/\MapI k d c m'/\(∀i,aget m' i=if i=n then none else aget m i)/\m'.length<=m.length/\d.toList.Sublist es.toList/\
   (∀e∈es.toList,e.key≠ .int k n->e∈d.toList):=by
 obtain⟨v,h1,h2⟩:=h.find n;have:v=res:=by unfold Mz at h1 hf;rw[h1]at hf;exact Option.some.inj hf
 subst this;rcases h2 with ⟨rfl,J⟩|⟨j,u,rfl,J,K,Y⟩
 .refine⟨es,m,rfl,h,λi=> ?_,Nat.le_refl _,List.Sublist.refl _,λ_ h _=>h⟩
  grind
 .obtain⟨g1,g2⟩:=a7 K h.nodup;have he:(es.eraseIdxIfInBounds j).toList=es.toList.eraseIdx j:=by simp
  refine⟨_,m.eraseIdx j,rfl,⟨?_,g2,?_,?_⟩,g1,List.length_eraseIdx_le _ _,?_,?_⟩
  .rw[he,Ir,Ir,h.keys]
  .rw[he,Ir];exact h.born.sublist (List.eraseIdx_sublist _ _)
  .intro e hm;rw[he]at hm;exact h.lt e (List.mem_of_mem_eraseIdx hm)
  .grind
  .intro e hm hk;rw[he,List.mem_eraseIdx_iff_getElem?];obtain⟨i,O⟩:=List.mem_iff_getElem?.1 hm;refine⟨i,?_,O⟩;intro y;subst y;have T:=congrArg (λl=>l[i]?) h.keys
   grind
def O7{k:IntKind}{n:Int}{b:Nat}{w:World}{K:World->Prop}{es:Array MapEntry}{c:Nat}{m:List (Int×Value)}
  (v:w.heap[b]? =some (.map es c))(h:MapI k es c m)
  (hK: ∀w' d m',w'.heap[b]? =some (.map d c)->MapI k d c m'->(∀i,aget m' i=if i=n then none else aget m i)->m'.length<=m.length->d.toList.Sublist es.toList->
   (∀e∈es.toList,e.key≠ .int k n->e∈d.toList)->Ext (KF b) w w'->w'.heap.size=w.heap.size->K w'):MDEL k n (some b) w K:=by
 obtain⟨res,h1,_⟩:=h.find n;refine⟨es,c,res,v,h1,?_⟩;obtain⟨d,m',h2,y,J,O,T,Y⟩:=h.del n h1;rw[h2];have j:=F4 v;exact hK _ d m' (by simp[World.Gd,j]) y J O T Y (Ext.Gd w b _) (by simp[World.Gd])
def MapI.Pn{k:IntKind}{es:Array MapEntry}{c:Nat}{m:List (Int×Value)}(h:MapI k es c m){e:MapEntry}(he:e∈es.toList):
  ∃n,e.key= .int k n/\aget m n=some e.val:=by
 obtain⟨i,j⟩:=List.mem_iff_getElem?.1 he;have d:=congrArg (λl=>l[i]?) h.keys;simp only[List.getElem?_map,j,Option.map_some]at d;cases hm:m[i]? with
 | none=>grind
 | some p=>
  rw[hm]at d;simp only[Option.map_some,Option.some.injEq,Prod.mk.injEq]at d;refine⟨p.1,d.1,?_⟩;have: ∀(m:List (Int×Value)) (i:Nat),(m.map (·.1)).Nodup->m[i]? =some p->aget m p.1=some p.2:=by
   intro m
   induction m with
   | nil=>grind
   | cons q r ih=>
    intro i y j;simp only[List.map_cons,List.nodup_cons]at y;cases i with
    | zero=>simp at j;subst j;simp[aget]
    | succ i=>
     have v:p.1∈r.map (·.1):=List.mem_map.2 ⟨_,List.mem_of_getElem? (by simpa using j),rfl⟩;have J:q.1≠p.1:=λe=>y.1 (e▸v);simp[aget,J,ih i y.2 (by grind)]
  rw[this m i h.nodup hm,d.2]
def MapI.Ss{k:IntKind}{es:Array MapEntry}{c:Nat}{m:List (Int×Value)}(h:MapI k es c m){n:Int}{v:Value}(y:aget m n=some v):
  ∃e∈es.toList,e.key= .int k n/\e.val=v:=by
 obtain⟨res,h1,h2⟩:=h.find n;rcases h2 with ⟨_,d⟩|⟨j,u,rfl,d,J,K⟩
 .grind
 .rw[d]at y;cases y;obtain⟨e,he,hk,O⟩:=MN k n es.toList 0 j _ h1
  grind
def Po(s:Aa):Nat->Prop:=λk=> ∃a,s.base=some a/\k=a.block
structure Pr where
 holds:(Nat->Prop)->World->Prop
 loc: ∀{D:Nat->Prop} {w w':World} {S:Nat->Prop},holds D w->Ext S w w'->(∀k,D k-> ¬S k)->holds D w'
 lt: ∀{D:Nat->Prop} {w:World} {k:Nat},holds D w->D k->k<w.heap.size
def Lo:List Pr->(Nat->Prop)->World->Prop
 | [],D,_=> ∀k,¬D k
 | P::Ps,D,w=> ∃d j,P.holds d w/\Lo Ps j w/\(∀k,d k-> ¬j k)/\ ∀k,D k↔d k∨j k
def Sat(Ps:List Pr)(w:World):Prop:= ∃D,Lo Ps D w
def Lo.loc: ∀{Ps:List Pr} {D:Nat->Prop} {w w':World} {S:Nat->Prop},Lo Ps D w->Ext S w w'->(∀k,D k-> ¬S k)->Lo Ps D w'
 | [],_,_,_,_,h,_,_=>h
 | P::Ps,D,w,w',S,⟨D1,D2,h1,h2,hd,hD⟩,he,hS=>⟨D1,D2,P.loc h1 he λk hk=>hS k ((hD k).2 (.inl hk)),h2.loc he λk hk=>hS k ((hD k).2 (.inr hk)),hd,hD⟩
def Lo.lt: ∀{Ps:List Pr} {D:Nat->Prop} {w:World} {k:Nat},Lo Ps D w->D k->k<w.heap.size
 | [],_,_,_,h,hk=>(h _ hk).elim
 | P::Ps,D,w,k,⟨D1,D2,h1,h2,hd,d⟩,hk=>by
  rcases(d k).1 hk with h|h
  .exact P.lt h1 h
  .exact h2.lt h
def Lo.append: ∀{Ps J:List Pr} {D:Nat->Prop} {w:World},Lo (Ps++J) D w↔ ∃j d,Lo Ps j w/\Lo J d w/\(∀k,j k-> ¬d k)/\ ∀k,D k↔j k∨d k
 | [],J,D,w=>by
  constructor
  .intro h;exact⟨λ_=>False,D,λ_ f=>f,h,λ_ f=>f.elim,λk=>by simp⟩
  .rintro⟨j,d,h1,h2,_,K⟩;have:D=d:=by
    funext k;have:=K k;simp[h1 k]at this
    grind
   grind
 | P::Ps,J,D,w=>by
  constructor
  .rintro⟨j,d,h1,h2,hd,K⟩;obtain⟨v,y,g1,g2,T,O⟩:=Lo.append.1 h2;refine⟨λk=>j k∨v k,y,⟨j,v,h1,g1,λk hk he=>hd k hk ((O k).2 (.inl he)),λk=>Iff.rfl⟩,g2,?_,?_⟩
   .grind
   grind
  .rintro⟨j,d,⟨v,y,h1,h2,hd,K⟩,g2,T,O⟩;refine⟨v,λk=>y k∨d k,h1,Lo.append.2 ⟨y,d,h2,g2,λk hk=>T k ((K k).2 (.inr hk)),λk=>Iff.rfl⟩,?_,?_⟩
   .grind
   grind
def Lo.perm{Ps J:List Pr}(h:Ps.Perm J): ∀{D:Nat->Prop} {w:World},Lo Ps D w->Lo J D w:=by
 induction h with
 | nil=>grind
 | cons P _ ih=>
  rintro D w ⟨d,v,h1,h2,j⟩;exact⟨d,v,h1,ih h2,j⟩
 | swap P Q l=>
  rintro D w ⟨d,v,h1,⟨K,y,j,T,hd,Y⟩,O,gD⟩;refine⟨K,λk=>d k∨y k,j,⟨d,y,h1,T,λk hk he=>O k hk ((Y k).2 (.inr he)),λk=>Iff.rfl⟩,?_,?_⟩
  .grind
  grind
 | trans _ _ ih1 ih2=>grind
def Sat.perm{Ps d:List Pr}{w:World}(h:Sat Ps w)(hp:Ps.Perm d):Sat d w:=let⟨D,h⟩:=h;⟨D,h.perm hp⟩
def DX{α:Type}: ∀{l:List α} {i:Nat} {x:α},l[i]? =some x->l.Perm (x::l.eraseIdx i)
 | [],i,x,h=>by simp at h
 | y::l,0,x,h=>by simp at h;subst h;exact .refl _
 | y::l,i+1,x,h=>by
  have:=DX (l:=l) (i:=i) (x:=x) (by grind);exact(this.cons y).trans (.swap x y _)
def Qv{α:Type}: ∀{l:List α} {i:Nat} {x:α},i<l.length->(x::l.eraseIdx i).Perm (l.set i x)
 | [],i,x,h=>by simp at h
 | y::l,0,x,h=>.refl _
 | y::l,i+1,x,h=>by
  have:=Qv (l:=l) (i:=i) (x:=x) (by simpa using h);exact(List.Perm.swap y x _).trans (this.cons y)
section
variable{Ps F:List Pr}{P P':Pr}{w w':World}
def Sat.front(i:Nat)(H:Sat Ps w)(d:Ps[i]? =some P):Sat (P::Ps.eraseIdx i) w:=H.perm (DX d)
def Sat.back(i:Nat)(H:Sat (P'::Ps.eraseIdx i) w)(d:i<Ps.length:=by simp):Sat (Ps.set i P') w:=H.perm (Qv d)
def Sat.nothing(H:Sat Ps w)(he:Ext AP w w'):Sat Ps w':=let⟨D,h⟩:=H;⟨D,h.loc he λ_ _ f=>f⟩
def Sat.drew(H:Sat Ps w):Sat Ps w.drew:=H.nothing (Ext.drew _ w)
def Sat.tail(H:Sat (P::F) w):Sat F w:=let⟨_,_,D2,_,h,_⟩:=H;⟨D2,h⟩
def Sat.head(H:Sat (P::F) w): ∃D,P.holds D w:=let⟨_,D1,_,h,_⟩:=H;⟨D1,h⟩
def Sat.step(H:Sat (P::F) w): ∃D,P.holds D w/\ ∀w' d P',Ext D w w'->P'.holds d w'->(∀k,d k->D k∨w.heap.size<=k)->Sat (P'::F) w':=by
 obtain⟨D,j,v,h1,h2,hd,O⟩:=H;refine⟨j,h1,λw' d P' he J K=>⟨_,d,v,J,h2.loc he λk hk h=>hd k h hk,λk hk h=> ?_,λk=>Iff.rfl⟩⟩;rcases K k hk with y|y
 .grind
 .have:=h2.lt h;omega
def Sat.new(H:Sat F w){D:Nat->Prop}(he:Ext AP w w')(j:P.holds D w')(v: ∀k,D k->w.heap.size<=k):Sat (P::F) w':=by
 obtain⟨d,h2⟩:=H;refine⟨_,D,d,j,h2.loc he λ_ _ f=>f,λk hk h=> ?_,λk=>Iff.rfl⟩;have h1:=v k hk;have:=h2.lt h;omega
end
def Old(w0:World):Pr where
 holds D w:=(∀k,D k↔k<w0.heap.size)/\Ext AP w0 w
 loc h he hS:=⟨h.1,h.2.trans he (λ_ _ f=>f) λi d hs=>hS i ((h.1 i).2 d) hs⟩
 lt h hk:=by have h1:=(h.1 _).1 hk;have:=h.2.size;omega
def Sat.start(w:World):Sat [Old w] w:=⟨_,λk=>k<w.heap.size,λ_=>False,⟨λ_=>Iff.rfl,Ext.refl _ _⟩,λ_ f=>f,λ_ _ f=>f,λ_=>Iff.rfl⟩
def Sat.Pb{Ps:List Pr}{w w0:World}(i:Nat)(H:Sat Ps w)(d:Ps[i]? =some (Old w0)):Ext AP w0 w:=let⟨_,h⟩:=(H.front i d).head;h.2
def NB(d:List Pr):Pr where
 holds D w:=Lo d D w
 loc:=Lo.loc
 lt:=Lo.lt
def Ex{α:Type}(P:α->Pr):Pr where
 holds D w:= ∃x,(P x).holds D w
 loc h he hS:=let⟨x,h⟩:=h;⟨x,(P x).loc h he hS⟩
 lt h hk:=let⟨x,h⟩:=h;(P x).lt h hk
def Jx(p:Prop)(P:Pr):Pr where
 holds D w:=p/\P.holds D w
 loc h he hS:=⟨h.1,P.loc h.2 he hS⟩
 lt h hk:=P.lt h.2 hk
def Sat.star{y F:List Pr}{w:World}:Sat (NB y::F) w↔Sat (y++F) w:=by
 constructor
 .rintro⟨D,d,j,h1,h2,v⟩;exact⟨D,Lo.append.2 ⟨d,j,h1,h2,v⟩⟩
 .rintro⟨D,h⟩;obtain⟨d,j,h1,h2,v⟩:=Lo.append.1 h;exact⟨D,d,j,h1,h2,v⟩
def Sat.ex{α:Type}{P:α->Pr}{F:List Pr}{w:World}:Sat (Ex P::F) w↔ ∃x,Sat (P x::F) w:=by
 constructor
 .rintro⟨D,d,j,⟨x,h1⟩,h2,v⟩;exact⟨x,D,d,j,h1,h2,v⟩
 .rintro⟨x,D,d,j,h1,h2,v⟩;exact⟨D,d,j,⟨x,h1⟩,h2,v⟩
def Sat.where{p:Prop}{P:Pr}{F:List Pr}{w:World}:Sat (Jx p P::F) w↔p/\Sat (P::F) w:=by
 constructor
 .rintro⟨D,d,j,⟨x,h1⟩,h2,v⟩;exact⟨x,D,d,j,h1,h2,v⟩
 .rintro⟨x,D,d,j,h1,h2,v⟩;exact⟨D,d,j,⟨x,h1⟩,h2,v⟩
def Cells(b t:Nat)(vs:List Value):Pr where
 holds D w:=(∀k,D k↔k=b)/\b<w.heap.size/\ ∀j v,vs[j]? =some v->w.cell? ⟨b,j,none⟩=some v/\w.frozen? ⟨b,j,none⟩=false
 loc h he hS:=⟨h.1,Nat.lt_of_lt_of_le h.2.1 he.size,λj v d=>⟨he.cell (h.2.2 j v d).1 (hS _ ((h.1 _).2 rfl)),by
  rw[he.frozen (p:=⟨_,j,none⟩) h.2.1 (hS _ ((h.1 _).2 rfl))];grind⟩⟩
 lt h hk:=by have:=(h.1 _).1 hk;omega
section
variable{Ps F:List Pr}{w w':World}{b t:Nat}{vs:List Value}
def Sat.Ah(H:Sat (Cells b t vs::F) w){o:Nat}{v:Value}(d:vs[o]? =some v):w.cell? (Addr.mk b o none)=some v:=let⟨_,h⟩:=H.head;(h.2.2 o v d).1
def Sat.cell(H:Sat (Cells b t vs::F) w){o m:Nat}{v:Value}(d:vs[o+m]? =some v):w.cell? ((Addr.mk b o none).add m)=some v:=by
 rw[add_eq];exact H.Ah d
def Sat.qV(H:Sat (Cells b t vs::F) w){o:Nat}(d:o<vs.length):w.frozen? (Addr.mk b o none)=false:=let⟨_,h⟩:=H.head;(h.2.2 o _ (List.getElem?_eq_getElem d)).2
def Tf{D:Nat->Prop}(d: ∀k,D k↔k=b)(h:w.heap[b]? =some (.cells ⟨vs⟩ t)):(Cells b t vs).holds D w:=
 ⟨d,F4 h,λj v y=>⟨by rw[AW h];grind,by simp[World.frozen?,h]⟩⟩
def AR(H:Sat F w){K:Nat->World->Prop}(d: ∀b w',Sat (Cells b t vs::F) w'->Ext AP w w'->K b w'):AL (.cells ⟨vs⟩ t) w K:=
 BS λw' j hs he=>d _ _ (H.new (P:=Cells w.heap.size t vs) (D:=λk=>k=w.heap.size) he (Tf (λ_=>Iff.rfl) j) λk hk=>by omega) he
def Sat.stored(H:Sat (Cells b t vs::F) w){o:Nat}(J:o<vs.length)(v:Value):Sat (Cells b t (vs.set o v)::F) (w.setCell ⟨b,o,none⟩ v):=by
 obtain⟨D,h,hs⟩:=H.step;have d:=NY (v:=v) (h.2.2 o _ (List.getElem?_eq_getElem J)).1;refine hs _ D _ (d.ext.mono λi _ K=>(h.1 i).2 K) ⟨h.1,by rw[d.size];exact h.2.1,λj u y=> ?_⟩ λk hk=>.inl hk;rw[d.frozen];rw[List.getElem?_set]at y;by_cases e:o=j
 .subst e;rw[if_pos rfl,if_pos J]at y;cases y;exact⟨d.same,(h.2.2 o _ (List.getElem?_eq_getElem J)).2⟩
 .rw[if_neg e]at y;rw[d.other _ (by grind)];exact h.2.2 j u y
def AZ(H:Sat (Cells b t vs::F) w){o m:Nat}{v:Value}(y:v.oneCell'=true)(d:o+m<vs.length){K:World->Prop}(j: ∀w',Sat (Cells b t (vs.set (o+m) v)::F) w'->K w'):
  stCells ((Addr.mk b o none).add m) 0 [v] w K:=by
 simp only[stCells,add_zero,add_eq];exact⟨⟨⟨_,H.Ah (List.getElem?_eq_getElem d)⟩,H.qV d,y⟩,j _ (H.stored d v)⟩
def CO(H:Sat (Cells b t vs::F) w){o:Nat}{v:Value}(y:v.oneCell'=true)(j:o<vs.length){K:World->Prop}(d: ∀w',Sat (Cells b t (vs.set o v)::F) w'->K w'):
  stCells (Addr.mk b o none) 0 [v] w K:=by
 have:=AZ H (m:=0) y j d;rwa[show(Addr.mk b o none).add 0=Addr.mk b o none from add_zero _]at this
def Wb: ∀(news:List Value) {vs:List Value} {w:World} (o i:Nat),Sat (Cells b t vs::F) w->o+i+news.length<=vs.length->(∀v∈news,v.oneCell'=true)-> ∀{K:World->Prop},
  (∀w',Sat (Cells b t (vs.take (o+i)++news++vs.drop (o+i+news.length))::F) w'->K w')->stCells (Addr.mk b o none) i news w K
 | [],vs,w,o,i,H,hl,ho,K,hK=>by
  refine hK w ?_;simpa using H
 | v::r,vs,w,o,i,H,hl,ho,K,hK=>by
  have d:o+i<vs.length:=by grind
  simp only[stCells,add_eq];refine⟨⟨⟨_,H.Ah (List.getElem?_eq_getElem d)⟩,H.qV d,ho v (by simp)⟩,?_⟩;refine Wb r o (i+1) (H.stored d v) (by grind) (λu hu=>ho u (by simp[hu])) λw' j=>hK w' ?_;have:(vs.set (o+i) v).take (o+(i+1))++r++(vs.set (o+i) v).drop (o+(i+1)+r.length)=vs.take (o+i)++(v::r)++vs.drop (o+i+(v::r).length):=by
   rw[show o+(i+1)=o+i+1 from by omega,List.take_set,List.take_succ_eq_append_getElem d,List.set_append_right _ _ (by simp;omega)];simp only[List.length_take,Nat.min_eq_left (Nat.le_of_lt d),Nat.sub_self,List.set_cons_zero,List.append_assoc,List.singleton_append,List.length_cons,List.cons_append];congr 2;rw[List.drop_set_of_lt (by omega),show o+i+1+r.length=o+i+(r.length+1)from by omega];simp
  grind
def GM{news:List Value}(H:Sat (Cells b t vs::F) w)(J:news.length=vs.length)(j: ∀v∈news,v.oneCell'=true){K:World->Prop}
  (d: ∀w',Sat (Cells b t news::F) w'->K w'):stCells (Addr.mk b 0 none) 0 news w K:=by
 refine Wb news 0 0 H (by omega) j λw' y=>d w' ?_;have:List.drop news.length vs=[]:=List.drop_eq_nil_iff.2 (by omega)
 grind
end
def Row(t z:Nat)(s:Aa)(vs:List Value):Pr where
 holds D w:=(∀k,D k↔Po s k)/\I0 w 0 t z s vs
 loc h he hS:=⟨h.1,h.2.ext he λb j=>hS _ ((h.1 _).2 ⟨_,j,rfl⟩)⟩
 lt h hk:=by obtain⟨a,d,rfl⟩:=(h.1 _).1 hk;exact(h.2.lt d).2.1
section
variable{Ps F:List Pr}{w w':World}{t z:Nat}{s:Aa}{vs:List Value}
def Sat.own(H:Sat (Row t z s vs::F) w):I0 w 0 t z s vs:=let⟨_,h⟩:=H.head;h.2
def Sat.Du(H:Sat (Row t z s vs::F) w):vs.length=s.len*z:=H.own.len
def I0.Eo{w:World}{B t z:Nat}{s:Aa}{vs:List Value}(h:I0 w B t z s vs)(d:0<s.len): ∃b,s.base=some ⟨b,0,none⟩:=by
 rcases h.row with ⟨h1,h2⟩|⟨b,cs,h1,_⟩
 .have:=h.cap;omega
 grind
def I0.cell{w:World}{B t z:Nat}{s:Aa}{vs:List Value}(h:I0 w B t z s vs){a:Addr}(d:s.base=some a){j:Nat}{v:Value}(y:vs[j]? =some v):w.cell? (a.add j)=some v:=by
 have:=h.rowAt;rw[d]at this;exact this.2 j v y
def Sat.nil(H:Sat F w)(t z:Nat):Sat (Row t z ⟨none,0,0⟩ []::F) w:=
 H.new (P:=Row t z ⟨none,0,0⟩ []) (D:=Po ⟨none,0,0⟩) (Ext.refl _ _) ⟨λ_=>Iff.rfl,I0.nil w 0 t z⟩ λk hk=>by obtain⟨a,d,_⟩:=hk;cases d
def Ep{bytes:Nat}{zs:Array Value}{x:Aa}{K:Aa->World->Prop}{news:List Value}(H:Sat (Row t z s vs::F) w)
  (hz:zs.size=z)(J:rowAt w x.base (x.len*z) news)(Y:news.length=x.len*z)(ho: ∀v∈news,v.oneCell'=true)
  (T:(s.len+x.len)*bytes<=140737488355328)(O:s.len+x.len<=9223372036854775807)
  (hK: ∀s' w',Sat (Row t z s' (vs++news)::F) w'->s'.len=s.len+x.len->K s' w'):APP t z bytes zs s x w K:=by
 obtain⟨D,h,hs⟩:=H.step;refine Pg hz h.2 J Y ho (Nat.zero_le _) T O λs' w' y hlen j d=>hK s' w' ?_ hlen;refine hs w' (Po s') _ (j.mono λi _ hi=>(h.1 i).2 hi) ⟨λ_=>Iff.rfl,y⟩ ?_;rintro k ⟨a,ha,rfl⟩;rcases d with e|⟨b,e,T⟩
 .exact .inl ((h.1 _).2 ⟨a,by grind,rfl⟩)
 .rw[e]at ha;cases ha;exact .inr T
def EX{bytes:Nat}{zs:Array Value}{K:Aa->World->Prop}{news:List Value}{b:Nat}(H:Sat (Cells b t news::Row t z s vs::F) w)
  (hz:zs.size=z)(O:news.length=z)(T: ∀v∈news,v.oneCell'=true)
  (J:(s.len+1)*bytes<=140737488355328)(d:s.len+1<=9223372036854775807)
  (y: ∀s' w',Sat (Row t z s' (vs++news)::F) w'->s'.len=s.len+1->K s' w'):APP t z bytes zs s ⟨some (Addr.mk b 0 none),1,1⟩ w K:=by
 refine Ep H.tail hz (x:=⟨some (Addr.mk b 0 none),1,1⟩) ⟨by grind,λj v Y=> ?_⟩ (by grind) T J d y;exact H.cell (by grind)
def Sat.Kj(H:Sat (Row t z s vs::F) w):rowAt w s.base (s.len*z) vs:=H.own.rowAt
def HE(H:Sat (Row t z s vs::F) w){j:Nat}{v:Value}(ho:v.oneCell'=true)(hj:j<vs.length){a:Addr}(O:s.base=some a){K:World->Prop}
  (Y: ∀w',Sat (Row t z s (vs.set j v)::F) w'->K w'):stCells (a.add j) 0 [v] w K:=by
 obtain⟨D,h,hs⟩:=H.step;have d:=h.2;rcases d.row with ⟨h1,_⟩|⟨b,cs,h1,h2,y,h4,T⟩
 .grind
 .rw[h1]at O;cases O;have hl:=d.len;have J:j<cs.size:=by
   have:s.len*z<=s.cap*z:=Nat.mul_le_mul_right _ d.cap;omega
  simp only[stCells,add_zero,add_eq,Nat.zero_add];refine⟨⟨⟨_,(by rw[AW y];exact Array.getElem?_eq_getElem J)⟩,by simp[World.frozen?,y],ho⟩,Y _ ?_⟩;refine hs _ D _ ((Ext.setCell w ⟨b,j,none⟩ v).mono λi _ hi=>(h.1 i).2 ⟨_,h1,hi⟩) ⟨h.1,?_⟩ λk hk=>.inl hk;refine⟨by grind,d.cap,d.top,.inr ⟨b,_,h1,h2,LS y,by grind,?_⟩⟩;rw[Array.toList_setIfInBounds,List.take_set,T]
end
def AV{σ:Type}{first:(σ->World->Prop)->Prop}{rest:σ->(Nat->Value)->World->Prop}(h:first λs w=> ∀j,rest s j w):Af σ first rest:=
 ⟨_,h,λs j w h=>h j⟩
@[simp] theorem mP{T E:Prop}:CND true T E↔T:=Iff.rfl
@[simp] theorem iR{T E:Prop}:CND false T E↔E:=Iff.rfl
def AU{b:Bool}{T E:Prop}(d:b=true)(h:T):CND b T E:=by subst d;exact h
def AO{b:Bool}{T E:Prop}(d:b=false)(h:E):CND b T E:=by subst d;exact h
def BF{a b:Int}{T E:Prop}(h1:a=b->T)(h2:a≠b->E):CND (a==b) T E:=by
 by_cases h:a=b
 .rw[show(a==b)=true from by grind];exact h1 h
 .rw[show(a==b)=false from by grind];exact h2 h
def DM{a b:Int}{T E:Prop}(h1:a≠b->T)(h2:a=b->E):CND (a !=b) T E:=by
 by_cases h:a=b
 .rw[show(a !=b)=false from by grind];exact h2 h
 .rw[show(a !=b)=true from by grind];exact h1 h
def I1{b:Bool}{T E:Prop}(h:CND b E T):CND (!b) T E:=by cases b<;>exact h
structure Rg(it mb since:Nat)(a b:Int)(m0:List (Int×Value))(w:World)(seen:Array Nat)(es:Array MapEntry)(m:List (Int×Value)):Prop where
 iter: ∃last,w.heap[it]? =some (.mapIter (some mb) since seen last)/\(seen.isEmpty=true∨last=since)
 map:w.heap[mb]? =some (.map es since)
 ok:MapI .u64 es since m
 out: ∀c,¬(a<=c/\c<b)->aget m c=aget m0 c
 sub: ∀c v,aget m c=some v->aget m0 c=some v
 done: ∀e∈es.toList,seen.contains e.born=true-> ∀n,e.key= .int .u64 n-> ¬(a<=n/\n<b)
def HF{es:Array MapEntry}{seen:Array Nat}{e:MapEntry}:e∈leftOf es seen↔e∈es.toList/\seen.contains e.born=false:=by
 simp[leftOf,Array.mem_filter]
def Ig(es:Array MapEntry)(seen:Array Nat):Nat:=(es.toList.filter λe=> !seen.contains e.born).length
def filter_lt{α:Type}{p q:α->Bool}: ∀{l:List α},(∀x∈l,q x=true->p x=true)->(∃x∈l,p x=true/\q x=false)->(l.filter q).length<(l.filter p).length
 | [],_,⟨x,d,_⟩=>by cases d
 | y::r,h,⟨x,d,h1,h2⟩=>by
  have hle: ∀{l:List α},(∀x∈l,q x=true->p x=true)->(l.filter q).length<=(l.filter p).length:=by
   intro l
   induction l with
   | nil=>grind
   | cons z s ih=>grind
  rcases List.mem_cons.1 d with rfl|j
  .grind
  .have:=filter_lt (λz hz=>h z (List.mem_cons_of_mem _ hz)) ⟨x,j,h1,h2⟩
   grind
def KH{α β:Type}{f:α->β}: ∀{l:List α},(l.map f).Nodup-> ∀{x y:α},x∈l->y∈l->f x=f y->x=y
 | [],_,x,y,v,_,_=>by cases v
 | z::r,h,x,y,v,J,he=>by
  simp only[List.map_cons,List.nodup_cons]at h;rcases List.mem_cons.1 v with rfl|d<;>rcases List.mem_cons.1 J with rfl|j
  .rfl
  .exact absurd (he▸List.mem_map.2 ⟨y,j,rfl⟩) h.1
  .exact absurd (he▸List.mem_map.2 ⟨x,d,rfl⟩) h.1
  .exact KH h.2 d j he
def range_del{it mb since:Nat}{a b:Int}{m0:List (Int×Value)}{w0:World}{K:World->Prop}{getm:(Option Nat->World->Prop)->World->Prop}
  (aS: ∀w K',Ext (λk=>k=it∨k=mb) w0 w->K' (some mb) w->getm K' w)
  {seen0:Array Nat}{es0:Array MapEntry}{m1:List (Int×Value)}(h0:Rg it mb since a b m0 w0 seen0 es0 m1)(aW:it≠mb)(bS:it<w0.heap.size)(bU:mb<w0.heap.size)
  (hK: ∀w' T m',Ext (λk=>k=it∨k=mb) w0 w'->w'.heap.size=w0.heap.size->w'.heap[mb]? =some (.map T since)->MapI .u64 T since m'->
   (∀c,aget m' c=if a<=c/\c<b then none else aget m0 c)->K w'):
  At (Unit) (()) w0 λSb _ bB J=>
     Af (Bool×Unit) (λaL=>
      WR it bB (λbC=>
       aL (false,()) bC
      ) λbX bY bD=>
       aL (true,()) bD
     ) λqX _ aC=>
      Af (Bool×Unit) (λa0=>
       CND (qX.1) (
        a0 (qX.1,()) aC
       ) (
        K aC
       )
      ) λzE _ aD=>
       rK it aD λbA bZ bL=>
       eZ .u64 bA λaJ=>
       Af (Bool×Unit) (λaM=>
        CND (decide ((aJ:Int)≥a)) (
         aM (decide ((aJ:Int)<b),()) aD
        ) (
         aM (false,()) aD
        )
       ) λND _ y=>
        CND (ND.1) (
         getm (λbF y=>
         MDEL .u64 aJ bF y λbE=>
         J (()) bE) y
        ) (
         J (()) y
        ):=by
 refine AH (λ_ w=>(∃seen es m,Rg it mb since a b m0 w seen es m)/\Ext (λk=>k=it∨k=mb) w0 w/\w.heap.size=w0.heap.size)
  (λ_ w=>match w.heap[it]?,w.heap[mb]? with|some (.mapIter _ _ seen _),some (.map es _)=>Ig es seen|_,_=>0) ⟨⟨_,_,_,h0⟩,Ext.refl _ _,rfl⟩ ?_
 rintro _ _ w ⟨⟨seen,es,m,h⟩,hw,bW⟩;obtain⟨last,j,hl⟩:=h.iter;have a6:(match w.heap[it]?,w.heap[mb]? with|some (.mapIter _ _ seen _),some (.map es _)=>Ig es seen|_,_=>0:Nat)=Ig es seen:=by rw[j,h.map]
 simp only[a6];refine AX (λst w'=>(st.1=false/\(leftOf es seen).isEmpty=true/\(∃d,Rg it mb since a b m0 w' d es m/\d=seen)/\Ext (λk=>k=it∨k=mb) w0 w'/\w'.heap.size=w0.heap.size)∨
   (st.1=true/\ ∃e,e∈es.toList/\seen.contains e.born=false/\w'.heap[it]? =some (.mapIter (some mb) since (seen.push e.born) since)/\w'.heap[mb]? =some (.map es since)/\Ext (λk=>k=it∨k=mb) w0 w'/\w'.heap.size=w0.heap.size)) ?_ ?_
 .refine⟨some mb,since,seen,last,j,es,since,h.map,?_,?_,?_⟩
  .rcases hl with hl|rfl
   .simp[hl]
   .by_cases he:es.isEmpty=true
    .simp[he]
    .have:es.all (λx=>decide (x.born≥last))=false:=by
      have bK:0<es.size:=Nat.pos_of_ne_zero λe=>he (by grind);have hm:es[0]∈es.toList:=by simp
      have:=h.ok.lt _ hm
      grind
     simp[this]
  .intro w' aB aQ;left;have O:Ext AP w w':=by rcases aB with rfl|rfl;exact Ext.refl _ _;exact Ext.drew _ _
   have a7:w'.heap.size=w.heap.size:=by rcases aB with rfl|rfl<;>rfl
   refine⟨rfl,?_,⟨seen,⟨⟨last,O.obj j (λf=>f),hl⟩,O.obj h.map (λf=>f),h.ok,h.out,h.sub,h.done⟩,rfl⟩,hw.trans' O.any,by omega⟩;have:(leftOf es seen).filter (λx=>decide (x.born<since))=leftOf es seen:=by
    apply Array.filter_eq_self.2;intro e he;have h1:=(HF.1 he).1;exact decide_eq_true (h.ok.lt e h1)
   grind
  .intro w' e aB he;right;have O:Ext AP w w':=by rcases aB with rfl|rfl;exact Ext.refl _ _;exact Ext.drew _ _
   have a7:w'.heap.size=w.heap.size:=by rcases aB with rfl|rfl<;>rfl
   obtain⟨h1,h2⟩:=HF.1 he;refine⟨rfl,e,h1,h2,?_,?_,(hw.trans' O.any).trans (Ext.Gd w' it _) (λ_ _ h=>h) (λi _ e=>.inl e),?_⟩
   .have a5:it<w'.heap.size:=by omega
    simp[World.Gd,a5]
   .have:=(Ext.Gd w' it (.mapIter (some mb) since (seen.push e.born) since)).obj (O.obj h.map λf=>f) (λe:mb=it=>aW e.symm);exact this
   .simp[World.Gd];omega
 .rintro⟨bt,u⟩ _ aC hJ;simp only at hJ⊢;refine AX (λst w'=>w'=aC/\bt=true) ?_ ?_
  .refine AQ (λht=>⟨rfl,ht⟩) (λhf=> ?_);rcases hJ with ⟨_,aQ,⟨d,hR,a8⟩,hE,hS⟩|⟨ht,_⟩
   .subst a8;refine hK aC es m hE hS hR.map hR.ok λc=> ?_;split
    .rename_i hc;cases hg:aget m c with
     | none=>rfl
     | some v=>
      exfalso;obtain⟨e,he,hk,hv⟩:=h.ok.Ss hg;have hs:d.contains e.born=true:=by
       cases hsc:d.contains e.born with
       | true=>rfl
       | false=>
        have:e∈leftOf es d:=HF.2 ⟨he,hsc⟩
        grind
      exact h.done e he hs c hk hc
    .rename_i hc;exact h.out c hc
   .rw[ht]at hf;cases hf
  .rintro⟨_,u⟩ _ aD ⟨rfl,a3⟩;rcases hJ with ⟨hf,_⟩|⟨_,e,he,bV,Y,aA,hE,hS⟩
   .rw[a3]at hf;cases hf
   .obtain⟨n,aU,bR⟩:=h.ok.Pn he;have aI:es.find? (λx:MapEntry=>x.born==e.born)=some e:=by
     rw[<-Array.find?_toList];have hb:=h.ok.born;have: ∀l:List MapEntry,(l.map (·.born)).Nodup->e∈l->l.find? (λx:MapEntry=>x.born==e.born)=some e:=by
      intro l
      induction l with
      | nil=>grind
      | cons x r ih=>grind
     grind
    refine⟨mb,since,since,seen.push e.born,es,since,e.born,e,⟨Y,aA⟩,by simp,rfl,aI,?_⟩;rw[aU];show unV (.int .u64) (.int .u64 n) _;show sameK .u64 .u64 _;show Af _ _ _;have bH:Ig es (seen.push e.born)<Ig es seen:=by
     unfold Ig;refine filter_lt (λx _ hx=> ?_) ⟨e,he,by grind,by simp⟩
     grind
    refine AX (λst w'=>w'=aD/\(st.1=true↔a<=n/\n<b)) ?_ ?_
    .refine AB (λh1=>⟨rfl,?_⟩) (λh1=>⟨rfl,?_⟩)
     .grind
     grind
    .rintro⟨bN,u⟩ _ y ⟨rfl,aO⟩;simp only at aO⊢;have hR:Rg it mb since a b m0 y seen es m->True:=λ_=>trivial;refine AQ (λht=> ?_) (λhf=> ?_)
     .refine aS y _ hE ?_;refine O7 aA h.ok λw' T m' aN aV aR bT aH a4 aF bJ=> ?_;have aG:w'.heap[it]? =some (.mapIter (some mb) since (seen.push e.born) since):=aF.obj Y (λe2:it=mb=>aW e2);refine⟨⟨⟨seen.push e.born,T,m',⟨since,aG,.inr rfl⟩,aN,aV,?_,?_,?_⟩,hE.trans aF (λ_ _ h=>h) (λi _ e=>.inr e),by omega⟩,?_⟩
      .intro c hc;rw[aR,if_neg,h.out c hc]
       grind
      .intro c v aE;rw[aR]at aE;split at aE
       .cases aE
       .exact h.sub c v aE
      .intro x hx hs k hk;have aX:=aH.subset hx;by_cases hxb:x.born=e.born
       .-- the entry that was taken out
        obtain⟨k',aT,bQ⟩:=aV.Pn hx;rw[hk]at aT;cases aT;have a9:x=e:=by
         have h1:=KH h.ok.born aX he hxb;exact h1
        grind
       .refine h.done x aX ?_ k hk
        grind
      .simp only[aG,aN];have:Ig T (seen.push e.born)<=Ig es (seen.push e.born):=(aH.filter _).length_le;omega
     .have bI: ¬(a<=n/\n<b):=λh=>by grind
      refine⟨⟨⟨seen.push e.born,es,m,⟨since,Y,.inr rfl⟩,aA,h.ok,h.out,h.sub,?_⟩,hE,hS⟩,by grind⟩;intro x hx hs k hk;simp at hs;rcases hs with hs|hs
      .exact h.done x hx (by grind) k hk
      .have a9:x=e:=KH h.ok.born hx he hs
       grind
end Go.Sh

/- What pieces of a program do to memory: blocks, rows, maps, interval lists, resources that lie apart. No further condition. -/
import Derived.Test.YtnhmgaodhjgdaaaGreatDoorSh
import Derived.Below
set_option linter.all false
set_option maxRecDepth 50000
namespace Go.Sh
open Go.RowKit (Below)
structure Ext(S:Nat->Prop)(w w':World):Prop where
 os:w'.os=w.os
 tape:w'.tape=w.tape
 output:w'.output=w.output
 size:w.heap.size<=w'.heap.size
 block: ∀k,k<w.heap.size-> ¬S k->w'.heap[k]? =w.heap[k]?
def AN:Nat->Prop:=λ_=>False
def KD(b:Nat):Nat->Prop:=λk=>k=b
def Ext.refl(S:Nat->Prop)(w:World):Ext S w w:=⟨rfl,rfl,rfl,Nat.le_refl _,λ_ _ _=>rfl⟩
def Ext.drew(S:Nat->Prop)(w:World):Ext S w w.drew:=⟨rfl,rfl,rfl,Nat.le_refl _,λ_ _ _=>rfl⟩
def Ext.trans{S T U:Nat->Prop}{a b c:World}(h:Ext S a b)(k:Ext T b c)(hS: ∀i,i<a.heap.size->S i->U i)(d: ∀i,i<a.heap.size->T i->U i):Ext U a c:=
 ⟨k.os.trans h.os,k.tape.trans h.tape,k.output.trans h.output,Nat.le_trans h.size k.size,λi hi hu=>
  (k.block i (Nat.lt_of_lt_of_le hi h.size) λt=>hu (d i hi t)).trans (h.block i hi λs=>hu (hS i hi s))⟩
def Ext.trans'{S:Nat->Prop}{a b c:World}(h:Ext S a b)(k:Ext S b c):Ext S a c:=h.trans k (λ_ _ s=>s) (λ_ _ s=>s)
def Ext.mono{S T:Nat->Prop}{a b:World}(h:Ext S a b)(d: ∀i,i<a.heap.size->S i->T i):Ext T a b:=
 ⟨h.os,h.tape,h.output,h.size,λi hi e=>h.block i hi λs=>e (d i hi s)⟩
def Ext.any{S:Nat->Prop}{a b:World}(h:Ext AN a b):Ext S a b:=h.mono λ_ _ f=>f.elim
def Ext.alloc(S:Nat->Prop)(w:World)(o:Obj):Ext S w (w.alloc o):=
 ⟨rfl,rfl,rfl,by simp,λk a _=>RowKit.Below.heap_alloc w o k a⟩
def Ext.setCell(w:World)(p:Addr)(v:Value):Ext (KD p.block) w (w.setCell p v):=
 ⟨rfl,rfl,rfl,by simp[World.setCell],λk d a=>RowKit.Below.heap_setCell w p v k a⟩
def Ext.GX(w:World)(b:Nat)(o:Obj):Ext (KD b) w (World.GX w b o):=
 ⟨rfl,rfl,rfl,by simp[World.GX],λk d a=>by
  have:k≠b:=a;simp[World.GX,Array.getElem?_setIfInBounds_ne (Ne.symm this)]⟩
def Ext.cell{S:Nat->Prop}{w w':World}(h:Ext S w w'){p:Addr}{v:Value}(a:w.cell? p=some v)(e: ¬S p.block):w'.cell? p=some v:=by
 have d:=World.block_lt_of_cell? w p a;rw[<-a];exact World.cell?_of_block (h.block p.block d e)
def Ext.frozen{S:Nat->Prop}{w w':World}(h:Ext S w w'){p:Addr}(a:p.block<w.heap.size)(d: ¬S p.block):w'.frozen? p=w.frozen? p:=
 World.frozen?_of_block (h.block p.block a d)
def Ext.obj{S:Nat->Prop}{w w':World}(h:Ext S w w'){b:Nat}{o:Obj}(a:w.heap[b]? =some o)(e: ¬S b):w'.heap[b]? =some o:=by
 have d:b<w.heap.size:=(Array.getElem?_eq_some_iff.1 a).1;rw[h.block b d e,a]
def Ext.below{S:Nat->Prop}{w w':World}(h:Ext S w w'){B:Nat}(a:B<=w.heap.size)(hS: ∀i,S i->B<=i):Below B w w':=
 ⟨h.os,h.tape,h.output,h.size,λk d=>h.block k (by omega) λs=>by grind⟩
def Fp{w:World}{b:Nat}{o:Obj}(h:w.heap[b]? =some o):b<w.heap.size:=(Array.getElem?_eq_some_iff.1 h).1
def AS{w:World}{b:Nat}{cs:Array Value}{t:TypeId}{f:Nat×Nat}(h:w.heap[b]? =some (.cells cs t f))(j:Nat):w.cell? ⟨b,j,none⟩=cs[j]? :=by
 simp[World.cell?,h]
def add_eq(b o n:Nat):(Addr.mk b o none).add n=⟨b,o+n,none⟩:=by
 unfold Addr.add;grind
def add_add(p:Addr)(a b:Nat):(p.add a).add b=p.add (a+b):=by
 unfold Addr.add
 grind
def add_zero(p:Addr):p.add 0=p:=by simp[Addr.add]
def Vs(p:Addr)(n:Nat):(p.add n).block=p.block:=by unfold Addr.add;grind
def A8{o:Obj}{w:World}{K:Nat->World->Prop}
  (h: ∀w',w'.heap[w.heap.size]? =some o->w'.heap.size=w.heap.size+1->Ext AN w w'->K w.heap.size w'):AL o w K:=
 h (w.alloc o) (heap_alloc_new w o) (by simp) (Ext.alloc _ w o)
structure Nm(p:Addr)(v:Value)(w w':World):Prop where
 ext:Ext (KD p.block) w w'
 same:w'.cell? p=some v
 other: ∀q:Addr,q≠p->w'.cell? q=w.cell? q
 frozen: ∀q:Addr,w'.frozen? q=w.frozen? q
 size:w'.heap.size=w.heap.size
def Nn{w:World}{p:Addr}{u v:Value}(h:w.cell? p=some u):Nm p v w (w.setCell p v):=
 ⟨Ext.setCell w p v,World.cell?_setCell_same w p v h,λq a=>World.cell?_setCell_other w p q v (Ne.symm a),λq=>World.frozen?_setCell w p q v,by simp⟩
def LI{p:Addr}{v u:Value}{w:World}{K:World->Prop}(h:w.cell? p=some u)(d:w.frozen? p=false)(ho:v.oneCell'=true)
  (a: ∀w',Nm p v w w'->K w'):stCells p 0 [v] w K:=by
 simp only[stCells,add_zero];exact⟨⟨⟨u,h⟩,d,ho⟩,a _ (Nn h)⟩
def Lu{w:World}{b j:Nat}{cs:Array Value}{t:TypeId}{f:Nat×Nat}{v:Value}(h:w.heap[b]? =some (.cells cs t f)):
  (w.setCell ⟨b,j,none⟩ v).heap[b]? =some (.cells (cs.setIfInBounds j v) t f):=by
 simp[World.setCell,Array.getElem?_modify,h]
def IF{t:TypeId}: ∀(vs:List Value) (b o i:Nat) (cs:Array Value) (w:World) (K:World->Prop),w.heap[b]? =some (.cells cs t)->o+i+vs.length<=cs.size->(∀v∈vs,v.oneCell'=true)->
  (∀w',Ext (KD b) w w'->w'.heap.size=w.heap.size->w'.heap[b]? =some (.cells (cs.toList.take (o+i)++vs++cs.toList.drop (o+i+vs.length)).toArray t)->K w')->
  stCells ⟨b,o,none⟩ i vs w K
 | [],b,o,i,cs,w,K,h,hl,ho,hK=>by
  refine hK w (Ext.refl _ _) rfl ?_;rw[h];simp
 | v::r,b,o,i,cs,w,K,h,hl,ho,hK=>by
  have m:o+i<cs.size:=by grind
  simp only[stCells,add_eq];refine⟨⟨⟨cs[o+i],by rw[AS h];grind⟩,by simp[World.frozen?,h],ho v (by simp)⟩,?_⟩;have d:=Lu (j:=o+i) (v:=v) h;refine IF r b o (i+1) _ _ K d (by grind) (λu hu=>ho u (by simp[hu])) λw' he J e=> ?_;refine hK w' ((Ext.setCell w ⟨b,o+i,none⟩ v).trans' he) (by rw[J];simp) ?_;rw[e];congr 3;have a:o+i<cs.toList.length:=by omega
  simp only[Array.toList_setIfInBounds];rw[show o+(i+1)=o+i+1 from by omega];rw[List.take_set,List.take_succ_eq_append_getElem a,List.set_append_right _ _ (by simp;omega)];simp only[List.length_take,Nat.min_eq_left (Nat.le_of_lt a),Nat.sub_self,List.set_cons_zero,List.append_assoc,List.singleton_append,List.length_cons];congr 2;rw[List.drop_set_of_lt (by omega)]
  grind
def Vt{S:Nat->Prop}{w w':World}{b:Option Addr}{n:Nat}{l:List Value}(h:rowAt w b n l)(he:Ext S w w')(m: ∀a,b=some a->l≠ []-> ¬S a.block):rowAt w' b n l:=by
 cases b with
 | none=>exact h
 | some a=>
  refine⟨h.1,λj v d=>he.cell (h.2 j v d) ?_⟩;rw[Vs];exact m a rfl (by intro e;grind)
structure I8(w:World)(B t z:Nat)(s:AW)(vs:List Value):Prop where
 len:vs.length=s.len*z
 cap:s.len<=s.cap
 top:s.cap<9223372036854775808
 row:(s.base=none/\s.cap=0)∨ ∃b cs,s.base=some ⟨b,0,none⟩/\B<=b/\w.heap[b]? =some (.cells cs t)/\cs.size=s.cap*z/\cs.toList.take (s.len*z)=vs
def I8.nil(w:World)(B t z:Nat):I8 w B t z ⟨none,0,0⟩ []:=⟨by simp,Nat.le_refl _,by decide,.inl ⟨rfl,rfl⟩⟩
def I8.rowAt{w:World}{B t z:Nat}{s:AW}{vs:List Value}(h:I8 w B t z s vs):rowAt w s.base (s.len*z) vs:=by
 rcases h.row with ⟨h1,a⟩|⟨b,cs,h1,a,d,m,u⟩
 .have:s.len=0:=by have:=h.cap;omega
  have e:=h.len;rw[this]at e;rw[h1];exact List.eq_nil_of_length_eq_zero (by omega)
 .rw[h1];refine⟨h.len,λj v J=> ?_⟩;rw[add_eq,Nat.zero_add,AS d]
  grind
def I8.ext{w w':World}{B t z:Nat}{s:AW}{vs:List Value}{S:Nat->Prop}(h:I8 w B t z s vs)(he:Ext S w w')(m: ∀b,s.base=some ⟨b,0,none⟩-> ¬S b):I8 w' B t z s vs:=by
 refine⟨h.len,h.cap,h.top,?_⟩;rcases h.row with h1|⟨b,cs,h1,a,d,e⟩
 .grind
 .exact .inr ⟨b,cs,h1,a,he.obj d (m b h1),e⟩
def I8.lower{w:World}{B a t z:Nat}{s:AW}{vs:List Value}(h:I8 w B t z s vs)(u:a<=B):I8 w a t z s vs:=by
 refine⟨h.len,h.cap,h.top,?_⟩;rcases h.row with h1|⟨b,cs,h1,d,e,m⟩
 .grind
 grind
def I8.lt{w:World}{B t z:Nat}{s:AW}{vs:List Value}(h:I8 w B t z s vs){a:Addr}(u:s.base=some a):B<=a.block/\a.block<w.heap.size/\a.off=0/\a.spot=none:=by
 rcases h.row with ⟨h1,_⟩|⟨b,cs,h1,d,e,m⟩
 .grind
 grind
def QU{e z bytes:Nat}{zs:Array Value}{s x:AW}{w:World}{K:AW->World->Prop}{B:Nat}{vs news:List Value}
  (hz:zs.size=z)(d:I8 w B e z s vs)(T:rowAt w x.base (x.len*z) news)(m:news.length=x.len*z)(ho: ∀v∈news,v.oneCell'=true)(hB:B<=w.heap.size)
  (hb:(s.len+x.len)*bytes<=140737488355328)(aA:s.len+x.len<=9223372036854775807)
  (hK: ∀s' w',I8 w' B e z s' (vs++news)->s'.len=s.len+x.len->Ext (λk=> ∃a,s.base=some a/\k=a.block) w w'->
   (s'.base=s.base∨ ∃b,s'.base=some ⟨b,0,none⟩/\w.heap.size<=b)->K s' w'):APP e z bytes zs s x w K:=by
 refine⟨news,T,λu=> ?_,λaD=>⟨hb,aA,vs,d.rowAt,λcap O J=> ?_⟩⟩
 .rcases d.row with ⟨h1,Y⟩|⟨b,cs,h1,Y,h3,h4,h5⟩
  .have hx:x.len=0:=by omega
   have hs:s.len=0:=by omega
   rw[h1];have hn:news=[]:=List.eq_nil_of_length_eq_zero (by grind);have hv:vs=[]:=List.eq_nil_of_length_eq_zero (by rw[d.len,hs];simp);subst hn;subst hv;refine hK _ w ⟨by grind,by omega,d.top,.inl ⟨rfl,Y⟩⟩ rfl (Ext.refl _ _) (.inl h1.symm)
  .rw[h1];simp only[add_eq,Nat.zero_add];have hle:s.len*z+news.length<=cs.size:=by
    rw[m,h4,<-Nat.add_mul];exact Nat.mul_le_mul_right _ u
   refine IF news b (s.len*z) 0 cs w _ h3 (by omega) ho λw' he aL aC=> ?_;refine hK _ w' ⟨by grind,u,d.top,.inr ⟨b,_,rfl,Y,aC,?_,?_⟩⟩ rfl (he.mono λi _ hi=>⟨_,h1,hi⟩) (.inl h1.symm)
   .grind
   .simp only[Nat.add_zero];rw[h5,List.append_assoc,<-List.append_assoc,Nat.add_mul,<-m,<-d.len,<-List.length_append]
    grind
 .refine hK _ _ ⟨by simp[d.len,m,Nat.add_mul],O,J,.inr ⟨w.heap.size,_,rfl,hB,heap_alloc_new w.drew _,?_,?_⟩⟩ rfl ((Ext.drew _ w).trans' (Ext.alloc _ w.drew _)) (.inr ⟨_,rfl,Nat.le_refl _⟩)
  .simp only[Array.size_append,List.size_toArray,Builtin.zeroCells,Array.size_map,Array.size_range,d.len,m,hz];rw[<-Nat.add_mul,<-Nat.add_mul]
   grind
  .simp only[Array.toList_append,Nat.add_mul];rw[<-m,<-d.len,<-List.length_append]
   grind
def Wm{w w':World}{B t z n:Nat}{cells:List Value}(h:w'.heap[w.heap.size]? =some (.cells ⟨cells⟩ t))(a:cells.length=n*z)(d:B<=w.heap.size)(e:n<9223372036854775808):
  I8 w' B t z ⟨some ⟨w.heap.size,0,none⟩,n,n⟩ cells:=
 ⟨a,Nat.le_refl _,e,.inr ⟨_,_,rfl,d,h,by omega,by rw[<-a];simp⟩⟩
def Tv(a:Option Addr)(c z:Nat):KH a c 0 z=a:=by
 unfold KH;split
 .rfl
 .cases a<;>simp[add_zero]
def Pj{w:World}{b:Option Addr}{n m:Nat}{l:List Value}(h:rowAt w b n l)(hm:m<=n)(d:l.length=n):rowAt w b m (l.take m):=by
 cases b with
 | none=>have:l=[]:=h;grind
 | some a=>
  refine⟨by rw[List.length_take,d];omega,λj v e=>h.2 j v ?_⟩
  grind
def LJ{w:World}{b:Option Addr}{n len cap k z:Nat}{l:List Value}(h:rowAt w b n l)(J:n=len*z)(K:k<=len)(u:len<=cap)(m:l.length=n):
  rowAt w (KH b cap k z) ((len-k)*z) (l.drop (k*z)):=by
 have hlen:(l.drop (k*z)).length=(len-k)*z:=by rw[List.length_drop,m,J,Nat.sub_mul]
 unfold KH;split
 .rename_i hck;have:len-k=0:=by omega
  rw[this]at hlen⊢;have d:l.drop (k*z)=[]:=List.eq_nil_of_length_eq_zero (by omega);rw[d];cases b with
  | none=>rfl
  | some a=>exact⟨by simp,by simp⟩
 .cases b with
  | none=>have:l=[]:=h;grind
  | some a=>
   refine⟨hlen,λj v e=> ?_⟩;rw[add_add];rw[List.getElem?_drop]at e;exact h.2 _ v e
def AM{σ:Type}{s0:σ}{w0:World}{body:σ->(Nat->Value)->World->(σ->World->Prop)->Prop}(I:σ->World->Prop)(μ:σ->World->Nat)(h0:I s0 w0)
  (h: ∀s j w,I s w->body s j w λs' w'=>I s' w'/\μ s' w'<μ s w):BI σ s0 w0 body:=⟨I,μ,h0,h⟩
def AV{σ:Type}{first:(σ->World->Prop)->Prop}{rest:σ->(Nat->Value)->World->Prop}(J:σ->World->Prop)(h1:first J)(a: ∀s j w,J s w->rest s j w):Ao σ first rest:=⟨J,h1,a⟩
def AY{b:Bool}{T E:Prop}(h1:b=true->T)(a:b=false->E):CND b T E:=eZ.2 ⟨h1,a⟩
def AG{p:Prop}[Decidable p]{T E:Prop}(h1:p->T)(a: ¬p->E):CND (decide p) T E:=
 eZ.2 ⟨λh=>h1 (of_decide_eq_true h),λh=>a (of_decide_eq_false h)⟩
def Ac{α:Type}{e:α}{K:α->Prop}(h: ∀x,x=e->K x):Is e K:=h e rfl
def QV(n:Int):u64 n=n %18446744073709551616:=by simp[u64,IntKind.wrap,IntKind.bits,IntKind.signed]
def AR{n:Int}(h0:0<=n:=by omega)(h1:n<18446744073709551616:=by omega):u64 n=n:=by rw[QV];omega
def AI{n:Int}(h0: -9223372036854775808<=n:=by omega)(h1:n<9223372036854775808:=by omega):i64 n=n:=IntWalk.i64_in n (by omega)
def Wn(a b:Int):VQ a b=min a b:=by unfold VQ;omega
def TJ(a b:Int):MO a b=max a b:=by unfold MO;omega
end Go.Sh
namespace Go.Sh
abbrev Iv:=List (Int×Int)
def Ok:Iv->Prop
 | []=>True
 | p::r=>0<=p.1/\p.1<p.2/\p.2<18446744073709551616/\(∀q∈r,p.2<q.1)/\Ok r
def mem(l:Iv)(n:Int):Prop:= ∃p∈l,p.1<=n/\n<p.2
def posn:Iv->Int->Nat
 | [],_=>0
 | p::r,x=>if p.2<=x then posn r x+1 else 0
def JZ:Iv->Int
 | []=>0
 | p::r=>(p.2-p.1)+JZ r
def No(p:Int×Int)(a b:Int):Int:=max 0 (min p.2 b-max p.1 a)
def cnt:Iv->Int->Int->Int
 | [],_,_=>0
 | p::r,a,b=>No p a b+cnt r a b
def QW(p:Int×Int)(a b:Int):Iv:=(if p.1<a then [(p.1,min p.2 a)]else [])++(if b<p.2 then [(max p.1 b,p.2)]else [])
def Dy:Iv->Int->Int->Iv
 | [],_,_=>[]
 | p::r,a,b=>QW p a b++Dy r a b
def addHi(l:Iv)(i:Nat)(b:Int):Int×Nat:=match l[i]? with
 | some q=>if q.1=b then(q.2,i+1)else(b,i)
 | none=>(b,i)
def addLo(l:Iv)(i:Nat)(a:Int):Int×Nat:=match i with
 | 0=>(a,0)
 | i+1=>match l[i]? with
  | some q=>if q.2=a then(q.1,i)else(a,i+1)
  | none=>(a,i+1)
def Sz(l:Iv)(a b:Int):Iv:=
 l.take (addLo l (posn l a) a).2++[((addLo l (posn l a) a).1,(addHi l (posn l a) b).1)]++l.drop (addHi l (posn l a) b).2
def ES(l:Iv)(a b:Int):Iv:=Sz (Dy l a b) a b
def Kv: ∀(l:Iv) (x:Int),posn l x<=l.length
 | [],_=>Nat.le_refl _
 | p::r,x=>by
  unfold posn;split
  .have:=Kv r x;simp;omega
  .simp
def KQ: ∀(l:Iv) (x:Int) (i:Nat) (p:Int×Int),i<posn l x->l[i]? =some p->p.2<=x
 | [],x,i,p,h,_=>by simp[posn]at h
 | q::r,x,i,p,h,hp=>by
  unfold posn at h;split at h
  .rename_i hq;cases i with
   | zero=>simp at hp;subst hp;exact hq
   | succ i=>exact KQ r x i p (by omega) (by grind)
  .omega
def TK: ∀(l:Iv) (x:Int) (p:Int×Int),l[posn l x]? =some p->x<p.2
 | [],x,p,h=>by simp at h
 | q::r,x,p,h=>by
  unfold posn at h;split at h
  .exact TK r x p (by grind)
  .simp at h;subst h;omega
def Ok.tail{p:Int×Int}{r:Iv}(h:Ok (p::r)):Ok r:=h.2.2.2.2
def Ok.get: ∀{l:Iv},Ok l-> ∀{i:Nat} {p:Int×Int},l[i]? =some p->0<=p.1/\p.1<p.2/\p.2<18446744073709551616
 | [],_,i,p,h=>by simp at h
 | q::r,h,0,p,hp=>by simp at hp;subst hp;exact⟨h.1,h.2.1,h.2.2.1⟩
 | q::r,h,i+1,p,hp=>Ok.get h.tail (by simpa using hp)
def Ok.mem: ∀{l:Iv},Ok l-> ∀{p:Int×Int},p∈l->0<=p.1/\p.1<p.2/\p.2<18446744073709551616
 | [],_,p,h=>by cases h
 | q::r,h,p,hp=>by
  rcases List.mem_cons.1 hp with rfl|hp
  .exact⟨h.1,h.2.1,h.2.2.1⟩
  .exact Ok.mem h.tail hp
def Ok.lt: ∀{l:Iv},Ok l-> ∀{i j:Nat} {p q:Int×Int},i<j->l[i]? =some p->l[j]? =some q->p.2<q.1
 | [],_,i,j,p,q,_,h,_=>by simp at h
 | r::l,h,0,j+1,p,q,_,hp,hq=>by
  simp at hp;subst hp;exact h.2.2.2.1 q (List.mem_of_getElem? (by simpa using hq))
 | r::l,h,i+1,j+1,p,q,hij,hp,hq=>Ok.lt (l:=l) (i:=i) (j:=j) h.tail (by omega) (by grind) (by grind)
 | _::_,_,_,0,_,_,hij,_,_=>by omega
def LK{l:Iv}(h:Ok l)(x:Int){i:Nat}{p:Int×Int}(hi:posn l x<=i)(hp:l[i]? =some p):x<p.2:=by
 rcases Nat.lt_or_ge (posn l x) i with a|e
 .have d:posn l x<l.length:=by grind
  have h1:=TK l x _ (List.getElem?_eq_getElem d);have m:=h.lt a (List.getElem?_eq_getElem d) hp;have u:=h.get hp;omega
 .have:i=posn l x:=by omega
  subst this;exact TK l x p hp
def DL(n:Int): ¬mem [] n:=by rintro⟨p,hp,_⟩;cases hp
def mem_cons{p:Int×Int}{r:Iv}{n:Int}:mem (p::r) n↔(p.1<=n/\n<p.2)∨mem r n:=by
 constructor
 .rintro⟨q,a,h⟩;rcases List.mem_cons.1 a with rfl|a
  .omega
  .exact .inr ⟨q,a,h⟩
 .rintro(h|⟨q,a,h⟩)
  .exact⟨p,by simp,h⟩
  .exact⟨q,by simp[a],h⟩
def mem_append{l m:Iv}{n:Int}:mem (l++m) n↔mem l n∨mem m n:=by
 induction l with
 | nil=>simp[DL]
 | cons p r ih=>simp[mem_cons,ih,or_assoc]
def mK{p:Int×Int}{a b n:Int}(d:a<b):mem (QW p a b) n↔(p.1<=n/\n<p.2)/\ ¬(a<=n/\n<b):=by
 unfold QW;rw[mem_append];have h1:mem (if p.1<a then [(p.1,min p.2 a)]else []) n↔p.1<a/\p.1<=n/\n<min p.2 a:=by
  split<;>rename_i h<;>simp[mem_cons,DL,h]
 have e:mem (if b<p.2 then [(max p.1 b,p.2)]else []) n↔b<p.2/\max p.1 b<=n/\n<p.2:=by
  split<;>rename_i h<;>simp[mem_cons,DL,h]
 grind
def Ha{l:Iv}{a b n:Int}(d:a<b):mem (Dy l a b) n↔mem l n/\ ¬(a<=n/\n<b):=by
 induction l with
 | nil=>simp[Dy,DL]
 | cons p r ih=>
  simp only[Dy,mem_append,mem_cons,mK d,ih]
  grind
def Fh: ∀{l m:Iv},Ok (l++m)↔Ok l/\Ok m/\ ∀p∈l,∀q∈m,p.2<q.1
 | [],m=>by simp[Ok]
 | p::r,m=>by
  simp only[List.cons_append,Ok,Fh (l:=r) (m:=m),List.mem_append,List.mem_cons]
  grind
def SL{p q:Int×Int}{a b:Int}(e:q∈QW p a b)(hp:p.1<p.2)(d:a<b):p.1<=q.1/\q.2<=p.2/\q.1<q.2:=by
 unfold QW at e
 grind
def Np{l:Iv}{a b:Int}{q:Int×Int}(h:Ok l)(e:a<b)(d:q∈Dy l a b): ∃p∈l,p.1<=q.1/\q.2<=p.2/\q.1<q.2:=by
 induction l with
 | nil=>cases d
 | cons p r ih=>
  rcases List.mem_append.1 d with d|d
  .exact⟨p,by simp,SL d h.2.1 e⟩
  .obtain⟨v,m,u⟩:=ih h.tail d
   grind
def tB{p:Int×Int}{a b:Int}(h0:0<=p.1)(h1:p.1<p.2)(e:p.2<18446744073709551616)(d:a<b):Ok (QW p a b):=by
 unfold QW;split<;>split<;>simp[Ok]<;>omega
def Mo{l:Iv}{a b:Int}(h:Ok l)(d:a<b):Ok (Dy l a b):=by
 induction l with
 | nil=>trivial
 | cons p r ih=>
  simp only[Dy,Fh];refine⟨tB h.1 h.2.1 h.2.2.1 d,ih h.tail,λq u O m=> ?_⟩;have h1:=SL u h.2.1 d;obtain⟨v,e,J⟩:=Np h.tail d m;have K:=h.2.2.2.1 v e;omega
def Mp(l m:Iv):JZ (l++m)=JZ l+JZ m:=by
 induction l with
 | nil=>simp[JZ]
 | cons p r ih=>simp[JZ,ih];omega
def mL{p:Int×Int}{a b:Int}(hp:p.1<p.2)(d:a<b):JZ (QW p a b)=p.2-p.1-No p a b:=by
 unfold QW No;rw[Mp];split<;>split<;>simp[JZ]<;>omega
def Tw{l:Iv}{a b:Int}(h:Ok l)(d:a<b):JZ (Dy l a b)=JZ l-cnt l a b:=by
 induction l with
 | nil=>simp[Dy,JZ,cnt]
 | cons p r ih=>
  simp only[Dy,Mp,JZ,cnt,ih h.tail,mL h.2.1 d];omega
def Tx{l:Iv}(h:Ok l):0<=JZ l:=by
 induction l with
 | nil=>simp[JZ]
 | cons p r ih=>have:=ih h.tail;have:=h.2.1;simp only[JZ];omega
def mM: ∀{l:Iv} (h:Ok l) (B:Int),0<=B->B<18446744073709551616->(∀p∈l,B<=p.1)->B+JZ l<18446744073709551616
 | [],_,B,h0,h1,_=>by simp only[JZ];omega
 | p::r,h,B,h0,h1,hB=>by
  have d:=hB p (by simp);have:=mM h.tail p.2 (by have:=h.1;have:=h.2.1;omega) h.2.2.1 (λq a=>by have:=h.2.2.2.1 q a;omega);simp only[JZ];omega
def fB{l:Iv}(h:Ok l):JZ l<18446744073709551616:=by
 have:=mM h 0 (by omega) (by omega) (λp hp=>(h.mem hp).1);omega
def EX(l:Iv)(a b:Int):0<=cnt l a b:=by
 induction l with
 | nil=>simp[cnt]
 | cons p r ih=>simp only[cnt,No];omega
def Tz(l m:Iv)(a b:Int):cnt (l++m) a b=cnt l a b+cnt m a b:=by
 induction l with
 | nil=>simp[cnt]
 | cons p r ih=>simp[cnt,ih];omega
def SM: ∀{l:Iv} (h:Ok l) {a b:Int},a<=b-> ∀c:Int,a<=c->c<=b->(∀p∈l,c<=p.1)->cnt l a b<=b-c
 | [],_,a,b,hab,c,_,hc,_=>by simp[cnt];omega
 | p::r,h,a,b,hab,c,hac,hcb,hB=>by
  have h1:=hB p (by simp);simp only[cnt,No];rcases Int.lt_or_le b p.2 with m|m
  .have:cnt r a b=0:=by
    have: ∀l:Iv,(∀q∈l,b<=q.1)->cnt l a b=0:=by
     intro l
     induction l with
     | nil=>intro _;rfl
     | cons q s ih=>
      intro d;have:=d q (by simp);have:=ih λu e=>d u (by simp[e]);simp only[cnt,No];omega
    exact this r λq d=>by have:=h.2.2.2.1 q d;omega
   omega
  .have:=SM h.tail hab p.2 (by have:=h.2.1;omega) m (λq d=>by have:=h.2.2.2.1 q d;omega);have:=h.2.1;omega
def Gm: ∀{l:Iv} (h:Ok l) {a b:Int},a<=b->cnt l a b<=b-a
 | [],_,a,b,hab=>by simp[cnt];omega
 | p::r,h,a,b,hab=>by
  have hp:=h.2.1;simp only[cnt,No];have hz:(∀q∈r,b<=q.1)->cnt r a b=0:=by
   intro v;have: ∀l:Iv,(∀q∈l,b<=q.1)->cnt l a b=0:=by
    intro l
    induction l with
    | nil=>intro _;rfl
    | cons q s ih=>
     intro d;have:=d q (by simp);have:=ih λu e=>d u (by simp[e]);simp only[cnt,No];omega
   grind
  rcases Int.lt_or_le p.2 a with h1|h1
  .have:=Gm h.tail hab;omega
  .rcases Int.lt_or_le b p.2 with m|m
   .have:=hz λq d=>by have:=h.2.2.2.1 q d;omega
    omega
   .have:=SM h.tail hab p.2 h1 m (λq d=>by have:=h.2.2.2.1 q d;omega);omega
def S4{l:Iv}{a b:Int}(h: ∀p∈l,p.2<=a):cnt l a b=0:=by
 induction l with
 | nil=>rfl
 | cons q s ih=>
  have:=h q (by simp);have:=ih λe d=>h e (by simp[d]);simp only[cnt,No];omega
def T2{l:Iv}{a b:Int}(h: ∀p∈l,b<=p.1):cnt l a b=0:=by
 induction l with
 | nil=>rfl
 | cons q s ih=>
  have:=h q (by simp);have:=ih λe d=>h e (by simp[d]);simp only[cnt,No];omega
def Nq(l m:Iv)(a b:Int):Dy (l++m) a b=Dy l a b++Dy m a b:=by
 induction l with
 | nil=>rfl
 | cons p r ih=>simp[Dy,ih]
def YS{l:Iv}{a b:Int}(d:a<b)(h: ∀p∈l,p.1<p.2/\p.2<=a):Dy l a b=l:=by
 induction l with
 | nil=>rfl
 | cons p r ih=>
  have hp:=h p (by simp);simp only[Dy,ih λq e=>h q (by simp[e])];unfold QW
  grind
def aP{l:Iv}{a b:Int}(d:a<b)(h: ∀p∈l,p.1<p.2/\b<=p.1):Dy l a b=l:=by
 induction l with
 | nil=>rfl
 | cons p r ih=>
  have hp:=h p (by simp);simp only[Dy,ih λq e=>h q (by simp[e])];unfold QW
  grind
def QX{l:Iv}{a:Int}: ∀p∈l.take (posn l a),p.2<=a:=by
 intro p hp;obtain⟨i,hi,rfl⟩:=List.mem_iff_getElem.1 hp;simp only[List.length_take]at hi;rw[List.getElem_take];exact KQ l a i _ (by omega) (List.getElem?_eq_getElem (by omega))
def aQ{l:Iv}(h:Ok l){a b:Int}(e:a<b){k:Nat}(O:posn l a<=k)(m: ∀p,l[k]? =some p->b<=p.1):
  Dy l a b=l.take (posn l a)++Dy ((l.take k).drop (posn l a)) a b++l.drop k:=by
 have h1:l=l.take (posn l a)++(l.take k).drop (posn l a)++l.drop k:=by
  have u:l.take k=(l.take k).take (posn l a)++(l.take k).drop (posn l a):=(List.take_append_drop _ _).symm;rw[List.take_take,Nat.min_eq_left O]at u;rw[<-u,List.take_append_drop]
 have v:Dy (l.take (posn l a)) a b=l.take (posn l a):=YS e λp hp=>⟨(h.mem (List.mem_of_mem_take hp)).2.1,QX p hp⟩;have J:Dy (l.drop k) a b=l.drop k:=by
  refine aP e λp hp=>⟨(h.mem (List.mem_of_mem_drop hp)).2.1,?_⟩;obtain⟨i,hi,rfl⟩:=List.mem_iff_getElem.1 hp;rw[List.getElem_drop];simp only[List.length_drop]at hi;have d:k<l.length:=by omega
  have T:=m _ (List.getElem?_eq_getElem d);rcases Nat.eq_zero_or_pos i with rfl|K
  .omega
  .have Y:=h.lt (i:=k) (j:=k+i) (by omega) (List.getElem?_eq_getElem d) (List.getElem?_eq_getElem (by omega));have h6:=h.get (List.getElem?_eq_getElem d);omega
 conv=>lhs;rw[h1]
 rw[Nq,Nq,v,J]
def Clear(l:Iv)(a b:Int):Prop:= ∀p∈l,p.2<=a∨b<=p.1
def T3{l:Iv}{a b:Int}(h:Ok l)(d:a<b):Clear (Dy l a b) a b:=by
 intro q e;have hm:mem (Dy l a b) q.1:=⟨q,e,by omega,((Mo h d).mem e).2.1⟩;have h1:=(Ha d).1 hm;have J:=(Mo h d).mem e;rcases Int.lt_or_le q.1 a with v|u
 .left;rcases Int.lt_or_le a q.2 with m|m
  .have:mem (Dy l a b) a:=⟨q,e,by omega,m⟩;have:=((Ha d).1 this).2;omega
  .exact m
 omega
def jF(l:Iv)(i:Nat)(n:Int):mem l n↔mem (l.take i) n∨mem (l.drop i) n:=by
 rw[<-mem_append,List.take_append_drop]
def jG{l:Iv}(h:Ok l){a b:Int}(d:Clear l a b): ∀p∈l.drop (posn l a),b<=p.1:=by
 intro p hp;obtain⟨i,hi,rfl⟩:=List.mem_iff_getElem.1 hp;rw[List.getElem_drop];simp only[List.length_drop]at hi;have h1:=LK h a (i:=posn l a+i) (by omega) (List.getElem?_eq_getElem (by omega));rcases d _ (List.getElem_mem (l:=l) (n:=posn l a+i) (by omega))with h2|h2<;>omega
def Vu{l:Iv}{a b:Int}(h:Ok l)(aR:a<b)(h0:0<=a)(hb:b<18446744073709551616)(hc:Clear l a b):
  Ok (Sz l a b)/\(∀n,mem (Sz l a b) n↔mem l n∨(a<=n/\n<b))/\JZ (Sz l a b)=JZ l+(b-a):=by
 have aU:=Kv l a;obtain⟨i,hi⟩: ∃i,i=posn l a:=⟨_,rfl⟩;have aE: ∀p∈l.take i,p.2<=a:=by rw[hi];exact QX
 have aD: ∀p∈l.drop i,b<=p.1:=by rw[hi];exact jG h hc
 have K:l=l.take i++l.drop i:=(List.take_append_drop i l).symm;have aC:=h;rw[K,Fh]at aC;obtain⟨u,v,aQ⟩:=aC;have key: ∀(L M R N:Iv) (x y:Int),l.take i=L++M->l.drop i=N++R->x<=a->b<=y->0<=x->y<18446744073709551616->
   (∀p∈L,p.2<x)->(∀p∈R,y<p.1)->(∀n,(x<=n/\n<y)↔mem M n∨(a<=n/\n<b)∨mem N n)->y-x=JZ M+(b-a)+JZ N->
   Sz l a b=L++[(x,y)]++R->Ok (Sz l a b)/\(∀n,mem (Sz l a b) n↔mem l n∨(a<=n/\n<b))/\JZ (Sz l a b)=JZ l+(b-a):=by
  intro L M R N x y h1 e hx hy aV aW hl hr aF aP he;rw[he];rw[h1]at u;rw[e]at v;rw[Fh]at u v;refine⟨?_,λn=> ?_,?_⟩
  .rw[Fh,Fh];refine⟨⟨u.1,?_,?_⟩,v.2.1,?_⟩
   .simp only[Ok];grind
   .grind
   grind
  .rw[mem_append,mem_append,jF l i n,h1,e,mem_append,mem_append];simp only[mem_cons,DL,or_false];rw[aF n];constructor
   .grind
   grind
  .have e1:=Mp (l.take i) (l.drop i);rw[List.take_append_drop]at e1;rw[e1,h1,e];simp only[Mp,JZ];omega
 have aI:(∃q R,l.drop i=q::R/\q.1=b/\addHi l i b=(q.2,i+1)/\l.drop (i+1)=R)∨((∀p∈l.drop i,b<p.1)/\addHi l i b=(b,i)):=by
  unfold addHi;rcases Nat.lt_or_ge i l.length with m|aT
  .have hg:=List.getElem?_eq_getElem m;rw[hg];have hd:l.drop i=l[i]::l.drop (i+1):=List.drop_eq_getElem_cons m;by_cases O:l[i].1=b
   .grind
   .refine .inr ⟨?_,by simp[O]⟩;intro p hp;rw[hd]at hp;have aG:b<=l[i].1:=aD _ (by grind);rcases List.mem_cons.1 hp with rfl|hp
    .omega
    .have e:=v;rw[hd]at e;have:=e.2.2.2.1 p hp;have:=e.2.1;omega
  grind
 have aJ:(∃q L,l.take i=L++[q]/\q.2=a/\addLo l i a=(q.1,i-1)/\l.take (i-1)=L)∨((∀p∈l.take i,p.2<a)/\addLo l i a=(a,i)):=by
  unfold addLo;cases i with
  | zero=>grind
  | succ j=>
   have m:j<l.length:=by omega
   have hg:=List.getElem?_eq_getElem m;simp only[hg];have ht:l.take (j+1)=l.take j++[l[j]]:=List.take_succ_eq_append_getElem m;by_cases O:l[j].2=a
   .grind
   .refine .inr ⟨?_,by simp[O]⟩;intro p hp;have aG:l[j].2<=a:=aE _ (by rw[ht];exact List.mem_append_right _ List.mem_cons_self);rw[ht]at hp;rcases List.mem_append.1 hp with hp|hp
    .have e:=u;rw[ht,Fh]at e;have:=e.2.2 p hp l[j] (by simp);have:=e.2.1.2.1;omega
    .simp at hp;grind
 have d:Sz l a b=l.take (addLo l i a).2++[((addLo l i a).1,(addHi l i b).1)]++l.drop (addHi l i b).2:=by rw[hi];rfl
 rcases aJ with ⟨q,L,h1,e,h3,h4⟩|⟨h1,h3⟩<;>rcases aI with ⟨Y,R,J,h6,h7,h8⟩|⟨J,h7⟩
 .rw[h3,h7]at d;simp only[h4,h8]at d;have O:q∈l.take i:=by rw[h1];simp
  have T:Y∈l.drop i:=by rw[J];simp
  have g1:=u.mem O;have g2:=v.mem T;refine key L [q] R [Y] q.1 Y.2 h1 J (by omega) (by omega) (by omega) (by omega) ?_ ?_ ?_ ?_ d
  .rw[h1,Fh]at u;intro p hp;exact u.2.2 p hp q (by simp)
  .rw[J]at v;exact v.2.2.2.1
  .intro n;simp only[mem_cons,DL,or_false];omega
  .simp only[JZ];omega
 .rw[h3,h7]at d;simp only[h4]at d;have O:q∈l.take i:=by rw[h1];simp
  have g1:=u.mem O;refine key L [q] (l.drop i) [] q.1 b h1 rfl (by omega) (by omega) (by omega) hb ?_ J ?_ ?_ d
  .rw[h1,Fh]at u;intro p hp;exact u.2.2 p hp q (by simp)
  .intro n;simp only[mem_cons,DL,or_false];omega
  .simp only[JZ];omega
 .rw[h3,h7]at d;simp only[h8]at d;have T:Y∈l.drop i:=by rw[J];simp
  have g2:=v.mem T;refine key (l.take i) [] R [Y] a Y.2 (by simp) J (by omega) (by omega) h0 (by omega) h1 ?_ ?_ ?_ d
  .rw[J]at v;exact v.2.2.2.1
  .intro n;simp only[mem_cons,DL,or_false,false_or];omega
  .simp only[JZ];omega
 .rw[h3,h7]at d;refine key (l.take i) [] (l.drop i) [] a b (by simp) rfl (by omega) (by omega) h0 hb h1 J ?_ ?_ d
  .intro n;simp only[DL,or_false,false_or]
  .simp only[JZ];omega
def jH{l:Iv}{a b:Int}(h:Ok l)(d:a<b)(h0:0<=a)(u:b<18446744073709551616):
  Ok (ES l a b)/\(∀n,mem (ES l a b) n↔mem l n∨(a<=n/\n<b))/\JZ (ES l a b)=JZ l-cnt l a b+(b-a):=by
 obtain⟨h1,e,m⟩:=Vu (Mo h d) d h0 u (T3 h d);refine⟨h1,λn=> ?_,by rw[ES,m,Tw h d]⟩;rw[ES,e,Ha d]
 grind
def YT{α:Type}{l:List α}{k:Nat}{x:α}(h:l[k]? =some x):l.drop k=x::l.drop (k+1):=by
 obtain⟨a,rfl⟩:=List.getElem?_eq_some_iff.1 h;exact List.drop_eq_getElem_cons a
def mN{p:Int×Int}{a m b:Int}(hp:p.1<p.2)(h1:a<=m)(d:m<=b):No p a b=No p a m+No p m b:=by
 unfold No;omega
def Oi: ∀{l:Iv},(∀p∈l,p.1<p.2)-> ∀{a m b:Int},a<=m->m<=b->cnt l a b=cnt l a m+cnt l m b
 | [],_,a,m,b,_,_=>rfl
 | p::r,h,a,m,b,h1,h2=>by
  simp only[cnt];rw[Oi (λq d=>h q (List.mem_cons_of_mem _ d)) h1 h2,mN (h p List.mem_cons_self) h1 h2];omega
def TL: ∀{l:Iv},(∀p∈l,p.1<p.2)-> ∀{a:Int},0<cnt l a (a+1)↔mem l a
 | [],_,a=>by simp[cnt,mem]
 | p::r,h,a=>by
  have e:=TL (l:=r) (λq d=>h q (List.mem_cons_of_mem _ d)) (a:=a);have h0:=EX r a (a+1);have hp:=h p List.mem_cons_self;rw[mem_cons,<-e];simp only[cnt];unfold No;omega
def Ja{l:Iv}(h:Ok l){a b:Int}(u:a<=b):cnt l a b=b-a↔ ∀n,a<=n->n<b->mem l n:=by
 have d: ∀p∈l,p.1<p.2:=λp hp=>(h.mem hp).2.1;obtain⟨k,O⟩: ∃k:Nat,b=a+k:=⟨(b-a).toNat,by omega⟩;subst O
 induction k with
 | zero=>
  have h1:=Gm h (a:=a) (b:=a+(0:Nat)) u;have K:=EX l a (a+(0:Nat))
  grind
 | succ k J=>
  have J:=J (by omega);have e:=Oi d (a:=a) (m:=a+(k:Nat)) (b:=a+((k+1:Nat):Int)) (by omega) (by omega);have h1:=Gm h (a:=a) (b:=a+(k:Nat)) (by omega);have K:=Gm h (a:=a+(k:Nat)) (b:=a+(k:Nat)+1) (by omega);have v:=TL d (a:=a+(k:Nat))
  grind
def Ok.mO{l:Iv}(h:Ok l): ∀p∈l,p.1<p.2:=λp hp=>(h.mem hp).2.1
def IG{l:Iv}(h:Ok l){a b:Int}(d:a<=b):cnt l a b=0↔ ∀n,a<=n->n<b-> ¬mem l n:=by
 obtain⟨k,K⟩: ∃k:Nat,b=a+k:=⟨(b-a).toNat,by omega⟩;subst K
 induction k with
 | zero=>
  have h1:=Gm h (a:=a) (b:=a+(0:Nat)) d;have J:=EX l a (a+(0:Nat))
  grind
 | succ k v=>
  have v:=v (by omega);have e:=Oi h.mO (a:=a) (m:=a+(k:Nat)) (b:=a+((k+1:Nat):Int)) (by omega) (by omega);have h1:=EX l a (a+(k:Nat));have J:=EX l (a+(k:Nat)) (a+(k:Nat)+1);have u:=TL h.mO (a:=a+(k:Nat))
  grind
def GI{l:Iv}(h:Ok l){a b:Int}(d:a<b)(h0:0<=a)(e:b<18446744073709551616)(n:Int):mem (ES l a b) n↔mem l n∨(a<=n/\n<b):=
 (jH h d h0 e).2.1 n
def fC{l:Iv}(h:Ok l){n:Int}(hm:mem l n):0<=n:=by
 obtain⟨p,hp,h1,a⟩:=hm;have:=(h.mem hp).1;omega
def fD{l:Iv}(h:Ok l): ∀{a b:Int},a<b->(∀n,a<=n->n<b->mem l n)-> ∃q∈l,q.1<=a/\b<=q.2:=by
 induction l with
 | nil=>intro a b d hm;exact absurd (hm a (Int.le_refl _) d) (DL _)
 | cons p r ih=>
  intro a b d hm;by_cases h1:p.1<=a/\a<p.2
  .by_cases h2:b<=p.2
   .grind
   .have e:=hm p.2 (by omega) (by omega);rcases mem_cons.1 e with m|⟨q,e,m,u⟩
    .omega
    .have:=h.2.2.2.1 q e;omega
  .have v: ∀n,a<=n->n<b->mem r n:=by
    intro n J K;rcases mem_cons.1 (hm n J K)with m|m
    .exfalso;have O:=hm a (Int.le_refl _) d;rcases mem_cons.1 O with u|⟨q,e,u,T⟩
     .exact h1 u
     .have:=h.2.2.2.1 q e;omega
    .exact m
   obtain⟨q,e,m⟩:=ih h.tail d v
   grind
def Nr{l:Iv}(h:Ok l){a k:Int}(d:a<=k):(mem l k->cnt l a (k+1)=cnt l a k+1)/\(¬mem l k->cnt l a (k+1)=cnt l a k):=by
 have h1:=Oi (Ok.mO h) d (show k<=k+1 by omega);have e:=TL (Ok.mO h) (a:=k);have m:=Gm h (show k<=k+1 by omega);have u:=EX l k (k+1)
 grind
def Oj: ∀{l:Iv},(∀p∈l,p.1<p.2)-> ∀{a b:Int},(∀n,mem l n->a<=n/\n<b)->cnt l a b=JZ l
 | [],_,a,b,_=>rfl
 | p::r,h,a,b,hin=>by
  have hp:=h p List.mem_cons_self;have h1:=hin p.1 (mem_cons.2 (.inl ⟨by omega,hp⟩));have u:=hin (p.2-1) (mem_cons.2 (.inl ⟨by omega,by omega⟩));have m:=Oj (l:=r) (λq e=>h q (List.mem_cons_of_mem _ e)) (a:=a) (b:=b) λn d=>hin n (mem_cons.2 (.inr d));simp only[cnt,JZ,No,m];omega
def aget:List (Int×Value)->Int->Option Value
 | [],_=>none
 | p::r,n=>if p.1=n then some p.2 else aget r n
structure MapI(k:IntKind)(es:Array MapEntry)(clock:Nat)(m:List (Int×Value)):Prop where
 keys:es.toList.map (λe=>(e.key,e.val))=m.map (λp=>(Value.int k p.1,p.2))
 nodup:(m.map (·.1)).Nodup
 born:(es.toList.map (·.born)).Nodup
 lt: ∀e∈es.toList,e.born<clock
def MapI.empty(k:IntKind):MapI k #[] 0 []:=⟨rfl,by simp,by simp,by simp⟩
def YU(k:IntKind)(a b:Int):Instr.sameNow (.int k) (.int k a) (.int k b)=some (a==b):=by simp[Instr.sameNow]
def QY(k:IntKind)(n:Int): ∀(es:List MapEntry) (m:List (Int×Value)) (i:Nat),es.map (λe=>(e.key,e.val))=m.map (λp=>(Value.int k p.1,p.2))->
  ∃res,Instr.findNow (.int k) (.int k n) es i=some res/\
   ((res=none/\aget m n=none)∨ ∃j v,res=some (i+j,v)/\aget m n=some v/\m[j]? =some (n,v)/\j<es.length)
 | [],[],i,_=>⟨none,rfl,.inl ⟨rfl,rfl⟩⟩
 | [],_::_,i,h=>by simp at h
 | _::_,[],i,h=>by simp at h
 | e::r,p::m,i,h=>by
  simp only[List.map_cons,List.cons.injEq,Prod.mk.injEq]at h;obtain⟨⟨J,O⟩,K⟩:=h;simp only[Instr.findNow,J,YU];by_cases hn:n=p.1
  .subst hn;simp only[beq_self_eq_true];refine⟨_,rfl,.inr ⟨0,p.2,by simp[O],by simp[aget],by simp,by simp⟩⟩
  .have:(n==p.1)=false:=by simp[hn]
   simp only[this];obtain⟨res,h1,u⟩:=QY k n r m (i+1) K;refine⟨res,h1,?_⟩;rcases u with ⟨a,d⟩|⟨j,v,a,d,T,Y⟩
   .exact .inl ⟨a,by simp[aget,Ne.symm hn,d]⟩
   .refine .inr ⟨j+1,v,by rw[a];grind,by simp[aget,Ne.symm hn,d],by grind,by simp;omega⟩
def MapI.find{k:IntKind}{es:Array MapEntry}{c:Nat}{m:List (Int×Value)}(h:MapI k es c m)(n:Int):
  ∃res,NK k n es res/\((res=none/\aget m n=none)∨ ∃j v,res=some (j,v)/\aget m n=some v/\m[j]? =some (n,v)/\j<es.size):=by
 obtain⟨res,h1,a⟩:=QY k n es.toList m 0 h.keys;refine⟨res,h1,?_⟩
 grind
def MS{k:IntKind}{n:Int}{b:Nat}{w:World}{z:Value}{K:Value->Bool->Array MapEntry->Prop}{es:Array MapEntry}{c:Nat}{m:List (Int×Value)}
  (u:w.heap[b]? =some (.map es c))(h:MapI k es c m)(a:K ((aget m n).getD z) (aget m n).isSome es):X1 k n (some b) w z K:=by
 obtain⟨res,h1,e⟩:=h.find n;refine⟨es,res,⟨c,u⟩,h1,?_⟩;rcases e with ⟨rfl,d⟩|⟨j,v,rfl,d,_⟩
 .rw[d]at a;exact a
 .rw[d]at a;exact a
def MT{m:List (Int×Value)}{n:Int}{q:List (Int×Value)}(h:aget m n=none):aget (m++q) n=aget q n:=by
 induction m with
 | nil=>rfl
 | cons p r ih=>
  simp only[aget]at h;split at h
  .cases h
  .rename_i hp;simp[aget,hp,ih h]
def PI{m:List (Int×Value)}{n:Int}:aget m n=none↔n∉m.map (·.1):=by
 induction m with
 | nil=>simp[aget]
 | cons p r ih=>
  simp only[aget,List.map_cons,List.mem_cons,not_or]
  grind
def Rl{m q:List (Int×Value)}{n:Int}{v:Value}(h:aget m n=some v):aget (m++q) n=some v:=by
 induction m with
 | nil=>cases h
 | cons p r ih=>
  simp only[aget]at h;by_cases hp:p.1=n
  .rw[if_pos hp]at h;simp[aget,hp,h]
  .rw[if_neg hp]at h;simp[aget,hp,ih h]
def mP{m:List (Int×Value)}{n:Int}{v:Value}{j:Nat}{u:Value}(a:m[j]? =some (n,u))(J:(m.map (·.1)).Nodup):
  (∀i,aget (m.set j (n,v)) i=if i=n then some v else aget m i)/\(m.set j (n,v)).map (·.1)=m.map (·.1):=by
 induction m generalizing j with
 | nil=>simp at a
 | cons p r ih=>
  cases j with
  | zero=>
   simp at a;subst a;refine⟨λi=> ?_,by simp⟩;simp only[List.set_cons_zero,aget]
   grind
  | succ j=>
   simp only[List.map_cons,List.nodup_cons]at J;obtain⟨h1,O⟩:=ih (by simpa using a) J.2;have d:n∈r.map (·.1):=List.mem_map.2 ⟨_,List.mem_of_getElem? (by simpa using a),rfl⟩;have K:p.1≠n:=λe=>J.1 (e▸d);refine⟨λi=> ?_,by grind⟩;simp only[List.set_cons_succ,aget,h1]
   grind
def MapI.put{k:IntKind}{es:Array MapEntry}{c:Nat}{m:List (Int×Value)}(h:MapI k es c m)(n:Int)(v:Value){res:Option (Nat×Value)}(hf:NK k n es res):
  ∃d c' J,mapPut es c (.int k n) v res= .map d c'/\MapI k d c' J/\(∀i,aget J i=if i=n then some v else aget m i)/\J.length<=m.length+1/\
   (aget m n=none->J.length=m.length+1)/\(aget m n≠none->J.length=m.length):=by
 obtain⟨K,h1,h2⟩:=h.find n;have:K=res:=by unfold NK at h1 hf;rw[h1]at hf;exact Option.some.inj hf
 subst this;rcases h2 with ⟨rfl,O⟩|⟨j,u,rfl,O,h4,h5⟩
 .refine⟨_,_,m++[(n,v)],rfl,⟨?_,?_,?_,?_⟩,λi=> ?_,by simp,by simp,λh=>absurd O h⟩
  .simp[h.keys]
  .rw[List.map_append,List.nodup_append];refine⟨h.nodup,by simp,λa Y b T=> ?_⟩;simp at T;subst T;intro e;subst e;exact PI.1 O Y
  .simp only[Array.toList_push,List.map_append,List.nodup_append];refine⟨h.born,by simp,λa Y b T=> ?_⟩;simp at T;obtain⟨e,he,rfl⟩:=List.mem_map.1 Y;have:=h.lt e he;omega
  .intro e he;simp only[Array.toList_push,List.mem_append,List.mem_singleton]at he;rcases he with he|rfl
   .have:=h.lt e he;omega
   .simp
  .by_cases hi:i=n
   .subst hi;rw[if_pos rfl,MT O];simp[aget]
   .rw[if_neg hi];cases hg:aget m i with
    | none=>rw[MT hg];simp[aget,Ne.symm hi]
    | some u=>exact Rl hg
 .obtain⟨g1,g2⟩:=mP (v:=v) h4 h.nodup;refine⟨_,_,m.set j (n,v),rfl,⟨?_,by rw[g2];exact h.nodup,?_,?_⟩,g1,by simp,(λh=>by grind),λ_=>by simp⟩
  .apply List.ext_getElem?;intro i;have hk:=congrArg (λl=>l[i]?) h.keys
   grind
  .have:(es.modify j λe=>{e with key:=.int k n,val:=v}).toList.map (·.born)=es.toList.map (·.born):=by
    apply List.ext_getElem?
    grind
   rw[this];exact h.born
  .intro e he;obtain⟨i,hi,rfl⟩:=List.mem_iff_getElem.1 he;simp only[Array.getElem_toList,Array.getElem_modify];have aE:i<es.size:=by simpa using hi
   split
   .exact h.lt es[i] (by simp)
   .exact h.lt es[i] (by simp)
def T4{k:IntKind}{n:Int}{v:Value}{b:Nat}{w:World}{K:World->Prop}{es:Array MapEntry}{c:Nat}{m:List (Int×Value)}
  (J:w.heap[b]? =some (.map es c))(h:MapI k es c m)
  (hK: ∀w' a e d,w'.heap[b]? =some (.map a e)->MapI k a e d->(∀i,aget d i=if i=n then some v else aget m i)->d.length<=m.length+1->
   (aget m n=none->d.length=m.length+1)->(aget m n≠none->d.length=m.length)->Ext (KD b) w w'->w'.heap.size=w.heap.size->K w'):KB k n v (some b) w K:=by
 obtain⟨res,h1,_⟩:=h.find n;refine⟨b,es,c,res,rfl,J,h1,?_⟩;obtain⟨a,e,d,O,T,Y,h5,h6,h7⟩:=h.put n v h1;rw[O];have u:=Fp J;exact hK _ a e d (by simp[World.GX,u]) T Y h5 h6 h7 (Ext.GX w b _) (by simp[World.GX])
def Iw{α β:Type}(f:α->β): ∀(l:List α) (j:Nat),(l.eraseIdx j).map f=(l.map f).eraseIdx j
 | [],j=>by simp
 | x::r,0=>by simp
 | x::r,j+1=>by simp[Iw f r j]
def aR{m:List (Int×Value)}{n:Int}{j:Nat}{u:Value}(d:m[j]? =some (n,u))(v:(m.map (·.1)).Nodup):
  (∀i,aget (m.eraseIdx j) i=if i=n then none else aget m i)/\((m.eraseIdx j).map (·.1)).Nodup:=by
 refine⟨?_,?_⟩
 .induction m generalizing j with
  | nil=>simp at d
  | cons p r ih=>
   simp only[List.map_cons,List.nodup_cons]at v;cases j with
   | zero=>
    simp at d;subst d;intro i;simp only[List.eraseIdx_cons_zero,aget];by_cases h:n=i
    .subst h;simp;exact PI.2 v.1
    grind
   | succ j=>
    have a:n∈r.map (·.1):=List.mem_map.2 ⟨_,List.mem_of_getElem? (by simpa using d),rfl⟩;have J:p.1≠n:=λe=>v.1 (e▸a);intro i;simp only[List.eraseIdx_cons_succ,aget]
    grind
 grind
def MapI.del{k:IntKind}{es:Array MapEntry}{c:Nat}{m:List (Int×Value)}(h:MapI k es c m)(n:Int){res:Option (Nat×Value)}(v:NK k n es res):
  ∃a J,We es c res= .map a c/\MapI k a c J/\(∀i,aget J i=if i=n then none else aget m i)/\J.length<=m.length/\a.toList.Sublist es.toList/\
   (∀e∈es.toList,e.key≠ .int k n->e∈a.toList):=by
 obtain⟨d,h1,O⟩:=h.find n;have:d=res:=by unfold NK at h1 v;rw[h1]at v;exact Option.some.inj v
 subst this;rcases O with ⟨rfl,T⟩|⟨j,u,rfl,T,Y,h5⟩
 .refine⟨es,m,rfl,h,λi=> ?_,Nat.le_refl _,List.Sublist.refl _,λ_ h _=>h⟩
  grind
 .obtain⟨g1,g2⟩:=aR Y h.nodup;have he:(es.eraseIdxIfInBounds j).toList=es.toList.eraseIdx j:=by simp
  refine⟨_,m.eraseIdx j,rfl,⟨?_,g2,?_,?_⟩,g1,List.length_eraseIdx_le _ _,?_,?_⟩
  .rw[he,Iw,Iw,h.keys]
  .rw[he,Iw];exact h.born.sublist (List.eraseIdx_sublist _ _)
  .intro e hm;rw[he]at hm;exact h.lt e (List.mem_of_mem_eraseIdx hm)
  .grind
  .intro e hm hk;rw[he,List.mem_eraseIdx_iff_getElem?];obtain⟨i,hi⟩:=List.mem_iff_getElem?.1 hm;refine⟨i,?_,hi⟩;intro K;subst K;have aA:=congrArg (λl=>l[i]?) h.keys
   grind
def Pk{k:IntKind}{n:Int}{b:Nat}{w:World}{K:World->Prop}{es:Array MapEntry}{c:Nat}{m:List (Int×Value)}
  (v:w.heap[b]? =some (.map es c))(h:MapI k es c m)
  (hK: ∀w' a d,w'.heap[b]? =some (.map a c)->MapI k a c d->(∀i,aget d i=if i=n then none else aget m i)->d.length<=m.length->a.toList.Sublist es.toList->
   (∀e∈es.toList,e.key≠ .int k n->e∈a.toList)->Ext (KD b) w w'->w'.heap.size=w.heap.size->K w'):MDEL k n (some b) w K:=by
 obtain⟨res,h1,_⟩:=h.find n;refine⟨es,c,res,v,h1,?_⟩;obtain⟨a,d,J,O,T,Y,h6,h7⟩:=h.del n h1;rw[J];have u:=Fp v;exact hK _ a d (by simp[World.GX,u]) O T Y h6 h7 (Ext.GX w b _) (by simp[World.GX])
def MapI.QZ{k:IntKind}{es:Array MapEntry}{c:Nat}{m:List (Int×Value)}(h:MapI k es c m){e:MapEntry}(he:e∈es.toList):
  ∃n,e.key= .int k n/\aget m n=some e.val:=by
 obtain⟨i,hi⟩:=List.mem_iff_getElem?.1 he;have a:=congrArg (λl=>l[i]?) h.keys;simp only[List.getElem?_map,hi,Option.map_some]at a;cases hm:m[i]? with
 | none=>grind
 | some p=>
  rw[hm]at a;simp only[Option.map_some,Option.some.injEq,Prod.mk.injEq]at a;refine⟨p.1,a.1,?_⟩;have: ∀(m:List (Int×Value)) (i:Nat),(m.map (·.1)).Nodup->m[i]? =some p->aget m p.1=some p.2:=by
   intro m
   induction m with
   | nil=>grind
   | cons q r ih=>
    intro i u hi;simp only[List.map_cons,List.nodup_cons]at u;cases i with
    | zero=>simp at hi;subst hi;simp[aget]
    | succ i=>
     have d:p.1∈r.map (·.1):=List.mem_map.2 ⟨_,List.mem_of_getElem? (by simpa using hi),rfl⟩;have v:q.1≠p.1:=λe=>u.1 (e▸d);simp[aget,v,ih i u.2 (by grind)]
  rw[this m i h.nodup hm,a.2]
def MapI.TM{k:IntKind}{es:Array MapEntry}{c:Nat}{m:List (Int×Value)}(h:MapI k es c m){n:Int}{v:Value}(d:aget m n=some v):
  ∃e∈es.toList,e.key= .int k n/\e.val=v:=by
 obtain⟨res,h1,J⟩:=h.find n;rcases J with ⟨_,a⟩|⟨j,u,rfl,a,K,O⟩
 .grind
 .rw[a]at d;cases d;obtain⟨e,he,T,Y⟩:=Ml k n es.toList 0 j _ h1
  grind
def O5(s:AW):Nat->Prop:=λk=> ∃a,s.base=some a/\k=a.block
structure Pr where
 holds:(Nat->Prop)->World->Prop
 loc: ∀{D:Nat->Prop} {w w':World} {S:Nat->Prop},holds D w->Ext S w w'->(∀k,D k-> ¬S k)->holds D w'
 lt: ∀{D:Nat->Prop} {w:World} {k:Nat},holds D w->D k->k<w.heap.size
def MF:List Pr->(Nat->Prop)->World->Prop
 | [],D,_=> ∀k,¬D k
 | P::Ps,D,w=> ∃a d,P.holds a w/\MF Ps d w/\(∀k,a k-> ¬d k)/\ ∀k,D k↔a k∨d k
def Sat(Ps:List Pr)(w:World):Prop:= ∃D,MF Ps D w
def MF.loc: ∀{Ps:List Pr} {D:Nat->Prop} {w w':World} {S:Nat->Prop},MF Ps D w->Ext S w w'->(∀k,D k-> ¬S k)->MF Ps D w'
 | [],_,_,_,_,h,_,_=>h
 | P::Ps,D,w,w',S,⟨D1,D2,h1,h2,hd,hD⟩,he,hS=>⟨D1,D2,P.loc h1 he λk a=>hS k ((hD k).2 (.inl a)),h2.loc he λk a=>hS k ((hD k).2 (.inr a)),hd,hD⟩
def MF.lt: ∀{Ps:List Pr} {D:Nat->Prop} {w:World} {k:Nat},MF Ps D w->D k->k<w.heap.size
 | [],_,_,_,h,a=>(h _ a).elim
 | P::Ps,D,w,k,⟨D1,D2,h1,h2,hd,d⟩,a=>by
  rcases(d k).1 a with h|h
  .exact P.lt h1 h
  .exact h2.lt h
def MF.append: ∀{Ps u:List Pr} {D:Nat->Prop} {w:World},MF (Ps++u) D w↔ ∃d a,MF Ps d w/\MF u a w/\(∀k,d k-> ¬a k)/\ ∀k,D k↔d k∨a k
 | [],u,D,w=>by
  constructor
  .intro h;exact⟨λ_=>False,D,λ_ f=>f,h,λ_ f=>f.elim,λk=>by simp⟩
  .rintro⟨d,a,h1,v,_,J⟩;have:D=a:=by
    funext k;have:=J k;simp[h1 k]at this
    grind
   grind
 | P::Ps,u,D,w=>by
  constructor
  .rintro⟨d,a,h1,v,hd,J⟩;obtain⟨e,m,g1,g2,T,O⟩:=MF.append.1 v;refine⟨λk=>d k∨e k,m,⟨d,e,h1,g1,λk K he=>hd k K ((O k).2 (.inl he)),λk=>Iff.rfl⟩,g2,?_,?_⟩
   .grind
   grind
  .rintro⟨d,a,⟨e,m,h1,v,hd,J⟩,g2,T,O⟩;refine⟨e,λk=>m k∨a k,h1,MF.append.2 ⟨m,a,v,g2,λk K=>T k ((J k).2 (.inr K)),λk=>Iff.rfl⟩,?_,?_⟩
   .grind
   grind
def MF.perm{Ps u:List Pr}(h:Ps.Perm u): ∀{D:Nat->Prop} {w:World},MF Ps D w->MF u D w:=by
 induction h with
 | nil=>grind
 | cons P _ ih=>
  rintro D w ⟨a,e,h1,K,d⟩;exact⟨a,e,h1,ih K,d⟩
 | swap P Q l=>
  rintro D w ⟨a,e,h1,⟨v,m,d,O,hd,T⟩,J,gD⟩;refine⟨v,λk=>a k∨m k,d,⟨a,m,h1,O,λk Y he=>J k Y ((T k).2 (.inr he)),λk=>Iff.rfl⟩,?_,?_⟩
  .grind
  grind
 | trans _ _ ih1 ih2=>grind
def Sat.perm{Ps a:List Pr}{w:World}(h:Sat Ps w)(hp:Ps.Perm a):Sat a w:=let⟨D,h⟩:=h;⟨D,h.perm hp⟩
def D8{α:Type}: ∀{l:List α} {i:Nat} {x:α},l[i]? =some x->l.Perm (x::l.eraseIdx i)
 | [],i,x,h=>by simp at h
 | y::l,0,x,h=>by simp at h;subst h;exact .refl _
 | y::l,i+1,x,h=>by
  have:=D8 (l:=l) (i:=i) (x:=x) (by grind);exact(this.cons y).trans (.swap x y _)
def MU{α:Type}: ∀{l:List α} {i:Nat} {x:α},i<l.length->(x::l.eraseIdx i).Perm (l.set i x)
 | [],i,x,h=>by simp at h
 | y::l,0,x,h=>.refl _
 | y::l,i+1,x,h=>by
  have:=MU (l:=l) (i:=i) (x:=x) (by simpa using h);exact(List.Perm.swap y x _).trans (this.cons y)
section
variable{Ps F:List Pr}{P P':Pr}{w w':World}
def Sat.front(i:Nat)(H:Sat Ps w)(hi:Ps[i]? =some P):Sat (P::Ps.eraseIdx i) w:=H.perm (D8 hi)
def Sat.back(i:Nat)(H:Sat (P'::Ps.eraseIdx i) w)(hi:i<Ps.length:=by simp):Sat (Ps.set i P') w:=H.perm (MU hi)
def Sat.nothing(H:Sat Ps w)(he:Ext AN w w'):Sat Ps w':=let⟨D,h⟩:=H;⟨D,h.loc he λ_ _ f=>f⟩
def Sat.drew(H:Sat Ps w):Sat Ps w.drew:=H.nothing (Ext.drew _ w)
def Sat.tail(H:Sat (P::F) w):Sat F w:=let⟨_,_,D2,_,h,_⟩:=H;⟨D2,h⟩
def Sat.head(H:Sat (P::F) w): ∃D,P.holds D w:=let⟨_,D1,_,h,_⟩:=H;⟨D1,h⟩
def Sat.step(H:Sat (P::F) w): ∃D,P.holds D w/\ ∀w' a P',Ext D w w'->P'.holds a w'->(∀k,a k->D k∨w.heap.size<=k)->Sat (P'::F) w':=by
 obtain⟨D,m,u,h1,e,hd,O⟩:=H;refine⟨m,h1,λw' a P' he J K=>⟨_,a,u,J,e.loc he λk d h=>hd k h d,λk d h=> ?_,λk=>Iff.rfl⟩⟩;rcases K k d with v|v
 .grind
 .have:=e.lt h;omega
def Sat.new(H:Sat F w){D:Nat->Prop}(he:Ext AN w w')(e:P.holds D w')(u: ∀k,D k->w.heap.size<=k):Sat (P::F) w':=by
 obtain⟨d,a⟩:=H;refine⟨_,D,d,e,a.loc he λ_ _ f=>f,λk m h=> ?_,λk=>Iff.rfl⟩;have h1:=u k m;have:=a.lt h;omega
end
def Old(w0:World):Pr where
 holds D w:=(∀k,D k↔k<w0.heap.size)/\Ext AN w0 w
 loc h he hS:=⟨h.1,h.2.trans he (λ_ _ f=>f) λi hi a=>hS i ((h.1 i).2 hi) a⟩
 lt h hk:=by have h1:=(h.1 _).1 hk;have:=h.2.size;omega
def Sat.start(w:World):Sat [Old w] w:=⟨_,λk=>k<w.heap.size,λ_=>False,⟨λ_=>Iff.rfl,Ext.refl _ _⟩,λ_ f=>f,λ_ _ f=>f,λ_=>Iff.rfl⟩
def Sat.O4{Ps:List Pr}{w w0:World}(i:Nat)(H:Sat Ps w)(hi:Ps[i]? =some (Old w0)):Ext AN w0 w:=let⟨_,h⟩:=(H.front i hi).head;h.2
def S5(a:List Pr):Pr where
 holds D w:=MF a D w
 loc:=MF.loc
 lt:=MF.lt
def Ex{α:Type}(P:α->Pr):Pr where
 holds D w:= ∃x,(P x).holds D w
 loc h he hS:=let⟨x,h⟩:=h;⟨x,(P x).loc h he hS⟩
 lt h hk:=let⟨x,h⟩:=h;(P x).lt h hk
def KR(p:Prop)(P:Pr):Pr where
 holds D w:=p/\P.holds D w
 loc h he hS:=⟨h.1,P.loc h.2 he hS⟩
 lt h hk:=P.lt h.2 hk
def Sat.star{u F:List Pr}{w:World}:Sat (S5 u::F) w↔Sat (u++F) w:=by
 constructor
 .rintro⟨D,a,d,h1,e,m⟩;exact⟨D,MF.append.2 ⟨a,d,h1,e,m⟩⟩
 .rintro⟨D,h⟩;obtain⟨a,d,h1,e,m⟩:=MF.append.1 h;exact⟨D,a,d,h1,e,m⟩
def Sat.ex{α:Type}{P:α->Pr}{F:List Pr}{w:World}:Sat (Ex P::F) w↔ ∃x,Sat (P x::F) w:=by
 constructor
 .rintro⟨D,a,d,⟨x,h1⟩,e,m⟩;exact⟨x,D,a,d,h1,e,m⟩
 .rintro⟨x,D,a,d,h1,e,m⟩;exact⟨D,a,d,⟨x,h1⟩,e,m⟩
def Sat.where{p:Prop}{P:Pr}{F:List Pr}{w:World}:Sat (KR p P::F) w↔p/\Sat (P::F) w:=by
 constructor
 .rintro⟨D,a,d,⟨x,h1⟩,e,m⟩;exact⟨x,D,a,d,h1,e,m⟩
 .rintro⟨x,D,a,d,h1,e,m⟩;exact⟨D,a,d,⟨x,h1⟩,e,m⟩
def Cells(b t:Nat)(vs:List Value):Pr where
 holds D w:=(∀k,D k↔k=b)/\b<w.heap.size/\ ∀j v,vs[j]? =some v->w.cell? ⟨b,j,none⟩=some v/\w.frozen? ⟨b,j,none⟩=false
 loc h he hS:=⟨h.1,Nat.lt_of_lt_of_le h.2.1 he.size,λj v a=>⟨he.cell (h.2.2 j v a).1 (hS _ ((h.1 _).2 rfl)),by
  rw[he.frozen (p:=⟨_,j,none⟩) h.2.1 (hS _ ((h.1 _).2 rfl))];grind⟩⟩
 lt h hk:=by have:=(h.1 _).1 hk;omega
section
variable{Ps F:List Pr}{w w':World}{b t:Nat}{vs:List Value}
def Sat.AU(H:Sat (Cells b t vs::F) w){o:Nat}{v:Value}(a:vs[o]? =some v):w.cell? (Addr.mk b o none)=some v:=let⟨_,h⟩:=H.head;(h.2.2 o v a).1
def Sat.cell(H:Sat (Cells b t vs::F) w){o m:Nat}{v:Value}(a:vs[o+m]? =some v):w.cell? ((Addr.mk b o none).add m)=some v:=by
 rw[add_eq];exact H.AU a
def Sat.sL(H:Sat (Cells b t vs::F) w){o:Nat}(ho:o<vs.length):w.frozen? (Addr.mk b o none)=false:=let⟨_,h⟩:=H.head;(h.2.2 o _ (List.getElem?_eq_getElem ho)).2
def Ns{D:Nat->Prop}(a: ∀k,D k↔k=b)(h:w.heap[b]? =some (.cells ⟨vs⟩ t)):(Cells b t vs).holds D w:=
 ⟨a,Fp h,λj v d=>⟨by rw[AS h];grind,by simp[World.frozen?,h]⟩⟩
def AJ(H:Sat F w){K:Nat->World->Prop}(a: ∀b w',Sat (Cells b t vs::F) w'->Ext AN w w'->K b w'):AL (.cells ⟨vs⟩ t) w K:=
 A8 λw' d m he=>a _ _ (H.new (P:=Cells w.heap.size t vs) (D:=λk=>k=w.heap.size) he (Ns (λ_=>Iff.rfl) d) λk e=>by omega) he
def Sat.stored(H:Sat (Cells b t vs::F) w){o:Nat}(ho:o<vs.length)(v:Value):Sat (Cells b t (vs.set o v)::F) (w.setCell ⟨b,o,none⟩ v):=by
 obtain⟨D,h,J⟩:=H.step;have a:=Nn (v:=v) (h.2.2 o _ (List.getElem?_eq_getElem ho)).1;refine J _ D _ (a.ext.mono λi _ hi=>(h.1 i).2 hi) ⟨h.1,by rw[a.size];exact h.2.1,λj u d=> ?_⟩ λk m=>.inl m;rw[a.frozen];rw[List.getElem?_set]at d;by_cases e:o=j
 .subst e;rw[if_pos rfl,if_pos ho]at d;cases d;exact⟨a.same,(h.2.2 o _ (List.getElem?_eq_getElem ho)).2⟩
 .rw[if_neg e]at d;rw[a.other _ (by grind)];exact h.2.2 j u d
def Ah(H:Sat (Cells b t vs::F) w){o m:Nat}{v:Value}(ho:v.oneCell'=true)(a:o+m<vs.length){K:World->Prop}(d: ∀w',Sat (Cells b t (vs.set (o+m) v)::F) w'->K w'):
  stCells ((Addr.mk b o none).add m) 0 [v] w K:=by
 simp only[stCells,add_zero,add_eq];exact⟨⟨⟨_,H.AU (List.getElem?_eq_getElem a)⟩,H.sL a,ho⟩,d _ (H.stored a v)⟩
def BT(H:Sat (Cells b t vs::F) w){o:Nat}{v:Value}(ho:v.oneCell'=true)(d:o<vs.length){K:World->Prop}(a: ∀w',Sat (Cells b t (vs.set o v)::F) w'->K w'):
  stCells (Addr.mk b o none) 0 [v] w K:=by
 have:=Ah H (m:=0) ho d a;rwa[show(Addr.mk b o none).add 0=Addr.mk b o none from add_zero _]at this
def Qa: ∀(news:List Value) {vs:List Value} {w:World} (o i:Nat),Sat (Cells b t vs::F) w->o+i+news.length<=vs.length->(∀v∈news,v.oneCell'=true)-> ∀{K:World->Prop},
  (∀w',Sat (Cells b t (vs.take (o+i)++news++vs.drop (o+i+news.length))::F) w'->K w')->stCells (Addr.mk b o none) i news w K
 | [],vs,w,o,i,H,hl,ho,K,hK=>by
  refine hK w ?_;simpa using H
 | v::r,vs,w,o,i,H,hl,ho,K,hK=>by
  have a:o+i<vs.length:=by grind
  simp only[stCells,add_eq];refine⟨⟨⟨_,H.AU (List.getElem?_eq_getElem a)⟩,H.sL a,ho v (by simp)⟩,?_⟩;refine Qa r o (i+1) (H.stored a v) (by grind) (λu hu=>ho u (by simp[hu])) λw' d=>hK w' ?_;have:(vs.set (o+i) v).take (o+(i+1))++r++(vs.set (o+i) v).drop (o+(i+1)+r.length)=vs.take (o+i)++(v::r)++vs.drop (o+i+(v::r).length):=by
   rw[show o+(i+1)=o+i+1 from by omega,List.take_set,List.take_succ_eq_append_getElem a,List.set_append_right _ _ (by simp;omega)];simp only[List.length_take,Nat.min_eq_left (Nat.le_of_lt a),Nat.sub_self,List.set_cons_zero,List.append_assoc,List.singleton_append,List.length_cons,List.cons_append];congr 2;rw[List.drop_set_of_lt (by omega),show o+i+1+r.length=o+i+(r.length+1)from by omega];simp
  grind
def CN{news:List Value}(H:Sat (Cells b t vs::F) w)(e:news.length=vs.length)(ho: ∀v∈news,v.oneCell'=true){K:World->Prop}
  (a: ∀w',Sat (Cells b t news::F) w'->K w'):stCells (Addr.mk b 0 none) 0 news w K:=by
 refine Qa news 0 0 H (by omega) ho λw' d=>a w' ?_;have:List.drop news.length vs=[]:=List.drop_eq_nil_iff.2 (by omega)
 grind
end
def Row(t z:Nat)(s:AW)(vs:List Value):Pr where
 holds D w:=(∀k,D k↔O5 s k)/\I8 w 0 t z s vs
 loc h he hS:=⟨h.1,h.2.ext he λb e=>hS _ ((h.1 _).2 ⟨_,e,rfl⟩)⟩
 lt h hk:=by obtain⟨a,d,rfl⟩:=(h.1 _).1 hk;exact(h.2.lt d).2.1
section
variable{Ps F:List Pr}{w w':World}{t z:Nat}{s:AW}{vs:List Value}
def Sat.own(H:Sat (Row t z s vs::F) w):I8 w 0 t z s vs:=let⟨_,h⟩:=H.head;h.2
def Sat.Bs(H:Sat (Row t z s vs::F) w):vs.length=s.len*z:=H.own.len
def I8.Gj{w:World}{B t z:Nat}{s:AW}{vs:List Value}(h:I8 w B t z s vs)(d:0<s.len): ∃b,s.base=some ⟨b,0,none⟩:=by
 rcases h.row with ⟨h1,a⟩|⟨b,cs,h1,_⟩
 .have:=h.cap;omega
 grind
def I8.cell{w:World}{B t z:Nat}{s:AW}{vs:List Value}(h:I8 w B t z s vs){a:Addr}(d:s.base=some a){j:Nat}{v:Value}(e:vs[j]? =some v):w.cell? (a.add j)=some v:=by
 have:=h.rowAt;rw[d]at this;exact this.2 j v e
def Sat.Ol(H:Sat (Row t z s vs::F) w){j:Nat}{v:Value}(e:vs[j]? =some v){K:Addr->Prop}(m: ∀a,s.base=some a->w.cell? (a.add j)=some v->K a):NC s.base K:=by
 have ho:=H.own;have u:j<vs.length:=(List.getElem?_eq_some_iff.1 e).1;have J:0<s.len:=by
  rw[ho.len]at u
  grind
 obtain⟨b,d⟩:=ho.Gj J;rw[d];exact m _ d (ho.cell d e)
def Sat.nil(H:Sat F w)(t z:Nat):Sat (Row t z ⟨none,0,0⟩ []::F) w:=
 H.new (P:=Row t z ⟨none,0,0⟩ []) (D:=O5 ⟨none,0,0⟩) (Ext.refl _ _) ⟨λ_=>Iff.rfl,I8.nil w 0 t z⟩ λk e=>by obtain⟨a,d,_⟩:=e;cases d
def Om{bytes:Nat}{zs:Array Value}{x:AW}{K:AW->World->Prop}{news:List Value}(H:Sat (Row t z s vs::F) w)
  (hz:zs.size=z)(J:rowAt w x.base (x.len*z) news)(Y:news.length=x.len*z)(ho: ∀v∈news,v.oneCell'=true)
  (T:(s.len+x.len)*bytes<=140737488355328)(O:s.len+x.len<=9223372036854775807)
  (hK: ∀s' w',Sat (Row t z s' (vs++news)::F) w'->s'.len=s.len+x.len->K s' w'):APP t z bytes zs s x w K:=by
 obtain⟨D,h,hs⟩:=H.step;refine QU hz h.2 J Y ho (Nat.zero_le _) T O λs' w' u hlen m d=>hK s' w' ?_ hlen;refine hs w' (O5 s') _ (m.mono λi _ hi=>(h.1 i).2 hi) ⟨λ_=>Iff.rfl,u⟩ ?_;rintro k ⟨a,ha,rfl⟩;rcases d with e|⟨b,e,T⟩
 .exact .inl ((h.1 _).2 ⟨a,by grind,rfl⟩)
 .rw[e]at ha;cases ha;exact .inr T
def GJ{bytes:Nat}{zs:Array Value}{K:AW->World->Prop}{news:List Value}{b:Nat}(H:Sat (Cells b t news::Row t z s vs::F) w)
  (hz:zs.size=z)(m:news.length=z)(ho: ∀v∈news,v.oneCell'=true)
  (e:(s.len+1)*bytes<=140737488355328)(a:s.len+1<=9223372036854775807)
  (d: ∀s' w',Sat (Row t z s' (vs++news)::F) w'->s'.len=s.len+1->K s' w'):APP t z bytes zs s ⟨some (Addr.mk b 0 none),1,1⟩ w K:=by
 refine Om H.tail hz (x:=⟨some (Addr.mk b 0 none),1,1⟩) ⟨by grind,λj v u=> ?_⟩ (by grind) ho e a d;exact H.cell (by grind)
def Sat.KE(H:Sat (Row t z s vs::F) w):rowAt w s.base (s.len*z) vs:=H.own.rowAt
def Km(H:Sat (Row t z s vs::F) w){j:Nat}{v:Value}(ho:v.oneCell'=true)(hj:j<vs.length){a:Addr}(u:s.base=some a){K:World->Prop}
  (T: ∀w',Sat (Row t z s (vs.set j v)::F) w'->K w'):stCells (a.add j) 0 [v] w K:=by
 obtain⟨D,h,hs⟩:=H.step;have d:=h.2;rcases d.row with ⟨h1,_⟩|⟨b,cs,h1,J,e,h4,O⟩
 .grind
 .rw[h1]at u;cases u;have hl:=d.len;have m:j<cs.size:=by
   have:s.len*z<=s.cap*z:=Nat.mul_le_mul_right _ d.cap;omega
  simp only[stCells,add_zero,add_eq,Nat.zero_add];refine⟨⟨⟨_,(by rw[AS e];exact Array.getElem?_eq_getElem m)⟩,by simp[World.frozen?,e],ho⟩,T _ ?_⟩;refine hs _ D _ ((Ext.setCell w ⟨b,j,none⟩ v).mono λi _ hi=>(h.1 i).2 ⟨_,h1,hi⟩) ⟨h.1,?_⟩ λk Y=>.inl Y;refine⟨by grind,d.cap,d.top,.inr ⟨b,_,h1,J,Lu e,by grind,?_⟩⟩;rw[Array.toList_setIfInBounds,List.take_set,O]
end
def AZ{σ:Type}{first:(σ->World->Prop)->Prop}{rest:σ->(Nat->Value)->World->Prop}(h:first λs w=> ∀j,rest s j w):Ao σ first rest:=
 ⟨_,h,λs j w h=>h j⟩
@[simp] theorem mQ{T E:Prop}:CND true T E↔T:=Iff.rfl
@[simp] theorem jI{T E:Prop}:CND false T E↔E:=Iff.rfl
def Aa{b:Bool}{T E:Prop}(a:b=true)(h:T):CND b T E:=by subst a;exact h
def AO{b:Bool}{T E:Prop}(a:b=false)(h:E):CND b T E:=by subst a;exact h
def Cj{a b:Int}{T E:Prop}(h1:a=b->T)(d:a≠b->E):CND (a==b) T E:=by
 by_cases h:a=b
 .rw[show(a==b)=true from by grind];exact h1 h
 .rw[show(a==b)=false from by grind];exact d h
def EO{a b:Int}{T E:Prop}(h1:a≠b->T)(d:a=b->E):CND (a !=b) T E:=by
 by_cases h:a=b
 .rw[show(a !=b)=false from by grind];exact d h
 .rw[show(a !=b)=true from by grind];exact h1 h
def Lv{b:Bool}{T E:Prop}(h:CND b E T):CND (!b) T E:=by cases b<;>exact h
structure Rg(it mb since:Nat)(a b:Int)(m0:List (Int×Value))(w:World)(seen:Array Nat)(es:Array MapEntry)(m:List (Int×Value)):Prop where
 iter: ∃last,w.heap[it]? =some (.mapIter (some mb) since seen last)/\(seen.isEmpty=true∨last=since)
 map:w.heap[mb]? =some (.map es since)
 ok:MapI .u64 es since m
 out: ∀c,¬(a<=c/\c<b)->aget m c=aget m0 c
 sub: ∀c v,aget m c=some v->aget m0 c=some v
 done: ∀e∈es.toList,seen.contains e.born=true-> ∀n,e.key= .int .u64 n-> ¬(a<=n/\n<b)
def HL{es:Array MapEntry}{seen:Array Nat}{e:MapEntry}:e∈leftOf es seen↔e∈es.toList/\seen.contains e.born=false:=by
 simp[leftOf,Array.mem_filter]
def Ij(es:Array MapEntry)(seen:Array Nat):Nat:=(es.toList.filter λe=> !seen.contains e.born).length
def filter_lt{α:Type}{p q:α->Bool}: ∀{l:List α},(∀x∈l,q x=true->p x=true)->(∃x∈l,p x=true/\q x=false)->(l.filter q).length<(l.filter p).length
 | [],_,⟨x,a,_⟩=>by cases a
 | y::r,h,⟨x,a,h1,h2⟩=>by
  have hle: ∀{l:List α},(∀x∈l,q x=true->p x=true)->(l.filter q).length<=(l.filter p).length:=by
   intro l
   induction l with
   | nil=>grind
   | cons z s ih=>grind
  rcases List.mem_cons.1 a with rfl|d
  .grind
  .have:=filter_lt (λz hz=>h z (List.mem_cons_of_mem _ hz)) ⟨x,d,h1,h2⟩
   grind
def KF{α β:Type}{f:α->β}: ∀{l:List α},(l.map f).Nodup-> ∀{x y:α},x∈l->y∈l->f x=f y->x=y
 | [],_,x,y,e,_,_=>by cases e
 | z::r,h,x,y,e,m,he=>by
  simp only[List.map_cons,List.nodup_cons]at h;rcases List.mem_cons.1 e with rfl|a<;>rcases List.mem_cons.1 m with rfl|d
  .rfl
  .exact absurd (he▸List.mem_map.2 ⟨y,d,rfl⟩) h.1
  .exact absurd (he▸List.mem_map.2 ⟨x,a,rfl⟩) h.1
  .exact KF h.2 a d he
def range_del{it mb since:Nat}{a b:Int}{m0:List (Int×Value)}{w0:World}{K:World->Prop}{getm:(Option Nat->World->Prop)->World->Prop}
  (aX: ∀w K',Ext (λk=>k=it∨k=mb) w0 w->K' (some mb) w->getm K' w)
  {seen0:Array Nat}{es0:Array MapEntry}{m1:List (Int×Value)}(h0:Rg it mb since a b m0 w0 seen0 es0 m1)(a1:it≠mb)(b2:it<w0.heap.size)(b4:mb<w0.heap.size)
  (hK: ∀w' aA m',Ext (λk=>k=it∨k=mb) w0 w'->w'.heap.size=w0.heap.size->w'.heap[mb]? =some (.map aA since)->MapI .u64 aA since m'->
   (∀c,aget m' c=if a<=c/\c<b then none else aget m0 c)->K w'):
  BI (Unit) (()) w0 λtC _ bI T=>
     Ao (Bool×Unit) (λaQ=>
      Th it bI (λbJ=>
       aQ (false,()) bJ
      ) λb7 b8 bK=>
       aQ (true,()) bK
     ) λyQ _ aE=>
      Ao (Bool×Unit) (λa6=>
       CND (yQ.1) (
        a6 (yQ.1,()) aE
       ) (
        K aE
       )
      ) λs63 _ aF=>
       mE it aF λbG b9 bS=>
       Vl .u64 bG λaM=>
       Ao (Bool×Unit) (λaR=>
        CND (decide ((aM:Int)≥a)) (
         aR (decide ((aM:Int)<b),()) aF
        ) (
         aR (false,()) aF
        )
       ) λbH _ O=>
        CND (bH.1) (
         getm (λbM O=>
         MDEL .u64 aM bM O λbL=>
         T (()) bL) O
        ) (
         T (()) O
        ):=by
 refine AM (λ_ w=>(∃seen es m,Rg it mb since a b m0 w seen es m)/\Ext (λk=>k=it∨k=mb) w0 w/\w.heap.size=w0.heap.size)
  (λ_ w=>match w.heap[it]?,w.heap[mb]? with|some (.mapIter _ _ seen _),some (.map es _)=>Ij es seen|_,_=>0) ⟨⟨_,_,_,h0⟩,Ext.refl _ _,rfl⟩ ?_
 rintro _ _ w ⟨⟨seen,es,m,h⟩,hw,b6⟩;obtain⟨last,J,hl⟩:=h.iter;have bC:(match w.heap[it]?,w.heap[mb]? with|some (.mapIter _ _ seen _),some (.map es _)=>Ij es seen|_,_=>0:Nat)=Ij es seen:=by rw[J,h.map]
 simp only[bC];refine AV (λst w'=>(st.1=false/\(leftOf es seen).isEmpty=true/\(∃d,Rg it mb since a b m0 w' d es m/\d=seen)/\Ext (λk=>k=it∨k=mb) w0 w'/\w'.heap.size=w0.heap.size)∨
   (st.1=true/\ ∃e,e∈es.toList/\seen.contains e.born=false/\w'.heap[it]? =some (.mapIter (some mb) since (seen.push e.born) since)/\w'.heap[mb]? =some (.map es since)/\Ext (λk=>k=it∨k=mb) w0 w'/\w'.heap.size=w0.heap.size)) ?_ ?_
 .refine⟨some mb,since,seen,last,J,es,since,h.map,?_,?_,?_⟩
  .rcases hl with hl|rfl
   .simp[hl]
   .by_cases he:es.isEmpty=true
    .simp[he]
    .have:es.all (λx=>decide (x.born≥last))=false:=by
      have bR:0<es.size:=Nat.pos_of_ne_zero λe=>he (by grind);have hm:es[0]∈es.toList:=by simp
      have:=h.ok.lt _ hm
      grind
     simp[this]
  .intro w' aD aV;left;have Y:Ext AN w w':=by rcases aD with rfl|rfl;exact Ext.refl _ _;exact Ext.drew _ _
   have bD:w'.heap.size=w.heap.size:=by rcases aD with rfl|rfl<;>rfl
   refine⟨rfl,?_,⟨seen,⟨⟨last,Y.obj J (λf=>f),hl⟩,Y.obj h.map (λf=>f),h.ok,h.out,h.sub,h.done⟩,rfl⟩,hw.trans' Y.any,by omega⟩;have:(leftOf es seen).filter (λx=>decide (x.born<since))=leftOf es seen:=by
    apply Array.filter_eq_self.2;intro e he;have h1:=(HL.1 he).1;exact decide_eq_true (h.ok.lt e h1)
   grind
  .intro w' e aD he;right;have Y:Ext AN w w':=by rcases aD with rfl|rfl;exact Ext.refl _ _;exact Ext.drew _ _
   have bD:w'.heap.size=w.heap.size:=by rcases aD with rfl|rfl<;>rfl
   obtain⟨h1,h2⟩:=HL.1 he;refine⟨rfl,e,h1,h2,?_,?_,(hw.trans' Y.any).trans (Ext.GX w' it _) (λ_ _ h=>h) (λi _ e=>.inl e),?_⟩
   .have bB:it<w'.heap.size:=by omega
    simp[World.GX,bB]
   .have:=(Ext.GX w' it (.mapIter (some mb) since (seen.push e.born) since)).obj (Y.obj h.map λf=>f) (λe:mb=it=>a1 e.symm);exact this
   .simp[World.GX];omega
 .rintro⟨bt,u⟩ _ aE hJ;simp only at hJ⊢;refine AV (λst w'=>w'=aE/\bt=true) ?_ ?_
  .refine AY (λht=>⟨rfl,ht⟩) (λhf=> ?_);rcases hJ with ⟨_,aV,⟨d,hR,bE⟩,hE,hS⟩|⟨ht,_⟩
   .subst bE;refine hK aE es m hE hS hR.map hR.ok λc=> ?_;split
    .rename_i hc;cases hg:aget m c with
     | none=>rfl
     | some v=>
      exfalso;obtain⟨e,he,hk,hv⟩:=h.ok.TM hg;have hs:d.contains e.born=true:=by
       cases hsc:d.contains e.born with
       | true=>rfl
       | false=>
        have:e∈leftOf es d:=HL.2 ⟨he,hsc⟩
        grind
      exact h.done e he hs c hk hc
    .rename_i hc;exact h.out c hc
   .rw[ht]at hf;cases hf
  .rintro⟨_,u⟩ _ aF ⟨rfl,a9⟩;rcases hJ with ⟨hf,_⟩|⟨_,e,he,b5,aB,aC,hE,hS⟩
   .rw[a9]at hf;cases hf
   .obtain⟨n,aZ,bZ⟩:=h.ok.QZ he;have aL:es.find? (λx:MapEntry=>x.born==e.born)=some e:=by
     rw[<-Array.find?_toList];have hb:=h.ok.born;have: ∀l:List MapEntry,(l.map (·.born)).Nodup->e∈l->l.find? (λx:MapEntry=>x.born==e.born)=some e:=by
      intro l
      induction l with
      | nil=>grind
      | cons x r ih=>grind
     grind
    refine⟨mb,since,since,seen.push e.born,es,since,e.born,e,⟨aB,aC⟩,by simp,rfl,aL,?_⟩;rw[aZ];show unV (.int .u64) (.int .u64 n) _;show sameK .u64 .u64 _;show Ao _ _ _;have bO:Ij es (seen.push e.born)<Ij es seen:=by
     unfold Ij;refine filter_lt (λx _ hx=> ?_) ⟨e,he,by grind,by simp⟩
     grind
    refine AV (λst w'=>w'=aF/\(st.1=true↔a<=n/\n<b)) ?_ ?_
    .refine AG (λh1=>⟨rfl,?_⟩) (λh1=>⟨rfl,?_⟩)
     .grind
     grind
    .rintro⟨bU,u⟩ _ O ⟨rfl,aT⟩;simp only at aT⊢;have hR:Rg it mb since a b m0 O seen es m->True:=λ_=>trivial;refine AY (λht=> ?_) (λhf=> ?_)
     .refine aX O _ hE ?_;refine Pk aC h.ok λw' aA m' aS a0 aW b3 aK bA aH bQ=> ?_;have aI:w'.heap[it]? =some (.mapIter (some mb) since (seen.push e.born) since):=aH.obj aB (λe2:it=mb=>a1 e2);refine⟨⟨⟨seen.push e.born,aA,m',⟨since,aI,.inr rfl⟩,aS,a0,?_,?_,?_⟩,hE.trans aH (λ_ _ h=>h) (λi _ e=>.inr e),by omega⟩,?_⟩
      .intro c hc;rw[aW,if_neg,h.out c hc]
       grind
      .intro c v aG;rw[aW]at aG;split at aG
       .cases aG
       .exact h.sub c v aG
      .intro x hx hs k hk;have a2:=aK.subset hx;by_cases hxb:x.born=e.born
       .-- the entry that was taken out
        obtain⟨k',aY,bY⟩:=a0.QZ hx;rw[hk]at aY;cases aY;have bF:x=e:=by
         have h1:=KF h.ok.born a2 he hxb;exact h1
        grind
       .refine h.done x a2 ?_ k hk
        grind
      .simp only[aI,aS];have:Ij aA (seen.push e.born)<=Ij es (seen.push e.born):=(aK.filter _).length_le;omega
     .have bP: ¬(a<=n/\n<b):=λh=>by grind
      refine⟨⟨⟨seen.push e.born,es,m,⟨since,aB,.inr rfl⟩,aC,h.ok,h.out,h.sub,?_⟩,hE,hS⟩,by grind⟩;intro x hx hs k hk;simp at hs;rcases hs with hs|hs
      .exact h.done x hx (by grind) k hk
      .have bF:x=e:=KF h.ok.born hx he hs
       grind
end Go.Sh

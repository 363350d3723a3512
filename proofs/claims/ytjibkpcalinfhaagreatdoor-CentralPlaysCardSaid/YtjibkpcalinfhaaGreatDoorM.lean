/- What pieces of a program do to memory: blocks, rows, maps, interval lists, resources that lie apart. No further condition. -/
import Derived.Test.YtjibkpcalinfhaaGreatDoorSh
import Derived.Below
set_option linter.all false
set_option maxRecDepth 50000
namespace Go.Sh
open Go.RowKit (Below)
structure Ext(S:Nat->Prop)(w w':World):Prop where
 os:w'.os=w.os
 tape:w'.tape=w.tape
 output:w'.output=w.output
 size:w.heap.size<=w'.heap.size
 block: ∀k,k<w.heap.size-> ¬S k->w'.heap[k]? =w.heap[k]?
def AQ:Nat->Prop:=λ_=>False
def Jq(b:Nat):Nat->Prop:=λk=>k=b
def Ext.refl(S:Nat->Prop)(w:World):Ext S w w:=⟨rfl,rfl,rfl,Nat.le_refl _,λ_ _ _=>rfl⟩
def Ext.drew(S:Nat->Prop)(w:World):Ext S w w.drew:=⟨rfl,rfl,rfl,Nat.le_refl _,λ_ _ _=>rfl⟩
def Ext.trans{S T U:Nat->Prop}{a b c:World}(h:Ext S a b)(k:Ext T b c)(j: ∀i,i<a.heap.size->S i->U i)(v: ∀i,i<a.heap.size->T i->U i):Ext U a c:=
 ⟨k.os.trans h.os,k.tape.trans h.tape,k.output.trans h.output,Nat.le_trans h.size k.size,λi d hu=>
  (k.block i (Nat.lt_of_lt_of_le d h.size) λt=>hu (v i d t)).trans (h.block i d λs=>hu (j i d s))⟩
def Ext.trans'{S:Nat->Prop}{a b c:World}(h:Ext S a b)(k:Ext S b c):Ext S a c:=h.trans k (λ_ _ s=>s) (λ_ _ s=>s)
def Ext.mono{S T:Nat->Prop}{a b:World}(h:Ext S a b)(hs: ∀i,i<a.heap.size->S i->T i):Ext T a b:=
 ⟨h.os,h.tape,h.output,h.size,λi d j=>h.block i d λs=>j (hs i d s)⟩
def Ext.any{S:Nat->Prop}{a b:World}(h:Ext AQ a b):Ext S a b:=h.mono λ_ _ f=>f.elim
def Ext.alloc(S:Nat->Prop)(w:World)(o:Obj):Ext S w (w.alloc o):=
 ⟨rfl,rfl,rfl,by simp,λk hk _=>RowKit.Below.heap_alloc w o k hk⟩
def Ext.setCell(w:World)(p:Addr)(v:Value):Ext (Jq p.block) w (w.setCell p v):=
 ⟨rfl,rfl,rfl,by simp[World.setCell],λk hk hs=>RowKit.Below.heap_setCell w p v k hs⟩
def Ext.GO(w:World)(b:Nat)(o:Obj):Ext (Jq b) w (World.GO w b o):=
 ⟨rfl,rfl,rfl,by simp[World.GO],λk hk hs=>by
  have:k≠b:=hs;simp[World.GO,Array.getElem?_setIfInBounds_ne (Ne.symm this)]⟩
def Ext.cell{S:Nat->Prop}{w w':World}(h:Ext S w w'){p:Addr}{v:Value}(d:w.cell? p=some v)(hs: ¬S p.block):w'.cell? p=some v:=by
 have j:=World.block_lt_of_cell? w p d;rw[<-d];exact World.cell?_of_block (h.block p.block j hs)
def Ext.frozen{S:Nat->Prop}{w w':World}(h:Ext S w w'){p:Addr}(d:p.block<w.heap.size)(hs: ¬S p.block):w'.frozen? p=w.frozen? p:=
 World.frozen?_of_block (h.block p.block d hs)
def Ext.obj{S:Nat->Prop}{w w':World}(h:Ext S w w'){b:Nat}{o:Obj}(d:w.heap[b]? =some o)(hs: ¬S b):w'.heap[b]? =some o:=by
 have j:b<w.heap.size:=(Array.getElem?_eq_some_iff.1 d).1;rw[h.block b j hs,d]
def Ext.below{S:Nat->Prop}{w w':World}(h:Ext S w w'){B:Nat}(d:B<=w.heap.size)(j: ∀i,S i->B<=i):Below B w w':=
 ⟨h.os,h.tape,h.output,h.size,λk hk=>h.block k (by omega) λs=>by grind⟩
def Fo{w:World}{b:Nat}{o:Obj}(h:w.heap[b]? =some o):b<w.heap.size:=(Array.getElem?_eq_some_iff.1 h).1
def AW{w:World}{b:Nat}{cs:Array Value}{t:TypeId}{f:Nat×Nat}(h:w.heap[b]? =some (.cells cs t f))(j:Nat):w.cell? ⟨b,j,none⟩=cs[j]? :=by
 simp[World.cell?,h]
def add_eq(b o n:Nat):(Addr.mk b o none).add n=⟨b,o+n,none⟩:=by
 unfold Addr.add;grind
def add_add(p:Addr)(a b:Nat):(p.add a).add b=p.add (a+b):=by
 unfold Addr.add
 grind
def add_zero(p:Addr):p.add 0=p:=by simp[Addr.add]
def Us(p:Addr)(n:Nat):(p.add n).block=p.block:=by unfold Addr.add;grind
def BV{o:Obj}{w:World}{K:Nat->World->Prop}
  (h: ∀w',w'.heap[w.heap.size]? =some o->w'.heap.size=w.heap.size+1->Ext AQ w w'->K w.heap.size w'):AL o w K:=
 h (w.alloc o) (heap_alloc_new w o) (by simp) (Ext.alloc _ w o)
structure M8(p:Addr)(v:Value)(w w':World):Prop where
 ext:Ext (Jq p.block) w w'
 same:w'.cell? p=some v
 other: ∀q:Addr,q≠p->w'.cell? q=w.cell? q
 frozen: ∀q:Addr,w'.frozen? q=w.frozen? q
 size:w'.heap.size=w.heap.size
def M9{w:World}{p:Addr}{u v:Value}(h:w.cell? p=some u):M8 p v w (w.setCell p v):=
 ⟨Ext.setCell w p v,World.cell?_setCell_same w p v h,λq d=>World.cell?_setCell_other w p q v (Ne.symm d),λq=>World.frozen?_setCell w p q v,by simp⟩
def Lb{p:Addr}{v u:Value}{w:World}{K:World->Prop}(h:w.cell? p=some u)(hf:w.frozen? p=false)(j:v.oneCell'=true)
  (d: ∀w',M8 p v w w'->K w'):stCells p 0 [v] w K:=by
 simp only[stCells,add_zero];exact⟨⟨⟨u,h⟩,hf,j⟩,d _ (M9 h)⟩
def LF{w:World}{b j:Nat}{cs:Array Value}{t:TypeId}{f:Nat×Nat}{v:Value}(h:w.heap[b]? =some (.cells cs t f)):
  (w.setCell ⟨b,j,none⟩ v).heap[b]? =some (.cells (cs.setIfInBounds j v) t f):=by
 simp[World.setCell,Array.getElem?_modify,h]
def JH{t:TypeId}: ∀(vs:List Value) (b o i:Nat) (cs:Array Value) (w:World) (K:World->Prop),w.heap[b]? =some (.cells cs t)->o+i+vs.length<=cs.size->(∀v∈vs,v.oneCell'=true)->
  (∀w',Ext (Jq b) w w'->w'.heap.size=w.heap.size->w'.heap[b]? =some (.cells (cs.toList.take (o+i)++vs++cs.toList.drop (o+i+vs.length)).toArray t)->K w')->
  stCells ⟨b,o,none⟩ i vs w K
 | [],b,o,i,cs,w,K,h,hl,ho,hK=>by
  refine hK w (Ext.refl _ _) rfl ?_;rw[h];simp
 | v::r,b,o,i,cs,w,K,h,hl,ho,hK=>by
  have J:o+i<cs.size:=by grind
  simp only[stCells,add_eq];refine⟨⟨⟨cs[o+i],by rw[AW h];grind⟩,by simp[World.frozen?,h],ho v (by simp)⟩,?_⟩;have y:=LF (j:=o+i) (v:=v) h;refine JH r b o (i+1) _ _ K y (by grind) (λu hu=>ho u (by simp[hu])) λw' he hs C=> ?_;refine hK w' ((Ext.setCell w ⟨b,o+i,none⟩ v).trans' he) (by rw[hs];simp) ?_;rw[C];congr 3;have d:o+i<cs.toList.length:=by omega
  simp only[Array.toList_setIfInBounds];rw[show o+(i+1)=o+i+1 from by omega];rw[List.take_set,List.take_succ_eq_append_getElem d,List.set_append_right _ _ (by simp;omega)];simp only[List.length_take,Nat.min_eq_left (Nat.le_of_lt d),Nat.sub_self,List.set_cons_zero,List.append_assoc,List.singleton_append,List.length_cons];congr 2;rw[List.drop_set_of_lt (by omega)]
  grind
def Ut{S:Nat->Prop}{w w':World}{b:Option Addr}{n:Nat}{l:List Value}(h:rowAt w b n l)(he:Ext S w w')(hs: ∀a,b=some a->l≠ []-> ¬S a.block):rowAt w' b n l:=by
 cases b with
 | none=>exact h
 | some a=>
  refine⟨h.1,λj v d=>he.cell (h.2 j v d) ?_⟩;rw[Us];exact hs a rfl (by intro e;grind)
structure Ie(w:World)(B t z:Nat)(s:AX)(vs:List Value):Prop where
 len:vs.length=s.len*z
 cap:s.len<=s.cap
 top:s.cap<9223372036854775808
 row:(s.base=none/\s.cap=0)∨ ∃b cs,s.base=some ⟨b,0,none⟩/\B<=b/\w.heap[b]? =some (.cells cs t)/\cs.size=s.cap*z/\cs.toList.take (s.len*z)=vs
def Ie.nil(w:World)(B t z:Nat):Ie w B t z ⟨none,0,0⟩ []:=⟨by simp,Nat.le_refl _,by decide,.inl ⟨rfl,rfl⟩⟩
def Ie.rowAt{w:World}{B t z:Nat}{s:AX}{vs:List Value}(h:Ie w B t z s vs):rowAt w s.base (s.len*z) vs:=by
 rcases h.row with ⟨h1,h2⟩|⟨b,cs,h1,h2,d,C,J⟩
 .have:s.len=0:=by have:=h.cap;omega
  have y:=h.len;rw[this]at y;rw[h1];exact List.eq_nil_of_length_eq_zero (by omega)
 .rw[h1];refine⟨h.len,λj v K=> ?_⟩;rw[add_eq,Nat.zero_add,AW d]
  grind
def Ie.ext{w w':World}{B t z:Nat}{s:AX}{vs:List Value}{S:Nat->Prop}(h:Ie w B t z s vs)(he:Ext S w w')(hs: ∀b,s.base=some ⟨b,0,none⟩-> ¬S b):Ie w' B t z s vs:=by
 refine⟨h.len,h.cap,h.top,?_⟩;rcases h.row with h1|⟨b,cs,h1,h2,d,j⟩
 .grind
 .exact .inr ⟨b,cs,h1,h2,he.obj d (hs b h1),j⟩
def Ie.lower{w:World}{B B' t z:Nat}{s:AX}{vs:List Value}(h:Ie w B t z s vs)(v:B'<=B):Ie w B' t z s vs:=by
 refine⟨h.len,h.cap,h.top,?_⟩;rcases h.row with h1|⟨b,cs,h1,h2,d,j⟩
 .grind
 grind
def Ie.lt{w:World}{B t z:Nat}{s:AX}{vs:List Value}(h:Ie w B t z s vs){a:Addr}(v:s.base=some a):B<=a.block/\a.block<w.heap.size/\a.off=0/\a.spot=none:=by
 rcases h.row with ⟨h1,_⟩|⟨b,cs,h1,h2,d,j⟩
 .grind
 grind
def PI{e z bytes:Nat}{zs:Array Value}{s x:AX}{w:World}{K:AX->World->Prop}{B:Nat}{vs news:List Value}
  (hz:zs.size=z)(d:Ie w B e z s vs)(O:rowAt w x.base (x.len*z) news)(j:news.length=x.len*z)(ho: ∀v∈news,v.oneCell'=true)(hB:B<=w.heap.size)
  (hb:(s.len+x.len)*bytes<=140737488355328)(T:s.len+x.len<=9223372036854775807)
  (Y: ∀s' w',Ie w' B e z s' (vs++news)->s'.len=s.len+x.len->Ext (λk=> ∃a,s.base=some a/\k=a.block) w w'->
   (s'.base=s.base∨ ∃b,s'.base=some ⟨b,0,none⟩/\w.heap.size<=b)->K s' w'):APP e z bytes zs s x w K:=by
 refine⟨news,O,λy=> ?_,λaB=>⟨hb,T,vs,d.rowAt,λcap J C=> ?_⟩⟩
 .rcases d.row with ⟨h1,h2⟩|⟨b,cs,h1,h2,h3,h4,h5⟩
  .have hx:x.len=0:=by omega
   have hs:s.len=0:=by omega
   rw[h1];have hn:news=[]:=List.eq_nil_of_length_eq_zero (by grind);have hv:vs=[]:=List.eq_nil_of_length_eq_zero (by rw[d.len,hs];simp);subst hn;subst hv;refine Y _ w ⟨by grind,by omega,d.top,.inl ⟨rfl,h2⟩⟩ rfl (Ext.refl _ _) (.inl h1.symm)
  .rw[h1];simp only[add_eq,Nat.zero_add];have hle:s.len*z+news.length<=cs.size:=by
    rw[j,h4,<-Nat.add_mul];exact Nat.mul_le_mul_right _ y
   refine JH news b (s.len*z) 0 cs w _ h3 (by omega) ho λw' he aK aA=> ?_;refine Y _ w' ⟨by grind,y,d.top,.inr ⟨b,_,rfl,h2,aA,?_,?_⟩⟩ rfl (he.mono λi _ hi=>⟨_,h1,hi⟩) (.inl h1.symm)
   .grind
   .simp only[Nat.add_zero];rw[h5,List.append_assoc,<-List.append_assoc,Nat.add_mul,<-j,<-d.len,<-List.length_append]
    grind
 .refine Y _ _ ⟨by simp[d.len,j,Nat.add_mul],J,C,.inr ⟨w.heap.size,_,rfl,hB,heap_alloc_new w.drew _,?_,?_⟩⟩ rfl ((Ext.drew _ w).trans' (Ext.alloc _ w.drew _)) (.inr ⟨_,rfl,Nat.le_refl _⟩)
  .simp only[Array.size_append,List.size_toArray,Builtin.zeroCells,Array.size_map,Array.size_range,d.len,j,hz];rw[<-Nat.add_mul,<-Nat.add_mul]
   grind
  .simp only[Array.toList_append,Nat.add_mul];rw[<-j,<-d.len,<-List.length_append]
   grind
def Vk{w w':World}{B t z n:Nat}{cells:List Value}(h:w'.heap[w.heap.size]? =some (.cells ⟨cells⟩ t))(d:cells.length=n*z)(j:B<=w.heap.size)(v:n<9223372036854775808):
  Ie w' B t z ⟨some ⟨w.heap.size,0,none⟩,n,n⟩ cells:=
 ⟨d,Nat.le_refl _,v,.inr ⟨_,_,rfl,j,h,by omega,by rw[<-d];simp⟩⟩
def Ll(a:Option Addr)(c z:Nat):GN a c 0 z=a:=by
 unfold GN;split
 .rfl
 .cases a<;>simp[add_zero]
def Kr{w:World}{b:Option Addr}{n m:Nat}{l:List Value}(h:rowAt w b n l)(hm:m<=n)(d:l.length=n):rowAt w b m (l.take m):=by
 cases b with
 | none=>have:l=[]:=h;grind
 | some a=>
  refine⟨by rw[List.length_take,d];omega,λj v y=>h.2 j v ?_⟩
  grind
def Ip{w:World}{b:Option Addr}{n len cap k z:Nat}{l:List Value}(h:rowAt w b n l)(K:n=len*z)(hk:k<=len)(J:len<=cap)(C:l.length=n):
  rowAt w (GN b cap k z) ((len-k)*z) (l.drop (k*z)):=by
 have hlen:(l.drop (k*z)).length=(len-k)*z:=by rw[List.length_drop,C,K,Nat.sub_mul]
 unfold GN;split
 .rename_i hck;have:len-k=0:=by omega
  rw[this]at hlen⊢;have d:l.drop (k*z)=[]:=List.eq_nil_of_length_eq_zero (by omega);rw[d];cases b with
  | none=>rfl
  | some a=>exact⟨by simp,by simp⟩
 .cases b with
  | none=>have:l=[]:=h;grind
  | some a=>
   refine⟨hlen,λj v y=> ?_⟩;rw[add_add];rw[List.getElem?_drop]at y;exact h.2 _ v y
def AI{σ:Type}{s0:σ}{w0:World}{body:σ->(Nat->Value)->World->(σ->World->Prop)->Prop}(I:σ->World->Prop)(μ:σ->World->Nat)(h0:I s0 w0)
  (h: ∀s j w,I s w->body s j w λs' w'=>I s' w'/\μ s' w'<μ s w):Az σ s0 w0 body:=⟨I,μ,h0,h⟩
def AV{σ:Type}{first:(σ->World->Prop)->Prop}{rest:σ->(Nat->Value)->World->Prop}(J:σ->World->Prop)(h1:first J)(h2: ∀s j w,J s w->rest s j w):Ai σ first rest:=⟨J,h1,h2⟩
def AS{b:Bool}{T E:Prop}(h1:b=true->T)(h2:b=false->E):CND b T E:=bU.2 ⟨h1,h2⟩
def AB{p:Prop}[Decidable p]{T E:Prop}(h1:p->T)(h2: ¬p->E):CND (decide p) T E:=
 bU.2 ⟨λh=>h1 (of_decide_eq_true h),λh=>h2 (of_decide_eq_false h)⟩
def AY{α:Type}{e:α}{K:α->Prop}(h: ∀x,x=e->K x):HX e K:=h e rfl
def SB(n:Int):u64 n=n %18446744073709551616:=by simp[u64,IntKind.wrap,IntKind.bits,IntKind.signed]
def AM{n:Int}(h0:0<=n:=by omega)(h1:n<18446744073709551616:=by omega):u64 n=n:=by rw[SB];omega
def AF{n:Int}(h0: -9223372036854775808<=n:=by omega)(h1:n<9223372036854775808:=by omega):i64 n=n:=IntWalk.i64_in n (by omega)
def Vl(a b:Int):VX a b=min a b:=by unfold VX;omega
def SC(a b:Int):Rm a b=max a b:=by unfold Rm;omega
end Go.Sh
namespace Go.Sh
abbrev Iv:=List (Int×Int)
def Ok:Iv->Prop
 | []=>True
 | p::r=>0<=p.1/\p.1<p.2/\p.2<18446744073709551616/\(∀q∈r,p.2<q.1)/\Ok r
def mem(l:Iv)(n:Int):Prop:= ∃p∈l,p.1<=n/\n<p.2
def posn:Iv->Int->Nat
 | [],_=>0
 | p::r,x=>if p.2<=x then posn r x+1 else 0
def Ig:Iv->Int
 | []=>0
 | p::r=>(p.2-p.1)+Ig r
def NA(p:Int×Int)(a b:Int):Int:=max 0 (min p.2 b-max p.1 a)
def cnt:Iv->Int->Int->Int
 | [],_,_=>0
 | p::r,a,b=>NA p a b+cnt r a b
def PJ(p:Int×Int)(a b:Int):Iv:=(if p.1<a then [(p.1,min p.2 a)]else [])++(if b<p.2 then [(max p.1 b,p.2)]else [])
def Dk:Iv->Int->Int->Iv
 | [],_,_=>[]
 | p::r,a,b=>PJ p a b++Dk r a b
def addHi(l:Iv)(i:Nat)(b:Int):Int×Nat:=match l[i]? with
 | some q=>if q.1=b then(q.2,i+1)else(b,i)
 | none=>(b,i)
def addLo(l:Iv)(i:Nat)(a:Int):Int×Nat:=match i with
 | 0=>(a,0)
 | i+1=>match l[i]? with
  | some q=>if q.2=a then(q.1,i)else(a,i+1)
  | none=>(a,i+1)
def Ro(l:Iv)(a b:Int):Iv:=
 l.take (addLo l (posn l a) a).2++[((addLo l (posn l a) a).1,(addHi l (posn l a) b).1)]++l.drop (addHi l (posn l a) b).2
def Dl(l:Iv)(a b:Int):Iv:=Ro (Dk l a b) a b
def LG: ∀(l:Iv) (x:Int),posn l x<=l.length
 | [],_=>Nat.le_refl _
 | p::r,x=>by
  unfold posn;split
  .have:=LG r x;simp;omega
  .simp
def NB: ∀(l:Iv) (x:Int) (i:Nat) (p:Int×Int),i<posn l x->l[i]? =some p->p.2<=x
 | [],x,i,p,h,_=>by simp[posn]at h
 | q::r,x,i,p,h,hp=>by
  unfold posn at h;split at h
  .rename_i hq;cases i with
   | zero=>simp at hp;subst hp;exact hq
   | succ i=>exact NB r x i p (by omega) (by grind)
  .omega
def Vm: ∀(l:Iv) (x:Int) (p:Int×Int),l[posn l x]? =some p->x<p.2
 | [],x,p,h=>by simp at h
 | q::r,x,p,h=>by
  unfold posn at h;split at h
  .exact Vm r x p (by grind)
  .simp at h;subst h;omega
def Ok.tail{p:Int×Int}{r:Iv}(h:Ok (p::r)):Ok r:=h.2.2.2.2
def Ok.get: ∀{l:Iv},Ok l-> ∀{i:Nat} {p:Int×Int},l[i]? =some p->0<=p.1/\p.1<p.2/\p.2<18446744073709551616
 | [],_,i,p,h=>by simp at h
 | q::r,h,0,p,hp=>by simp at hp;subst hp;exact⟨h.1,h.2.1,h.2.2.1⟩
 | q::r,h,i+1,p,hp=>Ok.get h.tail (by simpa using hp)
def Ok.mem: ∀{l:Iv},Ok l-> ∀{p:Int×Int},p∈l->0<=p.1/\p.1<p.2/\p.2<18446744073709551616
 | [],_,p,h=>by cases h
 | q::r,h,p,hp=>by
  rcases List.mem_cons.1 hp with rfl|hp
  .exact⟨h.1,h.2.1,h.2.2.1⟩
  .exact Ok.mem h.tail hp
def Ok.lt: ∀{l:Iv},Ok l-> ∀{i j:Nat} {p q:Int×Int},i<j->l[i]? =some p->l[j]? =some q->p.2<q.1
 | [],_,i,j,p,q,_,h,_=>by simp at h
 | r::l,h,0,j+1,p,q,_,hp,hq=>by
  simp at hp;subst hp;exact h.2.2.2.1 q (List.mem_of_getElem? (by simpa using hq))
 | r::l,h,i+1,j+1,p,q,hij,hp,hq=>Ok.lt (l:=l) (i:=i) (j:=j) h.tail (by omega) (by grind) (by grind)
 | _::_,_,_,0,_,_,hij,_,_=>by omega
def Kt{l:Iv}(h:Ok l)(x:Int){i:Nat}{p:Int×Int}(C:posn l x<=i)(hp:l[i]? =some p):x<p.2:=by
 rcases Nat.lt_or_ge (posn l x) i with d|v
 .have j:posn l x<l.length:=by grind
  have h1:=Vm l x _ (List.getElem?_eq_getElem j);have h2:=h.lt d (List.getElem?_eq_getElem j) hp;have y:=h.get hp;omega
 .have:i=posn l x:=by omega
  subst this;exact Vm l x p hp
def CM(n:Int): ¬mem [] n:=by rintro⟨p,hp,_⟩;cases hp
def mem_cons{p:Int×Int}{r:Iv}{n:Int}:mem (p::r) n↔(p.1<=n/\n<p.2)∨mem r n:=by
 constructor
 .rintro⟨q,d,h⟩;rcases List.mem_cons.1 d with rfl|d
  .omega
  .exact .inr ⟨q,d,h⟩
 .rintro(h|⟨q,d,h⟩)
  .exact⟨p,by simp,h⟩
  .exact⟨q,by simp[d],h⟩
def mem_append{l m:Iv}{n:Int}:mem (l++m) n↔mem l n∨mem m n:=by
 induction l with
 | nil=>simp[CM]
 | cons p r ih=>simp[mem_cons,ih,or_assoc]
def jE{p:Int×Int}{a b n:Int}(d:a<b):mem (PJ p a b) n↔(p.1<=n/\n<p.2)/\ ¬(a<=n/\n<b):=by
 unfold PJ;rw[mem_append];have h1:mem (if p.1<a then [(p.1,min p.2 a)]else []) n↔p.1<a/\p.1<=n/\n<min p.2 a:=by
  split<;>rename_i h<;>simp[mem_cons,CM,h]
 have h2:mem (if b<p.2 then [(max p.1 b,p.2)]else []) n↔b<p.2/\max p.1 b<=n/\n<p.2:=by
  split<;>rename_i h<;>simp[mem_cons,CM,h]
 grind
def Ek{l:Iv}{a b n:Int}(d:a<b):mem (Dk l a b) n↔mem l n/\ ¬(a<=n/\n<b):=by
 induction l with
 | nil=>simp[Dk,CM]
 | cons p r ih=>
  simp only[Dk,mem_append,mem_cons,jE d,ih]
  grind
def Fi: ∀{l m:Iv},Ok (l++m)↔Ok l/\Ok m/\ ∀p∈l,∀q∈m,p.2<q.1
 | [],m=>by simp[Ok]
 | p::r,m=>by
  simp only[List.cons_append,Ok,Fi (l:=r) (m:=m),List.mem_append,List.mem_cons]
  grind
def Q9{p q:Int×Int}{a b:Int}(j:q∈PJ p a b)(hp:p.1<p.2)(d:a<b):p.1<=q.1/\q.2<=p.2/\q.1<q.2:=by
 unfold PJ at j
 grind
def ND{l:Iv}{a b:Int}{q:Int×Int}(h:Ok l)(j:a<b)(d:q∈Dk l a b): ∃p∈l,p.1<=q.1/\q.2<=p.2/\q.1<q.2:=by
 induction l with
 | nil=>cases d
 | cons p r ih=>
  rcases List.mem_append.1 d with d|d
  .exact⟨p,by simp,Q9 d h.2.1 j⟩
  .obtain⟨C,v,y⟩:=ih h.tail d
   grind
def n8{p:Int×Int}{a b:Int}(h0:0<=p.1)(h1:p.1<p.2)(h2:p.2<18446744073709551616)(d:a<b):Ok (PJ p a b):=by
 unfold PJ;split<;>split<;>simp[Ok]<;>omega
def GX{l:Iv}{a b:Int}(h:Ok l)(d:a<b):Ok (Dk l a b):=by
 induction l with
 | nil=>trivial
 | cons p r ih=>
  simp only[Dk,Fi];refine⟨n8 h.1 h.2.1 h.2.2.1 d,ih h.tail,λq y K v=> ?_⟩;have h1:=Q9 y h.2.1 d;obtain⟨C,j,h2⟩:=ND h.tail d v;have J:=h.2.2.2.1 C j;omega
def MA(l m:Iv):Ig (l++m)=Ig l+Ig m:=by
 induction l with
 | nil=>simp[Ig]
 | cons p r ih=>simp[Ig,ih];omega
def jF{p:Int×Int}{a b:Int}(hp:p.1<p.2)(d:a<b):Ig (PJ p a b)=p.2-p.1-NA p a b:=by
 unfold PJ NA;rw[MA];split<;>split<;>simp[Ig]<;>omega
def Sr{l:Iv}{a b:Int}(h:Ok l)(d:a<b):Ig (Dk l a b)=Ig l-cnt l a b:=by
 induction l with
 | nil=>simp[Dk,Ig,cnt]
 | cons p r ih=>
  simp only[Dk,MA,Ig,cnt,ih h.tail,jF h.2.1 d];omega
def Ss{l:Iv}(h:Ok l):0<=Ig l:=by
 induction l with
 | nil=>simp[Ig]
 | cons p r ih=>have:=ih h.tail;have:=h.2.1;simp only[Ig];omega
def jG: ∀{l:Iv} (h:Ok l) (B:Int),0<=B->B<18446744073709551616->(∀p∈l,B<=p.1)->B+Ig l<18446744073709551616
 | [],_,B,h0,h1,_=>by simp only[Ig];omega
 | p::r,h,B,h0,h1,hB=>by
  have h2:=hB p (by simp);have:=jG h.tail p.2 (by have:=h.1;have:=h.2.1;omega) h.2.2.1 (λq d=>by have:=h.2.2.2.1 q d;omega);simp only[Ig];omega
def bY{l:Iv}(h:Ok l):Ig l<18446744073709551616:=by
 have:=jG h 0 (by omega) (by omega) (λp hp=>(h.mem hp).1);omega
def DM(l:Iv)(a b:Int):0<=cnt l a b:=by
 induction l with
 | nil=>simp[cnt]
 | cons p r ih=>simp only[cnt,NA];omega
def Su(l m:Iv)(a b:Int):cnt (l++m) a b=cnt l a b+cnt m a b:=by
 induction l with
 | nil=>simp[cnt]
 | cons p r ih=>simp[cnt,ih];omega
def RA: ∀{l:Iv} (h:Ok l) {a b:Int},a<=b-> ∀c:Int,a<=c->c<=b->(∀p∈l,c<=p.1)->cnt l a b<=b-c
 | [],_,a,b,hab,c,_,hc,_=>by simp[cnt];omega
 | p::r,h,a,b,hab,c,hac,hcb,hB=>by
  have h1:=hB p (by simp);simp only[cnt,NA];rcases Int.lt_or_le b p.2 with v|v
  .have:cnt r a b=0:=by
    have: ∀l:Iv,(∀q∈l,b<=q.1)->cnt l a b=0:=by
     intro l
     induction l with
     | nil=>intro _;rfl
     | cons q s ih=>
      intro d;have:=d q (by simp);have:=ih λy j=>d y (by simp[j]);simp only[cnt,NA];omega
    exact this r λq d=>by have:=h.2.2.2.1 q d;omega
   omega
  .have:=RA h.tail hab p.2 (by have:=h.2.1;omega) v (λq d=>by have:=h.2.2.2.1 q d;omega);have:=h.2.1;omega
def FF: ∀{l:Iv} (h:Ok l) {a b:Int},a<=b->cnt l a b<=b-a
 | [],_,a,b,hab=>by simp[cnt];omega
 | p::r,h,a,b,hab=>by
  have hp:=h.2.1;simp only[cnt,NA];have hz:(∀q∈r,b<=q.1)->cnt r a b=0:=by
   intro y;have: ∀l:Iv,(∀q∈l,b<=q.1)->cnt l a b=0:=by
    intro l
    induction l with
    | nil=>intro _;rfl
    | cons q s ih=>
     intro d;have:=d q (by simp);have:=ih λv j=>d v (by simp[j]);simp only[cnt,NA];omega
   grind
  rcases Int.lt_or_le p.2 a with h1|h1
  .have:=FF h.tail hab;omega
  .rcases Int.lt_or_le b p.2 with h2|h2
   .have:=hz λq d=>by have:=h.2.2.2.1 q d;omega
    omega
   .have:=RA h.tail hab p.2 h1 h2 (λq d=>by have:=h.2.2.2.1 q d;omega);omega
def Rp{l:Iv}{a b:Int}(h: ∀p∈l,p.2<=a):cnt l a b=0:=by
 induction l with
 | nil=>rfl
 | cons q s ih=>
  have:=h q (by simp);have:=ih λj d=>h j (by simp[d]);simp only[cnt,NA];omega
def Sv{l:Iv}{a b:Int}(h: ∀p∈l,b<=p.1):cnt l a b=0:=by
 induction l with
 | nil=>rfl
 | cons q s ih=>
  have:=h q (by simp);have:=ih λj d=>h j (by simp[d]);simp only[cnt,NA];omega
def NF(l m:Iv)(a b:Int):Dk (l++m) a b=Dk l a b++Dk m a b:=by
 induction l with
 | nil=>rfl
 | cons p r ih=>simp[Dk,ih]
def XL{l:Iv}{a b:Int}(d:a<b)(h: ∀p∈l,p.1<p.2/\p.2<=a):Dk l a b=l:=by
 induction l with
 | nil=>rfl
 | cons p r ih=>
  have hp:=h p (by simp);simp only[Dk,ih λq j=>h q (by simp[j])];unfold PJ
  grind
def ZX{l:Iv}{a b:Int}(d:a<b)(h: ∀p∈l,p.1<p.2/\b<=p.1):Dk l a b=l:=by
 induction l with
 | nil=>rfl
 | cons p r ih=>
  have hp:=h p (by simp);simp only[Dk,ih λq j=>h q (by simp[j])];unfold PJ
  grind
def PK{l:Iv}{a:Int}: ∀p∈l.take (posn l a),p.2<=a:=by
 intro p hp;obtain⟨i,d,rfl⟩:=List.mem_iff_getElem.1 hp;simp only[List.length_take]at d;rw[List.getElem_take];exact NB l a i _ (by omega) (List.getElem?_eq_getElem (by omega))
def ZY{l:Iv}(h:Ok l){a b:Int}(v:a<b){k:Nat}(hk:posn l a<=k)(y: ∀p,l[k]? =some p->b<=p.1):
  Dk l a b=l.take (posn l a)++Dk ((l.take k).drop (posn l a)) a b++l.drop k:=by
 have h1:l=l.take (posn l a)++(l.take k).drop (posn l a)++l.drop k:=by
  have C:l.take k=(l.take k).take (posn l a)++(l.take k).drop (posn l a):=(List.take_append_drop _ _).symm;rw[List.take_take,Nat.min_eq_left hk]at C;rw[<-C,List.take_append_drop]
 have h2:Dk (l.take (posn l a)) a b=l.take (posn l a):=XL v λp hp=>⟨(h.mem (List.mem_of_mem_take hp)).2.1,PK p hp⟩;have J:Dk (l.drop k) a b=l.drop k:=by
  refine ZX v λp hp=>⟨(h.mem (List.mem_of_mem_drop hp)).2.1,?_⟩;obtain⟨i,K,rfl⟩:=List.mem_iff_getElem.1 hp;rw[List.getElem_drop];simp only[List.length_drop]at K;have d:k<l.length:=by omega
  have T:=y _ (List.getElem?_eq_getElem d);rcases Nat.eq_zero_or_pos i with rfl|O
  .omega
  .have Y:=h.lt (i:=k) (j:=k+i) (by omega) (List.getElem?_eq_getElem d) (List.getElem?_eq_getElem (by omega));have h6:=h.get (List.getElem?_eq_getElem d);omega
 conv=>lhs;rw[h1]
 rw[NF,NF,h2,J]
def Clear(l:Iv)(a b:Int):Prop:= ∀p∈l,p.2<=a∨b<=p.1
def Sw{l:Iv}{a b:Int}(h:Ok l)(d:a<b):Clear (Dk l a b) a b:=by
 intro q j;have hm:mem (Dk l a b) q.1:=⟨q,j,by omega,((GX h d).mem j).2.1⟩;have h1:=(Ek d).1 hm;have h2:=(GX h d).mem j;rcases Int.lt_or_le q.1 a with C|y
 .left;rcases Int.lt_or_le a q.2 with v|v
  .have:mem (Dk l a b) a:=⟨q,j,by omega,v⟩;have:=((Ek d).1 this).2;omega
  .exact v
 omega
def eQ(l:Iv)(i:Nat)(n:Int):mem l n↔mem (l.take i) n∨mem (l.drop i) n:=by
 rw[<-mem_append,List.take_append_drop]
def eS{l:Iv}(h:Ok l){a b:Int}(d:Clear l a b): ∀p∈l.drop (posn l a),b<=p.1:=by
 intro p hp;obtain⟨i,j,rfl⟩:=List.mem_iff_getElem.1 hp;rw[List.getElem_drop];simp only[List.length_drop]at j;have h1:=Kt h a (i:=posn l a+i) (by omega) (List.getElem?_eq_getElem (by omega));rcases d _ (List.getElem_mem (l:=l) (n:=posn l a+i) (by omega))with h2|h2<;>omega
def Uu{l:Iv}{a b:Int}(h:Ok l)(aT:a<b)(h0:0<=a)(hb:b<18446744073709551616)(hc:Clear l a b):
  Ok (Ro l a b)/\(∀n,mem (Ro l a b) n↔mem l n∨(a<=n/\n<b))/\Ig (Ro l a b)=Ig l+(b-a):=by
 have aW:=LG l a;obtain⟨i,hi⟩: ∃i,i=posn l a:=⟨_,rfl⟩;have aF: ∀p∈l.take i,p.2<=a:=by rw[hi];exact PK
 have aE: ∀p∈l.drop i,b<=p.1:=by rw[hi];exact eS h hc
 have O:l=l.take i++l.drop i:=(List.take_append_drop i l).symm;have aD:=h;rw[O,Fi]at aD;obtain⟨C,J,aS⟩:=aD;have key: ∀(L M R N:Iv) (x y:Int),l.take i=L++M->l.drop i=N++R->x<=a->b<=y->0<=x->y<18446744073709551616->
   (∀p∈L,p.2<x)->(∀p∈R,y<p.1)->(∀n,(x<=n/\n<y)↔mem M n∨(a<=n/\n<b)∨mem N n)->y-x=Ig M+(b-a)+Ig N->
   Ro l a b=L++[(x,y)]++R->Ok (Ro l a b)/\(∀n,mem (Ro l a b) n↔mem l n∨(a<=n/\n<b))/\Ig (Ro l a b)=Ig l+(b-a):=by
  intro L M R N x y h1 h2 hx hy aX aY hl hr aG aR he;rw[he];rw[h1]at C;rw[h2]at J;rw[Fi]at C J;refine⟨?_,λn=> ?_,?_⟩
  .rw[Fi,Fi];refine⟨⟨C.1,?_,?_⟩,J.2.1,?_⟩
   .simp only[Ok];grind
   .grind
   grind
  .rw[mem_append,mem_append,eQ l i n,h1,h2,mem_append,mem_append];simp only[mem_cons,CM,or_false];rw[aG n];constructor
   .grind
   grind
  .have e1:=MA (l.take i) (l.drop i);rw[List.take_append_drop]at e1;rw[e1,h1,h2];simp only[MA,Ig];omega
 have aJ:(∃q R,l.drop i=q::R/\q.1=b/\addHi l i b=(q.2,i+1)/\l.drop (i+1)=R)∨((∀p∈l.drop i,b<p.1)/\addHi l i b=(b,i)):=by
  unfold addHi;rcases Nat.lt_or_ge i l.length with v|aV
  .have hg:=List.getElem?_eq_getElem v;rw[hg];have hd:l.drop i=l[i]::l.drop (i+1):=List.drop_eq_getElem_cons v;by_cases T:l[i].1=b
   .grind
   .refine .inr ⟨?_,by simp[T]⟩;intro p hp;rw[hd]at hp;have aH:b<=l[i].1:=aE _ (by grind);rcases List.mem_cons.1 hp with rfl|hp
    .omega
    .have h2:=J;rw[hd]at h2;have:=h2.2.2.2.1 p hp;have:=h2.2.1;omega
  grind
 have aL:(∃q L,l.take i=L++[q]/\q.2=a/\addLo l i a=(q.1,i-1)/\l.take (i-1)=L)∨((∀p∈l.take i,p.2<a)/\addLo l i a=(a,i)):=by
  unfold addLo;cases i with
  | zero=>grind
  | succ j=>
   have v:j<l.length:=by omega
   have hg:=List.getElem?_eq_getElem v;simp only[hg];have ht:l.take (j+1)=l.take j++[l[j]]:=List.take_succ_eq_append_getElem v;by_cases T:l[j].2=a
   .grind
   .refine .inr ⟨?_,by simp[T]⟩;intro p hp;have aH:l[j].2<=a:=aF _ (by rw[ht];exact List.mem_append_right _ List.mem_cons_self);rw[ht]at hp;rcases List.mem_append.1 hp with hp|hp
    .have h2:=C;rw[ht,Fi]at h2;have:=h2.2.2 p hp l[j] (by simp);have:=h2.2.1.2.1;omega
    .simp at hp;grind
 have d:Ro l a b=l.take (addLo l i a).2++[((addLo l i a).1,(addHi l i b).1)]++l.drop (addHi l i b).2:=by rw[hi];rfl
 rcases aL with ⟨q,L,h1,h2,h3,h4⟩|⟨h1,h3⟩<;>rcases aJ with ⟨q',R,K,h6,h7,h8⟩|⟨K,h7⟩
 .rw[h3,h7]at d;simp only[h4,h8]at d;have T:q∈l.take i:=by rw[h1];simp
  have Y:q'∈l.drop i:=by rw[K];simp
  have g1:=C.mem T;have g2:=J.mem Y;refine key L [q] R [q'] q.1 q'.2 h1 K (by omega) (by omega) (by omega) (by omega) ?_ ?_ ?_ ?_ d
  .rw[h1,Fi]at C;intro p hp;exact C.2.2 p hp q (by simp)
  .rw[K]at J;exact J.2.2.2.1
  .intro n;simp only[mem_cons,CM,or_false];omega
  .simp only[Ig];omega
 .rw[h3,h7]at d;simp only[h4]at d;have T:q∈l.take i:=by rw[h1];simp
  have g1:=C.mem T;refine key L [q] (l.drop i) [] q.1 b h1 rfl (by omega) (by omega) (by omega) hb ?_ K ?_ ?_ d
  .rw[h1,Fi]at C;intro p hp;exact C.2.2 p hp q (by simp)
  .intro n;simp only[mem_cons,CM,or_false];omega
  .simp only[Ig];omega
 .rw[h3,h7]at d;simp only[h8]at d;have Y:q'∈l.drop i:=by rw[K];simp
  have g2:=J.mem Y;refine key (l.take i) [] R [q'] a q'.2 (by simp) K (by omega) (by omega) h0 (by omega) h1 ?_ ?_ ?_ d
  .rw[K]at J;exact J.2.2.2.1
  .intro n;simp only[mem_cons,CM,or_false,false_or];omega
  .simp only[Ig];omega
 .rw[h3,h7]at d;refine key (l.take i) [] (l.drop i) [] a b (by simp) rfl (by omega) (by omega) h0 hb h1 K ?_ ?_ d
  .intro n;simp only[CM,or_false,false_or]
  .simp only[Ig];omega
def FG{l:Iv}{a b:Int}(h:Ok l)(d:a<b)(h0:0<=a)(v:b<18446744073709551616):
  Ok (Dl l a b)/\(∀n,mem (Dl l a b) n↔mem l n∨(a<=n/\n<b))/\Ig (Dl l a b)=Ig l-cnt l a b+(b-a):=by
 obtain⟨h1,h2,j⟩:=Uu (GX h d) d h0 v (Sw h d);refine⟨h1,λn=> ?_,by rw[Dl,j,Sr h d]⟩;rw[Dl,h2,Ek d]
 grind
def Sx{α:Type}{l:List α}{k:Nat}{x:α}(h:l[k]? =some x):l.drop k=x::l.drop (k+1):=by
 obtain⟨d,rfl⟩:=List.getElem?_eq_some_iff.1 h;exact List.drop_eq_getElem_cons d
def jH{p:Int×Int}{a m b:Int}(hp:p.1<p.2)(h1:a<=m)(h2:m<=b):NA p a b=NA p a m+NA p m b:=by
 unfold NA;omega
def Np: ∀{l:Iv},(∀p∈l,p.1<p.2)-> ∀{a m b:Int},a<=m->m<=b->cnt l a b=cnt l a m+cnt l m b
 | [],_,a,m,b,_,_=>rfl
 | p::r,h,a,m,b,h1,h2=>by
  simp only[cnt];rw[Np (λq d=>h q (List.mem_cons_of_mem _ d)) h1 h2,jH (h p List.mem_cons_self) h1 h2];omega
def SD: ∀{l:Iv},(∀p∈l,p.1<p.2)-> ∀{a:Int},0<cnt l a (a+1)↔mem l a
 | [],_,a=>by simp[cnt,mem]
 | p::r,h,a=>by
  have j:=SD (l:=r) (λq d=>h q (List.mem_cons_of_mem _ d)) (a:=a);have h0:=DM r a (a+1);have hp:=h p List.mem_cons_self;rw[mem_cons,<-j];simp only[cnt];unfold NA;omega
def El{l:Iv}(h:Ok l){a b:Int}(j:a<=b):cnt l a b=b-a↔ ∀n,a<=n->n<b->mem l n:=by
 have d: ∀p∈l,p.1<p.2:=λp hp=>(h.mem hp).2.1;obtain⟨k,hk⟩: ∃k:Nat,b=a+k:=⟨(b-a).toNat,by omega⟩;subst hk
 induction k with
 | zero=>
  have h1:=FF h (a:=a) (b:=a+(0:Nat)) j;have h2:=DM l a (a+(0:Nat))
  grind
 | succ k y=>
  have y:=y (by omega);have e:=Np d (a:=a) (m:=a+(k:Nat)) (b:=a+((k+1:Nat):Int)) (by omega) (by omega);have h1:=FF h (a:=a) (b:=a+(k:Nat)) (by omega);have h2:=FF h (a:=a+(k:Nat)) (b:=a+(k:Nat)+1) (by omega);have v:=SD d (a:=a+(k:Nat))
  grind
def Ok.jI{l:Iv}(h:Ok l): ∀p∈l,p.1<p.2:=λp hp=>(h.mem hp).2.1
def Dn{l:Iv}(h:Ok l){a b:Int}(d:a<=b):cnt l a b=0↔ ∀n,a<=n->n<b-> ¬mem l n:=by
 obtain⟨k,hk⟩: ∃k:Nat,b=a+k:=⟨(b-a).toNat,by omega⟩;subst hk
 induction k with
 | zero=>
  have h1:=FF h (a:=a) (b:=a+(0:Nat)) d;have h2:=DM l a (a+(0:Nat))
  grind
 | succ k v=>
  have v:=v (by omega);have e:=Np h.jI (a:=a) (m:=a+(k:Nat)) (b:=a+((k+1:Nat):Int)) (by omega) (by omega);have h1:=DM l a (a+(k:Nat));have h2:=DM l (a+(k:Nat)) (a+(k:Nat)+1);have j:=SD h.jI (a:=a+(k:Nat))
  grind
def ER{l:Iv}(h:Ok l){a b:Int}(d:a<b)(h0:0<=a)(j:b<18446744073709551616)(n:Int):mem (Dl l a b) n↔mem l n∨(a<=n/\n<b):=
 (FG h d h0 j).2.1 n
def SE{l:Iv}(h:Ok l){n:Int}(hm:mem l n):0<=n:=by
 obtain⟨p,hp,h1,h2⟩:=hm;have:=(h.mem hp).1;omega
def bZ{l:Iv}(h:Ok l): ∀{a b:Int},a<b->(∀n,a<=n->n<b->mem l n)-> ∃q∈l,q.1<=a/\b<=q.2:=by
 induction l with
 | nil=>intro a b d hm;exact absurd (hm a (Int.le_refl _) d) (CM _)
 | cons p r ih=>
  intro a b d hm;by_cases h1:p.1<=a/\a<p.2
  .by_cases h2:b<=p.2
   .grind
   .have j:=hm p.2 (by omega) (by omega);rcases mem_cons.1 j with v|⟨q,j,v,y⟩
    .omega
    .have:=h.2.2.2.1 q j;omega
  .have C: ∀n,a<=n->n<b->mem r n:=by
    intro n J K;rcases mem_cons.1 (hm n J K)with v|v
    .exfalso;have O:=hm a (Int.le_refl _) d;rcases mem_cons.1 O with y|⟨q,j,y,T⟩
     .exact h1 y
     .have:=h.2.2.2.1 q j;omega
    .exact v
   obtain⟨q,j,v⟩:=ih h.tail d C
   grind
def JI{l:Iv}(h:Ok l){a k:Int}(hk:a<=k):(mem l k->cnt l a (k+1)=cnt l a k+1)/\(¬mem l k->cnt l a (k+1)=cnt l a k):=by
 have h1:=Np (Ok.jI h) hk (show k<=k+1 by omega);have h2:=SD (Ok.jI h) (a:=k);have d:=FF h (show k<=k+1 by omega);have j:=DM l k (k+1)
 grind
def Nq: ∀{l:Iv},(∀p∈l,p.1<p.2)-> ∀{a b:Int},(∀n,mem l n->a<=n/\n<b)->cnt l a b=Ig l
 | [],_,a,b,_=>rfl
 | p::r,h,a,b,hin=>by
  have hp:=h p List.mem_cons_self;have h1:=hin p.1 (mem_cons.2 (.inl ⟨by omega,hp⟩));have h2:=hin (p.2-1) (mem_cons.2 (.inl ⟨by omega,by omega⟩));have v:=Nq (l:=r) (λq j=>h q (List.mem_cons_of_mem _ j)) (a:=a) (b:=b) λn d=>hin n (mem_cons.2 (.inr d));simp only[cnt,Ig,NA,v];omega
def aget:List (Int×Value)->Int->Option Value
 | [],_=>none
 | p::r,n=>if p.1=n then some p.2 else aget r n
structure MapI(k:IntKind)(es:Array MapEntry)(clock:Nat)(m:List (Int×Value)):Prop where
 keys:es.toList.map (λe=>(e.key,e.val))=m.map (λp=>(Value.int k p.1,p.2))
 nodup:(m.map (·.1)).Nodup
 born:(es.toList.map (·.born)).Nodup
 lt: ∀e∈es.toList,e.born<clock
def MapI.empty(k:IntKind):MapI k #[] 0 []:=⟨rfl,by simp,by simp,by simp⟩
def XM(k:IntKind)(a b:Int):Instr.sameNow (.int k) (.int k a) (.int k b)=some (a==b):=by simp[Instr.sameNow]
def PL(k:IntKind)(n:Int): ∀(es:List MapEntry) (m:List (Int×Value)) (i:Nat),es.map (λe=>(e.key,e.val))=m.map (λp=>(Value.int k p.1,p.2))->
  ∃res,Instr.findNow (.int k) (.int k n) es i=some res/\
   ((res=none/\aget m n=none)∨ ∃j v,res=some (i+j,v)/\aget m n=some v/\m[j]? =some (n,v)/\j<es.length)
 | [],[],i,_=>⟨none,rfl,.inl ⟨rfl,rfl⟩⟩
 | [],_::_,i,h=>by simp at h
 | _::_,[],i,h=>by simp at h
 | e::r,p::m,i,h=>by
  simp only[List.map_cons,List.cons.injEq,Prod.mk.injEq]at h;obtain⟨⟨hk,J⟩,C⟩:=h;simp only[Instr.findNow,hk,XM];by_cases hn:n=p.1
  .subst hn;simp only[beq_self_eq_true];refine⟨_,rfl,.inr ⟨0,p.2,by simp[J],by simp[aget],by simp,by simp⟩⟩
  .have:(n==p.1)=false:=by simp[hn]
   simp only[this];obtain⟨res,h1,h2⟩:=PL k n r m (i+1) C;refine⟨res,h1,?_⟩;rcases h2 with ⟨d,y⟩|⟨j,v,d,y,K,O⟩
   .exact .inl ⟨d,by simp[aget,Ne.symm hn,y]⟩
   .refine .inr ⟨j+1,v,by rw[d];grind,by simp[aget,Ne.symm hn,y],by grind,by simp;omega⟩
def MapI.find{k:IntKind}{es:Array MapEntry}{c:Nat}{m:List (Int×Value)}(h:MapI k es c m)(n:Int):
  ∃res,Mg k n es res/\((res=none/\aget m n=none)∨ ∃j v,res=some (j,v)/\aget m n=some v/\m[j]? =some (n,v)/\j<es.size):=by
 obtain⟨res,h1,h2⟩:=PL k n es.toList m 0 h.keys;refine⟨res,h1,?_⟩
 grind
def Lm{k:IntKind}{n:Int}{b:Nat}{w:World}{z:Value}{K:Value->Bool->Array MapEntry->Prop}{es:Array MapEntry}{c:Nat}{m:List (Int×Value)}
  (C:w.heap[b]? =some (.map es c))(h:MapI k es c m)(d:K ((aget m n).getD z) (aget m n).isSome es):jA k n (some b) w z K:=by
 obtain⟨res,h1,h2⟩:=h.find n;refine⟨es,res,⟨c,C⟩,h1,?_⟩;rcases h2 with ⟨rfl,y⟩|⟨j,v,rfl,y,_⟩
 .rw[y]at d;exact d
 .rw[y]at d;exact d
def Ln{m:List (Int×Value)}{n:Int}{q:List (Int×Value)}(h:aget m n=none):aget (m++q) n=aget q n:=by
 induction m with
 | nil=>rfl
 | cons p r ih=>
  simp only[aget]at h;split at h
  .cases h
  .rename_i hp;simp[aget,hp,ih h]
def OI{m:List (Int×Value)}{n:Int}:aget m n=none↔n∉m.map (·.1):=by
 induction m with
 | nil=>simp[aget]
 | cons p r ih=>
  simp only[aget,List.map_cons,List.mem_cons,not_or]
  grind
def QW{m q:List (Int×Value)}{n:Int}{v:Value}(h:aget m n=some v):aget (m++q) n=some v:=by
 induction m with
 | nil=>cases h
 | cons p r ih=>
  simp only[aget]at h;by_cases hp:p.1=n
  .rw[if_pos hp]at h;simp[aget,hp,h]
  .rw[if_neg hp]at h;simp[aget,hp,ih h]
def jJ{m:List (Int×Value)}{n:Int}{v:Value}{j:Nat}{u:Value}(d:m[j]? =some (n,u))(C:(m.map (·.1)).Nodup):
  (∀i,aget (m.set j (n,v)) i=if i=n then some v else aget m i)/\(m.set j (n,v)).map (·.1)=m.map (·.1):=by
 induction m generalizing j with
 | nil=>simp at d
 | cons p r ih=>
  cases j with
  | zero=>
   simp at d;subst d;refine⟨λi=> ?_,by simp⟩;simp only[List.set_cons_zero,aget]
   grind
  | succ j=>
   simp only[List.map_cons,List.nodup_cons]at C;obtain⟨h1,h2⟩:=ih (by simpa using d) C.2;have y:n∈r.map (·.1):=List.mem_map.2 ⟨_,List.mem_of_getElem? (by simpa using d),rfl⟩;have J:p.1≠n:=λe=>C.1 (e▸y);refine⟨λi=> ?_,by grind⟩;simp only[List.set_cons_succ,aget,h1]
   grind
def MapI.put{k:IntKind}{es:Array MapEntry}{c:Nat}{m:List (Int×Value)}(h:MapI k es c m)(n:Int)(v:Value){res:Option (Nat×Value)}(hf:Mg k n es res):
  ∃d T m',mapPut es c (.int k n) v res= .map d T/\MapI k d T m'/\(∀i,aget m' i=if i=n then some v else aget m i)/\m'.length<=m.length+1/\
   (aget m n=none->m'.length=m.length+1)/\(aget m n≠none->m'.length=m.length):=by
 obtain⟨C,h1,h2⟩:=h.find n;have:C=res:=by unfold Mg at h1 hf;rw[h1]at hf;exact Option.some.inj hf
 subst this;rcases h2 with ⟨rfl,J⟩|⟨j,u,rfl,J,Y,h5⟩
 .refine⟨_,_,m++[(n,v)],rfl,⟨?_,?_,?_,?_⟩,λi=> ?_,by simp,by simp,λh=>absurd J h⟩
  .simp[h.keys]
  .rw[List.map_append,List.nodup_append];refine⟨h.nodup,by simp,λa O b K=> ?_⟩;simp at K;subst K;intro e;subst e;exact OI.1 J O
  .simp only[Array.toList_push,List.map_append,List.nodup_append];refine⟨h.born,by simp,λa O b K=> ?_⟩;simp at K;obtain⟨e,he,rfl⟩:=List.mem_map.1 O;have:=h.lt e he;omega
  .intro e he;simp only[Array.toList_push,List.mem_append,List.mem_singleton]at he;rcases he with he|rfl
   .have:=h.lt e he;omega
   .simp
  .by_cases y:i=n
   .subst y;rw[if_pos rfl,Ln J];simp[aget]
   .rw[if_neg y];cases hg:aget m i with
    | none=>rw[Ln hg];simp[aget,Ne.symm y]
    | some u=>exact QW hg
 .obtain⟨g1,g2⟩:=jJ (v:=v) Y h.nodup;refine⟨_,_,m.set j (n,v),rfl,⟨?_,by rw[g2];exact h.nodup,?_,?_⟩,g1,by simp,(λh=>by grind),λ_=>by simp⟩
  .apply List.ext_getElem?;intro i;have hk:=congrArg (λl=>l[i]?) h.keys
   grind
  .have:(es.modify j λe=>{e with key:=.int k n,val:=v}).toList.map (·.born)=es.toList.map (·.born):=by
    apply List.ext_getElem?
    grind
   rw[this];exact h.born
  .intro e he;obtain⟨i,y,rfl⟩:=List.mem_iff_getElem.1 he;simp only[Array.getElem_toList,Array.getElem_modify];have aA:i<es.size:=by simpa using y
   split
   .exact h.lt es[i] (by simp)
   .exact h.lt es[i] (by simp)
def Sy{k:IntKind}{n:Int}{v:Value}{b:Nat}{w:World}{K:World->Prop}{es:Array MapEntry}{c:Nat}{m:List (Int×Value)}
  (C:w.heap[b]? =some (.map es c))(h:MapI k es c m)
  (hK: ∀w' d j m',w'.heap[b]? =some (.map d j)->MapI k d j m'->(∀i,aget m' i=if i=n then some v else aget m i)->m'.length<=m.length+1->
   (aget m n=none->m'.length=m.length+1)->(aget m n≠none->m'.length=m.length)->Ext (Jq b) w w'->w'.heap.size=w.heap.size->K w'):Ve k n v (some b) w K:=by
 obtain⟨res,h1,_⟩:=h.find n;refine⟨b,es,c,res,rfl,C,h1,?_⟩;obtain⟨d,j,m',h2,J,O,T,Y,h7⟩:=h.put n v h1;rw[h2];have y:=Fo C;exact hK _ d j m' (by simp[World.GO,y]) J O T Y h7 (Ext.GO w b _) (by simp[World.GO])
def IN{α β:Type}(f:α->β): ∀(l:List α) (j:Nat),(l.eraseIdx j).map f=(l.map f).eraseIdx j
 | [],j=>by simp
 | x::r,0=>by simp
 | x::r,j+1=>by simp[IN f r j]
def ZZ{m:List (Int×Value)}{n:Int}{j:Nat}{u:Value}(v:m[j]? =some (n,u))(y:(m.map (·.1)).Nodup):
  (∀i,aget (m.eraseIdx j) i=if i=n then none else aget m i)/\((m.eraseIdx j).map (·.1)).Nodup:=by
 refine⟨?_,?_⟩
 .induction m generalizing j with
  | nil=>simp at v
  | cons p r ih=>
   simp only[List.map_cons,List.nodup_cons]at y;cases j with
   | zero=>
    simp at v;subst v;intro i;simp only[List.eraseIdx_cons_zero,aget];by_cases h:n=i
    .subst h;simp;exact OI.2 y.1
    grind
   | succ j=>
    have d:n∈r.map (·.1):=List.mem_map.2 ⟨_,List.mem_of_getElem? (by simpa using v),rfl⟩;have C:p.1≠n:=λe=>y.1 (e▸d);intro i;simp only[List.eraseIdx_cons_succ,aget]
    grind
 grind
def MapI.del{k:IntKind}{es:Array MapEntry}{c:Nat}{m:List (Int×Value)}(h:MapI k es c m)(n:Int){res:Option (Nat×Value)}(hf:Mg k n es res):
  ∃d m',Vd es c res= .map d c/\MapI k d c m'/\(∀i,aget m' i=if i=n then none else aget m i)/\m'.length<=m.length/\d.toList.Sublist es.toList/\
   (∀e∈es.toList,e.key≠ .int k n->e∈d.toList):=by
 obtain⟨v,h1,h2⟩:=h.find n;have:v=res:=by unfold Mg at h1 hf;rw[h1]at hf;exact Option.some.inj hf
 subst this;rcases h2 with ⟨rfl,C⟩|⟨j,u,rfl,C,J,T⟩
 .refine⟨es,m,rfl,h,λi=> ?_,Nat.le_refl _,List.Sublist.refl _,λ_ h _=>h⟩
  grind
 .obtain⟨g1,g2⟩:=ZZ J h.nodup;have he:(es.eraseIdxIfInBounds j).toList=es.toList.eraseIdx j:=by simp
  refine⟨_,m.eraseIdx j,rfl,⟨?_,g2,?_,?_⟩,g1,List.length_eraseIdx_le _ _,?_,?_⟩
  .rw[he,IN,IN,h.keys]
  .rw[he,IN];exact h.born.sublist (List.eraseIdx_sublist _ _)
  .intro e hm;rw[he]at hm;exact h.lt e (List.mem_of_mem_eraseIdx hm)
  .grind
  .intro e hm hk;rw[he,List.mem_eraseIdx_iff_getElem?];obtain⟨i,K⟩:=List.mem_iff_getElem?.1 hm;refine⟨i,?_,K⟩;intro y;subst y;have O:=congrArg (λl=>l[i]?) h.keys
   grind
def Od{k:IntKind}{n:Int}{b:Nat}{w:World}{K:World->Prop}{es:Array MapEntry}{c:Nat}{m:List (Int×Value)}
  (v:w.heap[b]? =some (.map es c))(h:MapI k es c m)
  (Y: ∀w' d m',w'.heap[b]? =some (.map d c)->MapI k d c m'->(∀i,aget m' i=if i=n then none else aget m i)->m'.length<=m.length->d.toList.Sublist es.toList->
   (∀e∈es.toList,e.key≠ .int k n->e∈d.toList)->Ext (Jq b) w w'->w'.heap.size=w.heap.size->K w'):MDEL k n (some b) w K:=by
 obtain⟨res,h1,_⟩:=h.find n;refine⟨es,c,res,v,h1,?_⟩;obtain⟨d,m',h2,y,C,J,O,T⟩:=h.del n h1;rw[h2];have j:=Fo v;exact Y _ d m' (by simp[World.GO,j]) y C J O T (Ext.GO w b _) (by simp[World.GO])
def MapI.PM{k:IntKind}{es:Array MapEntry}{c:Nat}{m:List (Int×Value)}(h:MapI k es c m){e:MapEntry}(he:e∈es.toList):
  ∃n,e.key= .int k n/\aget m n=some e.val:=by
 obtain⟨i,j⟩:=List.mem_iff_getElem?.1 he;have d:=congrArg (λl=>l[i]?) h.keys;simp only[List.getElem?_map,j,Option.map_some]at d;cases hm:m[i]? with
 | none=>grind
 | some p=>
  rw[hm]at d;simp only[Option.map_some,Option.some.injEq,Prod.mk.injEq]at d;refine⟨p.1,d.1,?_⟩;have: ∀(m:List (Int×Value)) (i:Nat),(m.map (·.1)).Nodup->m[i]? =some p->aget m p.1=some p.2:=by
   intro m
   induction m with
   | nil=>grind
   | cons q r ih=>
    intro i y j;simp only[List.map_cons,List.nodup_cons]at y;cases i with
    | zero=>simp at j;subst j;simp[aget]
    | succ i=>
     have v:p.1∈r.map (·.1):=List.mem_map.2 ⟨_,List.mem_of_getElem? (by simpa using j),rfl⟩;have C:q.1≠p.1:=λe=>y.1 (e▸v);simp[aget,C,ih i y.2 (by grind)]
  rw[this m i h.nodup hm,d.2]
def MapI.SF{k:IntKind}{es:Array MapEntry}{c:Nat}{m:List (Int×Value)}(h:MapI k es c m){n:Int}{v:Value}(y:aget m n=some v):
  ∃e∈es.toList,e.key= .int k n/\e.val=v:=by
 obtain⟨res,h1,h2⟩:=h.find n;rcases h2 with ⟨_,d⟩|⟨j,u,rfl,d,C,J⟩
 .grind
 .rw[d]at y;cases y;obtain⟨e,he,hk,K⟩:=L6 k n es.toList 0 j _ h1
  grind
def PN(s:AX):Nat->Prop:=λk=> ∃a,s.base=some a/\k=a.block
structure Pr where
 holds:(Nat->Prop)->World->Prop
 loc: ∀{D:Nat->Prop} {w w':World} {S:Nat->Prop},holds D w->Ext S w w'->(∀k,D k-> ¬S k)->holds D w'
 lt: ∀{D:Nat->Prop} {w:World} {k:Nat},holds D w->D k->k<w.heap.size
def Lc:List Pr->(Nat->Prop)->World->Prop
 | [],D,_=> ∀k,¬D k
 | P::Ps,D,w=> ∃d j,P.holds d w/\Lc Ps j w/\(∀k,d k-> ¬j k)/\ ∀k,D k↔d k∨j k
def Sat(Ps:List Pr)(w:World):Prop:= ∃D,Lc Ps D w
def Lc.loc: ∀{Ps:List Pr} {D:Nat->Prop} {w w':World} {S:Nat->Prop},Lc Ps D w->Ext S w w'->(∀k,D k-> ¬S k)->Lc Ps D w'
 | [],_,_,_,_,h,_,_=>h
 | P::Ps,D,w,w',S,⟨D1,D2,h1,h2,hd,hD⟩,he,hS=>⟨D1,D2,P.loc h1 he λk hk=>hS k ((hD k).2 (.inl hk)),h2.loc he λk hk=>hS k ((hD k).2 (.inr hk)),hd,hD⟩
def Lc.lt: ∀{Ps:List Pr} {D:Nat->Prop} {w:World} {k:Nat},Lc Ps D w->D k->k<w.heap.size
 | [],_,_,_,h,hk=>(h _ hk).elim
 | P::Ps,D,w,k,⟨D1,D2,h1,h2,hd,d⟩,hk=>by
  rcases(d k).1 hk with h|h
  .exact P.lt h1 h
  .exact h2.lt h
def Lc.append: ∀{Ps C:List Pr} {D:Nat->Prop} {w:World},Lc (Ps++C) D w↔ ∃j d,Lc Ps j w/\Lc C d w/\(∀k,j k-> ¬d k)/\ ∀k,D k↔j k∨d k
 | [],C,D,w=>by
  constructor
  .intro h;exact⟨λ_=>False,D,λ_ f=>f,h,λ_ f=>f.elim,λk=>by simp⟩
  .rintro⟨j,d,h1,h2,_,J⟩;have:D=d:=by
    funext k;have:=J k;simp[h1 k]at this
    grind
   grind
 | P::Ps,C,D,w=>by
  constructor
  .rintro⟨j,d,h1,h2,hd,J⟩;obtain⟨v,y,g1,g2,O,K⟩:=Lc.append.1 h2;refine⟨λk=>j k∨v k,y,⟨j,v,h1,g1,λk hk he=>hd k hk ((K k).2 (.inl he)),λk=>Iff.rfl⟩,g2,?_,?_⟩
   .grind
   grind
  .rintro⟨j,d,⟨v,y,h1,h2,hd,J⟩,g2,O,K⟩;refine⟨v,λk=>y k∨d k,h1,Lc.append.2 ⟨y,d,h2,g2,λk hk=>O k ((J k).2 (.inr hk)),λk=>Iff.rfl⟩,?_,?_⟩
   .grind
   grind
def Lc.perm{Ps C:List Pr}(h:Ps.Perm C): ∀{D:Nat->Prop} {w:World},Lc Ps D w->Lc C D w:=by
 induction h with
 | nil=>grind
 | cons P _ ih=>
  rintro D w ⟨d,v,h1,h2,j⟩;exact⟨d,v,h1,ih h2,j⟩
 | swap P Q l=>
  rintro D w ⟨d,v,h1,⟨J,y,j,O,hd,T⟩,K,Y⟩;refine⟨J,λk=>d k∨y k,j,⟨d,y,h1,O,λk hk he=>K k hk ((T k).2 (.inr he)),λk=>Iff.rfl⟩,?_,?_⟩
  .grind
  grind
 | trans _ _ ih1 ih2=>grind
def Sat.perm{Ps d:List Pr}{w:World}(h:Sat Ps w)(hp:Ps.Perm d):Sat d w:=let⟨D,h⟩:=h;⟨D,h.perm hp⟩
def C0{α:Type}: ∀{l:List α} {i:Nat} {x:α},l[i]? =some x->l.Perm (x::l.eraseIdx i)
 | [],i,x,h=>by simp at h
 | y::l,0,x,h=>by simp at h;subst h;exact .refl _
 | y::l,i+1,x,h=>by
  have:=C0 (l:=l) (i:=i) (x:=x) (by grind);exact(this.cons y).trans (.swap x y _)
def QX{α:Type}: ∀{l:List α} {i:Nat} {x:α},i<l.length->(x::l.eraseIdx i).Perm (l.set i x)
 | [],i,x,h=>by simp at h
 | y::l,0,x,h=>.refl _
 | y::l,i+1,x,h=>by
  have:=QX (l:=l) (i:=i) (x:=x) (by simpa using h);exact(List.Perm.swap y x _).trans (this.cons y)
section
variable{Ps F:List Pr}{P P':Pr}{w w':World}
def Sat.front(i:Nat)(H:Sat Ps w)(d:Ps[i]? =some P):Sat (P::Ps.eraseIdx i) w:=H.perm (C0 d)
def Sat.back(i:Nat)(H:Sat (P'::Ps.eraseIdx i) w)(d:i<Ps.length:=by simp):Sat (Ps.set i P') w:=H.perm (QX d)
def Sat.nothing(H:Sat Ps w)(he:Ext AQ w w'):Sat Ps w':=let⟨D,h⟩:=H;⟨D,h.loc he λ_ _ f=>f⟩
def Sat.drew(H:Sat Ps w):Sat Ps w.drew:=H.nothing (Ext.drew _ w)
def Sat.tail(H:Sat (P::F) w):Sat F w:=let⟨_,_,D2,_,h,_⟩:=H;⟨D2,h⟩
def Sat.head(H:Sat (P::F) w): ∃D,P.holds D w:=let⟨_,D1,_,h,_⟩:=H;⟨D1,h⟩
def Sat.step(H:Sat (P::F) w): ∃D,P.holds D w/\ ∀w' d P',Ext D w w'->P'.holds d w'->(∀k,d k->D k∨w.heap.size<=k)->Sat (P'::F) w':=by
 obtain⟨D,j,v,h1,h2,hd,K⟩:=H;refine⟨j,h1,λw' d P' he C J=>⟨_,d,v,C,h2.loc he λk hk h=>hd k h hk,λk hk h=> ?_,λk=>Iff.rfl⟩⟩;rcases J k hk with y|y
 .grind
 .have:=h2.lt h;omega
def Sat.new(H:Sat F w){D:Nat->Prop}(he:Ext AQ w w')(j:P.holds D w')(v: ∀k,D k->w.heap.size<=k):Sat (P::F) w':=by
 obtain⟨d,h2⟩:=H;refine⟨_,D,d,j,h2.loc he λ_ _ f=>f,λk hk h=> ?_,λk=>Iff.rfl⟩;have h1:=v k hk;have:=h2.lt h;omega
end
def Old(w0:World):Pr where
 holds D w:=(∀k,D k↔k<w0.heap.size)/\Ext AQ w0 w
 loc h he hS:=⟨h.1,h.2.trans he (λ_ _ f=>f) λi d hs=>hS i ((h.1 i).2 d) hs⟩
 lt h hk:=by have h1:=(h.1 _).1 hk;have:=h.2.size;omega
def Sat.start(w:World):Sat [Old w] w:=⟨_,λk=>k<w.heap.size,λ_=>False,⟨λ_=>Iff.rfl,Ext.refl _ _⟩,λ_ f=>f,λ_ _ f=>f,λ_=>Iff.rfl⟩
def Sat.N7{Ps:List Pr}{w w0:World}(i:Nat)(H:Sat Ps w)(d:Ps[i]? =some (Old w0)):Ext AQ w0 w:=let⟨_,h⟩:=(H.front i d).head;h.2
def Lo(d:List Pr):Pr where
 holds D w:=Lc d D w
 loc:=Lc.loc
 lt:=Lc.lt
def Ex{α:Type}(P:α->Pr):Pr where
 holds D w:= ∃x,(P x).holds D w
 loc h he hS:=let⟨x,h⟩:=h;⟨x,(P x).loc h he hS⟩
 lt h hk:=let⟨x,h⟩:=h;(P x).lt h hk
def Jj(p:Prop)(P:Pr):Pr where
 holds D w:=p/\P.holds D w
 loc h he hS:=⟨h.1,P.loc h.2 he hS⟩
 lt h hk:=P.lt h.2 hk
def Sat.star{y F:List Pr}{w:World}:Sat (Lo y::F) w↔Sat (y++F) w:=by
 constructor
 .rintro⟨D,d,j,h1,h2,v⟩;exact⟨D,Lc.append.2 ⟨d,j,h1,h2,v⟩⟩
 .rintro⟨D,h⟩;obtain⟨d,j,h1,h2,v⟩:=Lc.append.1 h;exact⟨D,d,j,h1,h2,v⟩
def Sat.ex{α:Type}{P:α->Pr}{F:List Pr}{w:World}:Sat (Ex P::F) w↔ ∃x,Sat (P x::F) w:=by
 constructor
 .rintro⟨D,d,j,⟨x,h1⟩,h2,v⟩;exact⟨x,D,d,j,h1,h2,v⟩
 .rintro⟨x,D,d,j,h1,h2,v⟩;exact⟨D,d,j,⟨x,h1⟩,h2,v⟩
def Sat.where{p:Prop}{P:Pr}{F:List Pr}{w:World}:Sat (Jj p P::F) w↔p/\Sat (P::F) w:=by
 constructor
 .rintro⟨D,d,j,⟨x,h1⟩,h2,v⟩;exact⟨x,D,d,j,h1,h2,v⟩
 .rintro⟨x,D,d,j,h1,h2,v⟩;exact⟨D,d,j,⟨x,h1⟩,h2,v⟩
def Cells(b t:Nat)(vs:List Value):Pr where
 holds D w:=(∀k,D k↔k=b)/\b<w.heap.size/\ ∀j v,vs[j]? =some v->w.cell? ⟨b,j,none⟩=some v/\w.frozen? ⟨b,j,none⟩=false
 loc h he hS:=⟨h.1,Nat.lt_of_lt_of_le h.2.1 he.size,λj v d=>⟨he.cell (h.2.2 j v d).1 (hS _ ((h.1 _).2 rfl)),by
  rw[he.frozen (p:=⟨_,j,none⟩) h.2.1 (hS _ ((h.1 _).2 rfl))];grind⟩⟩
 lt h hk:=by have:=(h.1 _).1 hk;omega
section
variable{Ps F:List Pr}{w w':World}{b t:Nat}{vs:List Value}
def Sat.Af(H:Sat (Cells b t vs::F) w){o:Nat}{v:Value}(d:vs[o]? =some v):w.cell? (Addr.mk b o none)=some v:=let⟨_,h⟩:=H.head;(h.2.2 o v d).1
def Sat.cell(H:Sat (Cells b t vs::F) w){o m:Nat}{v:Value}(d:vs[o+m]? =some v):w.cell? ((Addr.mk b o none).add m)=some v:=by
 rw[add_eq];exact H.Af d
def Sat.nP(H:Sat (Cells b t vs::F) w){o:Nat}(d:o<vs.length):w.frozen? (Addr.mk b o none)=false:=let⟨_,h⟩:=H.head;(h.2.2 o _ (List.getElem?_eq_getElem d)).2
def Sz{D:Nat->Prop}(d: ∀k,D k↔k=b)(h:w.heap[b]? =some (.cells ⟨vs⟩ t)):(Cells b t vs).holds D w:=
 ⟨d,Fo h,λj v y=>⟨by rw[AW h];grind,by simp[World.frozen?,h]⟩⟩
def AO(H:Sat F w){K:Nat->World->Prop}(d: ∀b w',Sat (Cells b t vs::F) w'->Ext AQ w w'->K b w'):AL (.cells ⟨vs⟩ t) w K:=
 BV λw' j hs he=>d _ _ (H.new (P:=Cells w.heap.size t vs) (D:=λk=>k=w.heap.size) he (Sz (λ_=>Iff.rfl) j) λk hk=>by omega) he
def Sat.stored(H:Sat (Cells b t vs::F) w){o:Nat}(C:o<vs.length)(v:Value):Sat (Cells b t (vs.set o v)::F) (w.setCell ⟨b,o,none⟩ v):=by
 obtain⟨D,h,hs⟩:=H.step;have d:=M9 (v:=v) (h.2.2 o _ (List.getElem?_eq_getElem C)).1;refine hs _ D _ (d.ext.mono λi _ J=>(h.1 i).2 J) ⟨h.1,by rw[d.size];exact h.2.1,λj u y=> ?_⟩ λk hk=>.inl hk;rw[d.frozen];rw[List.getElem?_set]at y;by_cases e:o=j
 .subst e;rw[if_pos rfl,if_pos C]at y;cases y;exact⟨d.same,(h.2.2 o _ (List.getElem?_eq_getElem C)).2⟩
 .rw[if_neg e]at y;rw[d.other _ (by grind)];exact h.2.2 j u y
def Ab(H:Sat (Cells b t vs::F) w){o m:Nat}{v:Value}(y:v.oneCell'=true)(d:o+m<vs.length){K:World->Prop}(j: ∀w',Sat (Cells b t (vs.set (o+m) v)::F) w'->K w'):
  stCells ((Addr.mk b o none).add m) 0 [v] w K:=by
 simp only[stCells,add_zero,add_eq];exact⟨⟨⟨_,H.Af (List.getElem?_eq_getElem d)⟩,H.nP d,y⟩,j _ (H.stored d v)⟩
def CN(H:Sat (Cells b t vs::F) w){o:Nat}{v:Value}(y:v.oneCell'=true)(j:o<vs.length){K:World->Prop}(d: ∀w',Sat (Cells b t (vs.set o v)::F) w'->K w'):
  stCells (Addr.mk b o none) 0 [v] w K:=by
 have:=Ab H (m:=0) y j d;rwa[show(Addr.mk b o none).add 0=Addr.mk b o none from add_zero _]at this
def Vn: ∀(news:List Value) {vs:List Value} {w:World} (o i:Nat),Sat (Cells b t vs::F) w->o+i+news.length<=vs.length->(∀v∈news,v.oneCell'=true)-> ∀{K:World->Prop},
  (∀w',Sat (Cells b t (vs.take (o+i)++news++vs.drop (o+i+news.length))::F) w'->K w')->stCells (Addr.mk b o none) i news w K
 | [],vs,w,o,i,H,hl,ho,K,hK=>by
  refine hK w ?_;simpa using H
 | v::r,vs,w,o,i,H,hl,ho,K,hK=>by
  have d:o+i<vs.length:=by grind
  simp only[stCells,add_eq];refine⟨⟨⟨_,H.Af (List.getElem?_eq_getElem d)⟩,H.nP d,ho v (by simp)⟩,?_⟩;refine Vn r o (i+1) (H.stored d v) (by grind) (λu hu=>ho u (by simp[hu])) λw' j=>hK w' ?_;have:(vs.set (o+i) v).take (o+(i+1))++r++(vs.set (o+i) v).drop (o+(i+1)+r.length)=vs.take (o+i)++(v::r)++vs.drop (o+i+(v::r).length):=by
   rw[show o+(i+1)=o+i+1 from by omega,List.take_set,List.take_succ_eq_append_getElem d,List.set_append_right _ _ (by simp;omega)];simp only[List.length_take,Nat.min_eq_left (Nat.le_of_lt d),Nat.sub_self,List.set_cons_zero,List.append_assoc,List.singleton_append,List.length_cons,List.cons_append];congr 2;rw[List.drop_set_of_lt (by omega),show o+i+1+r.length=o+i+(r.length+1)from by omega];simp
  grind
def Fp{news:List Value}(H:Sat (Cells b t vs::F) w)(C:news.length=vs.length)(j: ∀v∈news,v.oneCell'=true){K:World->Prop}
  (d: ∀w',Sat (Cells b t news::F) w'->K w'):stCells (Addr.mk b 0 none) 0 news w K:=by
 refine Vn news 0 0 H (by omega) j λw' y=>d w' ?_;have:List.drop news.length vs=[]:=List.drop_eq_nil_iff.2 (by omega)
 grind
end
def Row(t z:Nat)(s:AX)(vs:List Value):Pr where
 holds D w:=(∀k,D k↔PN s k)/\Ie w 0 t z s vs
 loc h he hS:=⟨h.1,h.2.ext he λb j=>hS _ ((h.1 _).2 ⟨_,j,rfl⟩)⟩
 lt h hk:=by obtain⟨a,d,rfl⟩:=(h.1 _).1 hk;exact(h.2.lt d).2.1
section
variable{Ps F:List Pr}{w w':World}{t z:Nat}{s:AX}{vs:List Value}
def Sat.own(H:Sat (Row t z s vs::F) w):Ie w 0 t z s vs:=let⟨_,h⟩:=H.head;h.2
def Sat.C1(H:Sat (Row t z s vs::F) w):vs.length=s.len*z:=H.own.len
def Ie.Ep{w:World}{B t z:Nat}{s:AX}{vs:List Value}(h:Ie w B t z s vs)(d:0<s.len): ∃b,s.base=some ⟨b,0,none⟩:=by
 rcases h.row with ⟨h1,h2⟩|⟨b,cs,h1,_⟩
 .have:=h.cap;omega
 grind
def Ie.cell{w:World}{B t z:Nat}{s:AX}{vs:List Value}(h:Ie w B t z s vs){a:Addr}(d:s.base=some a){j:Nat}{v:Value}(y:vs[j]? =some v):w.cell? (a.add j)=some v:=by
 have:=h.rowAt;rw[d]at this;exact this.2 j v y
def Sat.n9(H:Sat (Row t z s vs::F) w){j:Nat}{v:Value}(C:vs[j]? =some v){K:Addr->Prop}(J: ∀a,s.base=some a->w.cell? (a.add j)=some v->K a):NC s.base K:=by
 have y:=H.own;have O:j<vs.length:=(List.getElem?_eq_some_iff.1 C).1;have T:0<s.len:=by
  rw[y.len]at O
  grind
 obtain⟨b,d⟩:=y.Ep T;rw[d];exact J _ d (y.cell d C)
def Sat.nil(H:Sat F w)(t z:Nat):Sat (Row t z ⟨none,0,0⟩ []::F) w:=
 H.new (P:=Row t z ⟨none,0,0⟩ []) (D:=PN ⟨none,0,0⟩) (Ext.refl _ _) ⟨λ_=>Iff.rfl,Ie.nil w 0 t z⟩ λk hk=>by obtain⟨a,d,_⟩:=hk;cases d
def FU{bytes:Nat}{zs:Array Value}{x:AX}{K:AX->World->Prop}{news:List Value}(H:Sat (Row t z s vs::F) w)
  (hz:zs.size=z)(C:rowAt w x.base (x.len*z) news)(T:news.length=x.len*z)(ho: ∀v∈news,v.oneCell'=true)
  (O:(s.len+x.len)*bytes<=140737488355328)(J:s.len+x.len<=9223372036854775807)
  (hK: ∀s' w',Sat (Row t z s' (vs++news)::F) w'->s'.len=s.len+x.len->K s' w'):APP t z bytes zs s x w K:=by
 obtain⟨D,h,hs⟩:=H.step;refine PI hz h.2 C T ho (Nat.zero_le _) O J λs' w' y hlen j d=>hK s' w' ?_ hlen;refine hs w' (PN s') _ (j.mono λi _ hi=>(h.1 i).2 hi) ⟨λ_=>Iff.rfl,y⟩ ?_;rintro k ⟨a,Y,rfl⟩;rcases d with e|⟨b,e,O⟩
 .exact .inl ((h.1 _).2 ⟨a,by grind,rfl⟩)
 .rw[e]at Y;cases Y;exact .inr O
def Er{bytes:Nat}{zs:Array Value}{K:AX->World->Prop}{news:List Value}{b:Nat}(H:Sat (Cells b t news::Row t z s vs::F) w)
  (hz:zs.size=z)(J:news.length=z)(O: ∀v∈news,v.oneCell'=true)
  (C:(s.len+1)*bytes<=140737488355328)(d:s.len+1<=9223372036854775807)
  (y: ∀s' w',Sat (Row t z s' (vs++news)::F) w'->s'.len=s.len+1->K s' w'):APP t z bytes zs s ⟨some (Addr.mk b 0 none),1,1⟩ w K:=by
 refine FU H.tail hz (x:=⟨some (Addr.mk b 0 none),1,1⟩) ⟨by grind,λj v T=> ?_⟩ (by grind) O C d y;exact H.cell (by grind)
def Sat.JJ(H:Sat (Row t z s vs::F) w):rowAt w s.base (s.len*z) vs:=H.own.rowAt
def Gp(H:Sat (Row t z s vs::F) w){j:Nat}{v:Value}(ho:v.oneCell'=true)(hj:j<vs.length){a:Addr}(J:s.base=some a){K:World->Prop}
  (T: ∀w',Sat (Row t z s (vs.set j v)::F) w'->K w'):stCells (a.add j) 0 [v] w K:=by
 obtain⟨D,h,hs⟩:=H.step;have d:=h.2;rcases d.row with ⟨h1,_⟩|⟨b,cs,h1,h2,y,h4,O⟩
 .grind
 .rw[h1]at J;cases J;have hl:=d.len;have C:j<cs.size:=by
   have:s.len*z<=s.cap*z:=Nat.mul_le_mul_right _ d.cap;omega
  simp only[stCells,add_zero,add_eq,Nat.zero_add];refine⟨⟨⟨_,(by rw[AW y];exact Array.getElem?_eq_getElem C)⟩,by simp[World.frozen?,y],ho⟩,T _ ?_⟩;refine hs _ D _ ((Ext.setCell w ⟨b,j,none⟩ v).mono λi _ Y=>(h.1 i).2 ⟨_,h1,Y⟩) ⟨h.1,?_⟩ λk hk=>.inl hk;refine⟨by grind,d.cap,d.top,.inr ⟨b,_,h1,h2,LF y,by grind,?_⟩⟩;rw[Array.toList_setIfInBounds,List.take_set,O]
end
def AU{σ:Type}{first:(σ->World->Prop)->Prop}{rest:σ->(Nat->Value)->World->Prop}(h:first λs w=> ∀j,rest s j w):Ai σ first rest:=
 ⟨_,h,λs j w h=>h j⟩
@[simp] theorem jK{T E:Prop}:CND true T E↔T:=Iff.rfl
@[simp] theorem eT{T E:Prop}:CND false T E↔E:=Iff.rfl
def AR{b:Bool}{T E:Prop}(d:b=true)(h:T):CND b T E:=by subst d;exact h
def AP{b:Bool}{T E:Prop}(d:b=false)(h:E):CND b T E:=by subst d;exact h
def Bc{a b:Int}{T E:Prop}(h1:a=b->T)(h2:a≠b->E):CND (a==b) T E:=by
 by_cases h:a=b
 .rw[show(a==b)=true from by grind];exact h1 h
 .rw[show(a==b)=false from by grind];exact h2 h
def Gq{a b:Int}{T E:Prop}(h1:a≠b->T)(h2:a=b->E):CND (a !=b) T E:=by
 by_cases h:a=b
 .rw[show(a !=b)=false from by grind];exact h2 h
 .rw[show(a !=b)=true from by grind];exact h1 h
def JK{b:Bool}{T E:Prop}(h:CND b E T):CND (!b) T E:=by cases b<;>exact h
structure Rg(it mb since:Nat)(a b:Int)(m0:List (Int×Value))(w:World)(seen:Array Nat)(es:Array MapEntry)(m:List (Int×Value)):Prop where
 iter: ∃last,w.heap[it]? =some (.mapIter (some mb) since seen last)/\(seen.isEmpty=true∨last=since)
 map:w.heap[mb]? =some (.map es since)
 ok:MapI .u64 es since m
 out: ∀c,¬(a<=c/\c<b)->aget m c=aget m0 c
 sub: ∀c v,aget m c=some v->aget m0 c=some v
 done: ∀e∈es.toList,seen.contains e.born=true-> ∀n,e.key= .int .u64 n-> ¬(a<=n/\n<b)
def Gr{es:Array MapEntry}{seen:Array Nat}{e:MapEntry}:e∈leftOf es seen↔e∈es.toList/\seen.contains e.born=false:=by
 simp[leftOf,Array.mem_filter]
def IE(es:Array MapEntry)(seen:Array Nat):Nat:=(es.toList.filter λe=> !seen.contains e.born).length
def filter_lt{α:Type}{p q:α->Bool}: ∀{l:List α},(∀x∈l,q x=true->p x=true)->(∃x∈l,p x=true/\q x=false)->(l.filter q).length<(l.filter p).length
 | [],_,⟨x,d,_⟩=>by cases d
 | y::r,h,⟨x,d,h1,h2⟩=>by
  have hle: ∀{l:List α},(∀x∈l,q x=true->p x=true)->(l.filter q).length<=(l.filter p).length:=by
   intro l
   induction l with
   | nil=>grind
   | cons z s ih=>grind
  rcases List.mem_cons.1 d with rfl|j
  .grind
  .have:=filter_lt (λz hz=>h z (List.mem_cons_of_mem _ hz)) ⟨x,j,h1,h2⟩
   grind
def Jr{α β:Type}{f:α->β}: ∀{l:List α},(l.map f).Nodup-> ∀{x y:α},x∈l->y∈l->f x=f y->x=y
 | [],_,x,y,v,_,_=>by cases v
 | z::r,h,x,y,v,C,he=>by
  simp only[List.map_cons,List.nodup_cons]at h;rcases List.mem_cons.1 v with rfl|d<;>rcases List.mem_cons.1 C with rfl|j
  .rfl
  .exact absurd (he▸List.mem_map.2 ⟨y,j,rfl⟩) h.1
  .exact absurd (he▸List.mem_map.2 ⟨x,d,rfl⟩) h.1
  .exact Jr h.2 d j he
def range_del{it mb since:Nat}{a b:Int}{m0:List (Int×Value)}{w0:World}{K:World->Prop}{getm:(Option Nat->World->Prop)->World->Prop}
  (aR: ∀w K',Ext (λk=>k=it∨k=mb) w0 w->K' (some mb) w->getm K' w)
  {seen0:Array Nat}{es0:Array MapEntry}{m1:List (Int×Value)}(h0:Rg it mb since a b m0 w0 seen0 es0 m1)(aV:it≠mb)(bS:it<w0.heap.size)(bU:mb<w0.heap.size)
  (hK: ∀w' O m',Ext (λk=>k=it∨k=mb) w0 w'->w'.heap.size=w0.heap.size->w'.heap[mb]? =some (.map O since)->MapI .u64 O since m'->
   (∀c,aget m' c=if a<=c/\c<b then none else aget m0 c)->K w'):
  Az (Unit) (()) w0 λZF _ bB C=>
     Ai (Bool×Unit) (λaK=>
      Vf it bB (λbC=>
       aK (false,()) bC
      ) λbY bZ bD=>
       aK (true,()) bD
     ) λjL _ aB=>
      Ai (Bool×Unit) (λaZ=>
       CND (jL.1) (
        aZ (jL.1,()) aB
       ) (
        K aB
       )
      ) λZa _ aC=>
       nX it aC λbA b0 bL=>
       bV .u64 bA λaI=>
       Ai (Bool×Unit) (λaL=>
        CND (decide ((aI:Int)≥a)) (
         aL (decide ((aI:Int)<b),()) aC
        ) (
         aL (false,()) aC
        )
       ) λZG _ y=>
        CND (ZG.1) (
         getm (λbF y=>
         MDEL .u64 aI bF y λbE=>
         C (()) bE) y
        ) (
         C (()) y
        ):=by
 refine AI (λ_ w=>(∃seen es m,Rg it mb since a b m0 w seen es m)/\Ext (λk=>k=it∨k=mb) w0 w/\w.heap.size=w0.heap.size)
  (λ_ w=>match w.heap[it]?,w.heap[mb]? with|some (.mapIter _ _ seen _),some (.map es _)=>IE es seen|_,_=>0) ⟨⟨_,_,_,h0⟩,Ext.refl _ _,rfl⟩ ?_
 rintro _ _ w ⟨⟨seen,es,m,h⟩,hw,bX⟩;obtain⟨last,j,hl⟩:=h.iter;have a6:(match w.heap[it]?,w.heap[mb]? with|some (.mapIter _ _ seen _),some (.map es _)=>IE es seen|_,_=>0:Nat)=IE es seen:=by rw[j,h.map]
 simp only[a6];refine AV (λst w'=>(st.1=false/\(leftOf es seen).isEmpty=true/\(∃d,Rg it mb since a b m0 w' d es m/\d=seen)/\Ext (λk=>k=it∨k=mb) w0 w'/\w'.heap.size=w0.heap.size)∨
   (st.1=true/\ ∃e,e∈es.toList/\seen.contains e.born=false/\w'.heap[it]? =some (.mapIter (some mb) since (seen.push e.born) since)/\w'.heap[mb]? =some (.map es since)/\Ext (λk=>k=it∨k=mb) w0 w'/\w'.heap.size=w0.heap.size)) ?_ ?_
 .refine⟨some mb,since,seen,last,j,es,since,h.map,?_,?_,?_⟩
  .rcases hl with hl|rfl
   .simp[hl]
   .by_cases he:es.isEmpty=true
    .simp[he]
    .have:es.all (λx=>decide (x.born≥last))=false:=by
      have bK:0<es.size:=Nat.pos_of_ne_zero λe=>he (by grind);have hm:es[0]∈es.toList:=by simp
      have:=h.ok.lt _ hm
      grind
     simp[this]
  .intro w' aA aP;left;have J:Ext AQ w w':=by rcases aA with rfl|rfl;exact Ext.refl _ _;exact Ext.drew _ _
   have a7:w'.heap.size=w.heap.size:=by rcases aA with rfl|rfl<;>rfl
   refine⟨rfl,?_,⟨seen,⟨⟨last,J.obj j (λf=>f),hl⟩,J.obj h.map (λf=>f),h.ok,h.out,h.sub,h.done⟩,rfl⟩,hw.trans' J.any,by omega⟩;have:(leftOf es seen).filter (λx=>decide (x.born<since))=leftOf es seen:=by
    apply Array.filter_eq_self.2;intro e he;have h1:=(Gr.1 he).1;exact decide_eq_true (h.ok.lt e h1)
   grind
  .intro w' e aA he;right;have J:Ext AQ w w':=by rcases aA with rfl|rfl;exact Ext.refl _ _;exact Ext.drew _ _
   have a7:w'.heap.size=w.heap.size:=by rcases aA with rfl|rfl<;>rfl
   obtain⟨h1,h2⟩:=Gr.1 he;refine⟨rfl,e,h1,h2,?_,?_,(hw.trans' J.any).trans (Ext.GO w' it _) (λ_ _ h=>h) (λi _ e=>.inl e),?_⟩
   .have a5:it<w'.heap.size:=by omega
    simp[World.GO,a5]
   .have:=(Ext.GO w' it (.mapIter (some mb) since (seen.push e.born) since)).obj (J.obj h.map λf=>f) (λe:mb=it=>aV e.symm);exact this
   .simp[World.GO];omega
 .rintro⟨bt,u⟩ _ aB hJ;simp only at hJ⊢;refine AV (λst w'=>w'=aB/\bt=true) ?_ ?_
  .refine AS (λht=>⟨rfl,ht⟩) (λhf=> ?_);rcases hJ with ⟨_,aP,⟨d,hR,a8⟩,hE,hS⟩|⟨ht,_⟩
   .subst a8;refine hK aB es m hE hS hR.map hR.ok λc=> ?_;split
    .rename_i hc;cases hg:aget m c with
     | none=>rfl
     | some v=>
      exfalso;obtain⟨e,he,hk,hv⟩:=h.ok.SF hg;have hs:d.contains e.born=true:=by
       cases hsc:d.contains e.born with
       | true=>rfl
       | false=>
        have:e∈leftOf es d:=Gr.2 ⟨he,hsc⟩
        grind
      exact h.done e he hs c hk hc
    .rename_i hc;exact h.out c hc
   .rw[ht]at hf;cases hf
  .rintro⟨_,u⟩ _ aC ⟨rfl,a3⟩;rcases hJ with ⟨hf,_⟩|⟨_,e,he,bW,T,Y,hE,hS⟩
   .rw[a3]at hf;cases hf
   .obtain⟨n,aT,bR⟩:=h.ok.PM he;have aH:es.find? (λx:MapEntry=>x.born==e.born)=some e:=by
     rw[<-Array.find?_toList];have hb:=h.ok.born;have: ∀l:List MapEntry,(l.map (·.born)).Nodup->e∈l->l.find? (λx:MapEntry=>x.born==e.born)=some e:=by
      intro l
      induction l with
      | nil=>grind
      | cons x r ih=>grind
     grind
    refine⟨mb,since,since,seen.push e.born,es,since,e.born,e,⟨T,Y⟩,by simp,rfl,aH,?_⟩;rw[aT];show unV (.int .u64) (.int .u64 n) _;show sameK .u64 .u64 _;show Ai _ _ _;have bH:IE es (seen.push e.born)<IE es seen:=by
     unfold IE;refine filter_lt (λx _ hx=> ?_) ⟨e,he,by grind,by simp⟩
     grind
    refine AV (λst w'=>w'=aC/\(st.1=true↔a<=n/\n<b)) ?_ ?_
    .refine AB (λh1=>⟨rfl,?_⟩) (λh1=>⟨rfl,?_⟩)
     .grind
     grind
    .rintro⟨bN,u⟩ _ y ⟨rfl,aN⟩;simp only at aN⊢;have hR:Rg it mb since a b m0 y seen es m->True:=λ_=>trivial;refine AS (λht=> ?_) (λhf=> ?_)
     .refine aR y _ hE ?_;refine Od Y h.ok λw' O m' aM aU aQ bT aG a4 aE bJ=> ?_;have aF:w'.heap[it]? =some (.mapIter (some mb) since (seen.push e.born) since):=aE.obj T (λe2:it=mb=>aV e2);refine⟨⟨⟨seen.push e.born,O,m',⟨since,aF,.inr rfl⟩,aM,aU,?_,?_,?_⟩,hE.trans aE (λ_ _ h=>h) (λi _ e=>.inr e),by omega⟩,?_⟩
      .intro c hc;rw[aQ,if_neg,h.out c hc]
       grind
      .intro c v aD;rw[aQ]at aD;split at aD
       .cases aD
       .exact h.sub c v aD
      .intro x hx hs k hk;have aW:=aG.subset hx;by_cases hxb:x.born=e.born
       .-- the entry that was taken out
        obtain⟨k',aS,bQ⟩:=aU.PM hx;rw[hk]at aS;cases aS;have a9:x=e:=by
         have h1:=Jr h.ok.born aW he hxb;exact h1
        grind
       .refine h.done x aW ?_ k hk
        grind
      .simp only[aF,aM];have:IE O (seen.push e.born)<=IE es (seen.push e.born):=(aG.filter _).length_le;omega
     .have bI: ¬(a<=n/\n<b):=λh=>by grind
      refine⟨⟨⟨seen.push e.born,es,m,⟨since,T,.inr rfl⟩,Y,h.ok,h.out,h.sub,?_⟩,hE,hS⟩,by grind⟩;intro x hx hs k hk;simp at hs;rcases hs with hs|hs
      .exact h.done x hx (by grind) k hk
      .have a9:x=e:=Jr h.ok.born hx he hs
       grind
end Go.Sh

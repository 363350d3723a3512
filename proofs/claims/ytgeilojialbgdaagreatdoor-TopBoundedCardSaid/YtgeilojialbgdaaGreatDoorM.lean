/- What pieces of a program do to memory: blocks, rows, maps, interval lists, resources that lie apart. No further condition. -/
import Derived.Test.YtgeilojialbgdaaGreatDoorSh
import Derived.Below
import Derived.RangeFuncLeaves
import Derived.RangeFuncRecord
import Derived.TacticsIn
set_option linter.all false
set_option maxRecDepth 50000
namespace Go.Sh
open Go.RowKit (Below)
structure Ext(S:Nat->Prop)(w w':World):Prop where
 os:w'.os=w.os
 tape:w'.tape=w.tape
 output:w'.output=w.output
 size:w.heap.size<=w'.heap.size
 block: ∀k,k<w.heap.size-> ¬S k->w'.heap[k]? =w.heap[k]?
def AN:Nat->Prop:=λ_=>False
def Ja(b:Nat):Nat->Prop:=λk=>k=b
def Ext.refl(S:Nat->Prop)(w:World):Ext S w w:=⟨rfl,rfl,rfl,Nat.le_refl _,λ_ _ _=>rfl⟩
def Ext.drew(S:Nat->Prop)(w:World):Ext S w w.drew:=⟨rfl,rfl,rfl,Nat.le_refl _,λ_ _ _=>rfl⟩
def Ext.trans{S T U:Nat->Prop}{a b c:World}(h:Ext S a b)(k:Ext T b c)(hS: ∀i,i<a.heap.size->S i->U i)(hT: ∀i,i<a.heap.size->T i->U i):Ext U a c:=
 ⟨k.os.trans h.os,k.tape.trans h.tape,k.output.trans h.output,Nat.le_trans h.size k.size,λi hi hu=>
  (k.block i (Nat.lt_of_lt_of_le hi h.size) λt=>hu (hT i hi t)).trans (h.block i hi λs=>hu (hS i hi s))⟩
def Ext.trans'{S:Nat->Prop}{a b c:World}(h:Ext S a b)(k:Ext S b c):Ext S a c:=h.trans k (λ_ _ s=>s) (λ_ _ s=>s)
def Ext.mono{S T:Nat->Prop}{a b:World}(h:Ext S a b)(e: ∀i,i<a.heap.size->S i->T i):Ext T a b:=
 ⟨h.os,h.tape,h.output,h.size,λi hi j=>h.block i hi λs=>j (e i hi s)⟩
def Ext.any{S:Nat->Prop}{a b:World}(h:Ext AN a b):Ext S a b:=h.mono λ_ _ f=>f.elim
def Ext.alloc(S:Nat->Prop)(w:World)(o:Obj):Ext S w (w.alloc o):=
 ⟨rfl,rfl,rfl,by simp,λk a _=>RowKit.Below.heap_alloc w o k a⟩
def Ext.setCell(w:World)(p:Addr)(v:Value):Ext (Ja p.block) w (w.setCell p v):=
 ⟨rfl,rfl,rfl,by simp[World.setCell],λk e a=>RowKit.Below.heap_setCell w p v k a⟩
def Ext.GR(w:World)(b:Nat)(o:Obj):Ext (Ja b) w (World.GR w b o):=
 ⟨rfl,rfl,rfl,by simp[World.GR],λk e a=>by
  have:k≠b:=a;simp[World.GR,Array.getElem?_setIfInBounds_ne (Ne.symm this)]⟩
def Ext.cell{S:Nat->Prop}{w w':World}(h:Ext S w w'){p:Addr}{v:Value}(a:w.cell? p=some v)(j: ¬S p.block):w'.cell? p=some v:=by
 have e:=World.block_lt_of_cell? w p a;rw[<-a];exact World.cell?_of_block (h.block p.block e j)
def Ext.frozen{S:Nat->Prop}{w w':World}(h:Ext S w w'){p:Addr}(a:p.block<w.heap.size)(e: ¬S p.block):w'.frozen? p=w.frozen? p:=
 World.frozen?_of_block (h.block p.block a e)
def Ext.obj{S:Nat->Prop}{w w':World}(h:Ext S w w'){b:Nat}{o:Obj}(a:w.heap[b]? =some o)(j: ¬S b):w'.heap[b]? =some o:=by
 have e:b<w.heap.size:=(Array.getElem?_eq_some_iff.1 a).1;rw[h.block b e j,a]
def Ext.below{S:Nat->Prop}{w w':World}(h:Ext S w w'){B:Nat}(a:B<=w.heap.size)(hS: ∀i,S i->B<=i):Below B w w':=
 ⟨h.os,h.tape,h.output,h.size,λk e=>h.block k (by omega) λs=>by grind⟩
def FM{w:World}{b:Nat}{o:Obj}(h:w.heap[b]? =some o):b<w.heap.size:=(Array.getElem?_eq_some_iff.1 h).1
def AS{w:World}{b:Nat}{cs:Array Value}{t:TypeId}{f:Nat×Nat}(h:w.heap[b]? =some (.cells cs t f))(j:Nat):w.cell? ⟨b,j,none⟩=cs[j]? :=by
 simp[World.cell?,h]
def add_eq(b o n:Nat):(Addr.mk b o none).add n=⟨b,o+n,none⟩:=by
 unfold Addr.add;grind
def add_add(p:Addr)(a b:Nat):(p.add a).add b=p.add (a+b):=by
 unfold Addr.add
 grind
def add_zero(p:Addr):p.add 0=p:=by simp[Addr.add]
def Wg(p:Addr)(n:Nat):(p.add n).block=p.block:=by unfold Addr.add;grind
def A4{o:Obj}{w:World}{K:Nat->World->Prop}
  (h: ∀w',w'.heap[w.heap.size]? =some o->w'.heap.size=w.heap.size+1->Ext AN w w'->K w.heap.size w'):AL o w K:=
 h (w.alloc o) (heap_alloc_new w o) (by simp) (Ext.alloc _ w o)
structure N9(p:Addr)(v:Value)(w w':World):Prop where
 ext:Ext (Ja p.block) w w'
 same:w'.cell? p=some v
 other: ∀q:Addr,q≠p->w'.cell? q=w.cell? q
 frozen: ∀q:Addr,w'.frozen? q=w.frozen? q
 size:w'.heap.size=w.heap.size
def OA{w:World}{p:Addr}{u v:Value}(h:w.cell? p=some u):N9 p v w (w.setCell p v):=
 ⟨Ext.setCell w p v,World.cell?_setCell_same w p v h,λq a=>World.cell?_setCell_other w p q v (Ne.symm a),λq=>World.frozen?_setCell w p q v,by simp⟩
def MU{p:Addr}{v u:Value}{w:World}{K:World->Prop}(h:w.cell? p=some u)(e:w.frozen? p=false)(ho:v.oneCell'=true)
  (a: ∀w',N9 p v w w'->K w'):stCells p 0 [v] w K:=by
 simp only[stCells,add_zero];exact⟨⟨⟨u,h⟩,e,ho⟩,a _ (OA h)⟩
def L2{w:World}{b j:Nat}{cs:Array Value}{t:TypeId}{f:Nat×Nat}{v:Value}(h:w.heap[b]? =some (.cells cs t f)):
  (w.setCell ⟨b,j,none⟩ v).heap[b]? =some (.cells (cs.setIfInBounds j v) t f):=by
 simp[World.setCell,Array.getElem?_modify,h]
def HL{t:TypeId}: ∀(vs:List Value) (b o i:Nat) (cs:Array Value) (w:World) (K:World->Prop),w.heap[b]? =some (.cells cs t)->o+i+vs.length<=cs.size->(∀v∈vs,v.oneCell'=true)->
  (∀w',Ext (Ja b) w w'->w'.heap.size=w.heap.size->w'.heap[b]? =some (.cells (cs.toList.take (o+i)++vs++cs.toList.drop (o+i+vs.length)).toArray t)->K w')->
  stCells ⟨b,o,none⟩ i vs w K
 | [],b,o,i,cs,w,K,h,hl,ho,hK=>by
  refine hK w (Ext.refl _ _) rfl ?_;rw[h];simp
 | v::r,b,o,i,cs,w,K,h,hl,ho,hK=>by
  have O:o+i<cs.size:=by grind
  simp only[stCells,add_eq];refine⟨⟨⟨cs[o+i],by rw[AS h];grind⟩,by simp[World.frozen?,h],ho v (by simp)⟩,?_⟩;have e:=L2 (j:=o+i) (v:=v) h;refine HL r b o (i+1) _ _ K e (by grind) (λu hu=>ho u (by simp[hu])) λw' he T J=> ?_;refine hK w' ((Ext.setCell w ⟨b,o+i,none⟩ v).trans' he) (by rw[T];simp) ?_;rw[J];congr 3;have a:o+i<cs.toList.length:=by omega
  simp only[Array.toList_setIfInBounds];rw[show o+(i+1)=o+i+1 from by omega];rw[List.take_set,List.take_succ_eq_append_getElem a,List.set_append_right _ _ (by simp;omega)];simp only[List.length_take,Nat.min_eq_left (Nat.le_of_lt a),Nat.sub_self,List.set_cons_zero,List.append_assoc,List.singleton_append,List.length_cons];congr 2;rw[List.drop_set_of_lt (by omega)]
  grind
def Wh{S:Nat->Prop}{w w':World}{b:Option Addr}{n:Nat}{l:List Value}(h:rowAt w b n l)(he:Ext S w w')(J: ∀a,b=some a->l≠ []-> ¬S a.block):rowAt w' b n l:=by
 cases b with
 | none=>exact h
 | some a=>
  refine⟨h.1,λj v u=>he.cell (h.2 j v u) ?_⟩;rw[Wg];exact J a rfl (by intro e;grind)
structure I2(w:World)(B t z:Nat)(s:AY)(vs:List Value):Prop where
 len:vs.length=s.len*z
 cap:s.len<=s.cap
 top:s.cap<9223372036854775808
 row:(s.base=none/\s.cap=0)∨ ∃b cs,s.base=some ⟨b,0,none⟩/\B<=b/\w.heap[b]? =some (.cells cs t)/\cs.size=s.cap*z/\cs.toList.take (s.len*z)=vs
def I2.nil(w:World)(B t z:Nat):I2 w B t z ⟨none,0,0⟩ []:=⟨by simp,Nat.le_refl _,by decide,.inl ⟨rfl,rfl⟩⟩
def I2.rowAt{w:World}{B t z:Nat}{s:AY}{vs:List Value}(h:I2 w B t z s vs):rowAt w s.base (s.len*z) vs:=by
 rcases h.row with ⟨h1,a⟩|⟨b,cs,h1,a,e,J,K⟩
 .have:s.len=0:=by have:=h.cap;omega
  have u:=h.len;rw[this]at u;rw[h1];exact List.eq_nil_of_length_eq_zero (by omega)
 .rw[h1];refine⟨h.len,λj v O=> ?_⟩;rw[add_eq,Nat.zero_add,AS e]
  grind
def I2.ext{w w':World}{B t z:Nat}{s:AY}{vs:List Value}{S:Nat->Prop}(h:I2 w B t z s vs)(he:Ext S w w')(u: ∀b,s.base=some ⟨b,0,none⟩-> ¬S b):I2 w' B t z s vs:=by
 refine⟨h.len,h.cap,h.top,?_⟩;rcases h.row with h1|⟨b,cs,h1,a,e,j⟩
 .grind
 .exact .inr ⟨b,cs,h1,a,he.obj e (u b h1),j⟩
def I2.lower{w:World}{B a t z:Nat}{s:AY}{vs:List Value}(h:I2 w B t z s vs)(v:a<=B):I2 w a t z s vs:=by
 refine⟨h.len,h.cap,h.top,?_⟩;rcases h.row with h1|⟨b,cs,h1,e,j,u⟩
 .grind
 grind
def I2.lt{w:World}{B t z:Nat}{s:AY}{vs:List Value}(h:I2 w B t z s vs){a:Addr}(v:s.base=some a):B<=a.block/\a.block<w.heap.size/\a.off=0/\a.spot=none:=by
 rcases h.row with ⟨h1,_⟩|⟨b,cs,h1,e,j,u⟩
 .grind
 grind
def Qj{e z bytes:Nat}{zs:Array Value}{s x:AY}{w:World}{K:AY->World->Prop}{B:Nat}{vs news:List Value}
  (hz:zs.size=z)(j:I2 w B e z s vs)(Y:rowAt w x.base (x.len*z) news)(u:news.length=x.len*z)(ho: ∀v∈news,v.oneCell'=true)(hB:B<=w.heap.size)
  (hb:(s.len+x.len)*bytes<=140737488355328)(aB:s.len+x.len<=9223372036854775807)
  (hK: ∀s' w',I2 w' B e z s' (vs++news)->s'.len=s.len+x.len->Ext (λk=> ∃a,s.base=some a/\k=a.block) w w'->
   (s'.base=s.base∨ ∃b,s'.base=some ⟨b,0,none⟩/\w.heap.size<=b)->K s' w'):APP e z bytes zs s x w K:=by
 refine⟨news,Y,λJ=> ?_,λaE=>⟨hb,aB,vs,j.rowAt,λcap T O=> ?_⟩⟩
 .rcases j.row with ⟨h1,h2⟩|⟨b,cs,h1,h2,h3,h4,h5⟩
  .have hx:x.len=0:=by omega
   have hs:s.len=0:=by omega
   rw[h1];have hn:news=[]:=List.eq_nil_of_length_eq_zero (by grind);have hv:vs=[]:=List.eq_nil_of_length_eq_zero (by rw[j.len,hs];simp);subst hn;subst hv;refine hK _ w ⟨by grind,by omega,j.top,.inl ⟨rfl,h2⟩⟩ rfl (Ext.refl _ _) (.inl h1.symm)
  .rw[h1];simp only[add_eq,Nat.zero_add];have hle:s.len*z+news.length<=cs.size:=by
    rw[u,h4,<-Nat.add_mul];exact Nat.mul_le_mul_right _ J
   refine HL news b (s.len*z) 0 cs w _ h3 (by omega) ho λw' he aM aD=> ?_;refine hK _ w' ⟨by grind,J,j.top,.inr ⟨b,_,rfl,h2,aD,?_,?_⟩⟩ rfl (he.mono λi _ hi=>⟨_,h1,hi⟩) (.inl h1.symm)
   .grind
   .simp only[Nat.add_zero];rw[h5,List.append_assoc,<-List.append_assoc,Nat.add_mul,<-u,<-j.len,<-List.length_append]
    grind
 .refine hK _ _ ⟨by simp[j.len,u,Nat.add_mul],T,O,.inr ⟨w.heap.size,_,rfl,hB,heap_alloc_new w.drew _,?_,?_⟩⟩ rfl ((Ext.drew _ w).trans' (Ext.alloc _ w.drew _)) (.inr ⟨_,rfl,Nat.le_refl _⟩)
  .simp only[Array.size_append,List.size_toArray,Builtin.zeroCells,Array.size_map,Array.size_range,j.len,u,hz];rw[<-Nat.add_mul,<-Nat.add_mul]
   grind
  .simp only[Array.toList_append,Nat.add_mul];rw[<-u,<-j.len,<-List.length_append]
   grind
def Xe{w w':World}{B t z n:Nat}{cells:List Value}(h:w'.heap[w.heap.size]? =some (.cells ⟨cells⟩ t))(a:cells.length=n*z)(e:B<=w.heap.size)(j:n<9223372036854775808):
  I2 w' B t z ⟨some ⟨w.heap.size,0,none⟩,n,n⟩ cells:=
 ⟨a,Nat.le_refl _,j,.inr ⟨_,_,rfl,e,h,by omega,by rw[<-a];simp⟩⟩
def UL(a:Option Addr)(c z:Nat):KE a c 0 z=a:=by
 unfold KE;split
 .rfl
 .cases a<;>simp[add_zero]
def Px{w:World}{b:Option Addr}{n m:Nat}{l:List Value}(h:rowAt w b n l)(hm:m<=n)(e:l.length=n):rowAt w b m (l.take m):=by
 cases b with
 | none=>have:l=[]:=h;grind
 | some a=>
  refine⟨by rw[List.length_take,e];omega,λj v u=>h.2 j v ?_⟩
  grind
def LN{w:World}{b:Option Addr}{n len cap k z:Nat}{l:List Value}(h:rowAt w b n l)(O:n=len*z)(T:k<=len)(K:len<=cap)(J:l.length=n):
  rowAt w (KE b cap k z) ((len-k)*z) (l.drop (k*z)):=by
 have hlen:(l.drop (k*z)).length=(len-k)*z:=by rw[List.length_drop,J,O,Nat.sub_mul]
 unfold KE;split
 .rename_i hck;have:len-k=0:=by omega
  rw[this]at hlen⊢;have e:l.drop (k*z)=[]:=List.eq_nil_of_length_eq_zero (by omega);rw[e];cases b with
  | none=>rfl
  | some a=>exact⟨by simp,by simp⟩
 .cases b with
  | none=>have:l=[]:=h;grind
  | some a=>
   refine⟨hlen,λj v u=> ?_⟩;rw[add_add];rw[List.getElem?_drop]at u;exact h.2 _ v u
def AM{σ:Type}{s0:σ}{w0:World}{body:σ->(Nat->Value)->World->(σ->World->Prop)->Prop}(I:σ->World->Prop)(μ:σ->World->Nat)(h0:I s0 w0)
  (h: ∀s j w,I s w->body s j w λs' w'=>I s' w'/\μ s' w'<μ s w):BK σ s0 w0 body:=⟨I,μ,h0,h⟩
def AV{σ:Type}{first:(σ->World->Prop)->Prop}{rest:σ->(Nat->Value)->World->Prop}(J:σ->World->Prop)(h1:first J)(a: ∀s j w,J s w->rest s j w):At σ first rest:=⟨J,h1,a⟩
def AX{b:Bool}{T E:Prop}(h1:b=true->T)(a:b=false->E):CND b T E:=iN.2 ⟨h1,a⟩
def AE{p:Prop}[Decidable p]{T E:Prop}(h1:p->T)(a: ¬p->E):CND (decide p) T E:=
 iN.2 ⟨λh=>h1 (of_decide_eq_true h),λh=>a (of_decide_eq_false h)⟩
def AZ{α:Type}{e:α}{K:α->Prop}(h: ∀x,x=e->K x):JB e K:=h e rfl
def KI(n:Int):u64 n=n %18446744073709551616:=by simp[u64,IntKind.wrap,IntKind.bits,IntKind.signed]
def AP{n:Int}(h0:0<=n:=by omega)(h1:n<18446744073709551616:=by omega):u64 n=n:=by rw[KI];omega
def AI{n:Int}(h0: -9223372036854775808<=n:=by omega)(h1:n<9223372036854775808:=by omega):i64 n=n:=IntWalk.i64_in n (by omega)
def Tm(a b:Int):PR a b=min a b:=by unfold PR;omega
def Ql(a b:Int):LI a b=max a b:=by unfold LI;omega
end Go.Sh
namespace Go.Sh
abbrev Iv:=List (Int×Int)
def Ok:Iv->Prop
 | []=>True
 | p::r=>0<=p.1/\p.1<p.2/\p.2<18446744073709551616/\(∀q∈r,p.2<q.1)/\Ok r
def mem(l:Iv)(n:Int):Prop:= ∃p∈l,p.1<=n/\n<p.2
def posn:Iv->Int->Nat
 | [],_=>0
 | p::r,x=>if p.2<=x then posn r x+1 else 0
def Hm:Iv->Int
 | []=>0
 | p::r=>(p.2-p.1)+Hm r
def OB(p:Int×Int)(a b:Int):Int:=max 0 (min p.2 b-max p.1 a)
def cnt:Iv->Int->Int->Int
 | [],_,_=>0
 | p::r,a,b=>OB p a b+cnt r a b
def Qm(p:Int×Int)(a b:Int):Iv:=(if p.1<a then [(p.1,min p.2 a)]else [])++(if b<p.2 then [(max p.1 b,p.2)]else [])
def DO:Iv->Int->Int->Iv
 | [],_,_=>[]
 | p::r,a,b=>Qm p a b++DO r a b
def addHi(l:Iv)(i:Nat)(b:Int):Int×Nat:=match l[i]? with
 | some q=>if q.1=b then(q.2,i+1)else(b,i)
 | none=>(b,i)
def addLo(l:Iv)(i:Nat)(a:Int):Int×Nat:=match i with
 | 0=>(a,0)
 | i+1=>match l[i]? with
  | some q=>if q.2=a then(q.1,i)else(a,i+1)
  | none=>(a,i+1)
def Ta(l:Iv)(a b:Int):Iv:=
 l.take (addLo l (posn l a) a).2++[((addLo l (posn l a) a).1,(addHi l (posn l a) b).1)]++l.drop (addHi l (posn l a) b).2
def DZ(l:Iv)(a b:Int):Iv:=Ta (DO l a b) a b
def L3: ∀(l:Iv) (x:Int),posn l x<=l.length
 | [],_=>Nat.le_refl _
 | p::r,x=>by
  unfold posn;split
  .have:=L3 r x;simp;omega
  .simp
def OC: ∀(l:Iv) (x:Int) (i:Nat) (p:Int×Int),i<posn l x->l[i]? =some p->p.2<=x
 | [],x,i,p,h,_=>by simp[posn]at h
 | q::r,x,i,p,h,hp=>by
  unfold posn at h;split at h
  .rename_i hq;cases i with
   | zero=>simp at hp;subst hp;exact hq
   | succ i=>exact OC r x i p (by omega) (by grind)
  .omega
def Xf: ∀(l:Iv) (x:Int) (p:Int×Int),l[posn l x]? =some p->x<p.2
 | [],x,p,h=>by simp at h
 | q::r,x,p,h=>by
  unfold posn at h;split at h
  .exact Xf r x p (by grind)
  .simp at h;subst h;omega
def Ok.tail{p:Int×Int}{r:Iv}(h:Ok (p::r)):Ok r:=h.2.2.2.2
def Ok.get: ∀{l:Iv},Ok l-> ∀{i:Nat} {p:Int×Int},l[i]? =some p->0<=p.1/\p.1<p.2/\p.2<18446744073709551616
 | [],_,i,p,h=>by simp at h
 | q::r,h,0,p,hp=>by simp at hp;subst hp;exact⟨h.1,h.2.1,h.2.2.1⟩
 | q::r,h,i+1,p,hp=>Ok.get h.tail (by simpa using hp)
def Ok.mem: ∀{l:Iv},Ok l-> ∀{p:Int×Int},p∈l->0<=p.1/\p.1<p.2/\p.2<18446744073709551616
 | [],_,p,h=>by cases h
 | q::r,h,p,a=>by
  rcases List.mem_cons.1 a with rfl|a
  .exact⟨h.1,h.2.1,h.2.2.1⟩
  .exact Ok.mem h.tail a
def Ok.lt: ∀{l:Iv},Ok l-> ∀{i j:Nat} {p q:Int×Int},i<j->l[i]? =some p->l[j]? =some q->p.2<q.1
 | [],_,i,j,p,q,_,h,_=>by simp at h
 | r::l,h,0,j+1,p,q,_,hp,hq=>by
  simp at hp;subst hp;exact h.2.2.2.1 q (List.mem_of_getElem? (by simpa using hq))
 | r::l,h,i+1,j+1,p,q,hij,hp,hq=>Ok.lt (l:=l) (i:=i) (j:=j) h.tail (by omega) (by grind) (by grind)
 | _::_,_,_,0,_,_,hij,_,_=>by omega
def LO{l:Iv}(h:Ok l)(x:Int){i:Nat}{p:Int×Int}(hi:posn l x<=i)(e:l[i]? =some p):x<p.2:=by
 rcases Nat.lt_or_ge (posn l x) i with a|u
 .have j:posn l x<l.length:=by grind
  have h1:=Xf l x _ (List.getElem?_eq_getElem j);have v:=h.lt a (List.getElem?_eq_getElem j) e;have J:=h.get e;omega
 .have:i=posn l x:=by omega
  subst this;exact Xf l x p e
def Bz(n:Int): ¬mem [] n:=by rintro⟨p,a,_⟩;cases a
def mem_cons{p:Int×Int}{r:Iv}{n:Int}:mem (p::r) n↔(p.1<=n/\n<p.2)∨mem r n:=by
 constructor
 .rintro⟨q,a,h⟩;rcases List.mem_cons.1 a with rfl|a
  .omega
  .exact .inr ⟨q,a,h⟩
 .rintro(h|⟨q,a,h⟩)
  .exact⟨p,by simp,h⟩
  .exact⟨q,by simp[a],h⟩
def mem_append{l m:Iv}{n:Int}:mem (l++m) n↔mem l n∨mem m n:=by
 induction l with
 | nil=>simp[Bz]
 | cons p r ih=>simp[mem_cons,ih,or_assoc]
def oW{p:Int×Int}{a b n:Int}(e:a<b):mem (Qm p a b) n↔(p.1<=n/\n<p.2)/\ ¬(a<=n/\n<b):=by
 unfold Qm;rw[mem_append];have h1:mem (if p.1<a then [(p.1,min p.2 a)]else []) n↔p.1<a/\p.1<=n/\n<min p.2 a:=by
  split<;>rename_i h<;>simp[mem_cons,Bz,h]
 have j:mem (if b<p.2 then [(max p.1 b,p.2)]else []) n↔b<p.2/\max p.1 b<=n/\n<p.2:=by
  split<;>rename_i h<;>simp[mem_cons,Bz,h]
 grind
def Fs{l:Iv}{a b n:Int}(e:a<b):mem (DO l a b) n↔mem l n/\ ¬(a<=n/\n<b):=by
 induction l with
 | nil=>simp[DO,Bz]
 | cons p r ih=>
  simp only[DO,mem_append,mem_cons,oW e,ih]
  grind
def FB: ∀{l m:Iv},Ok (l++m)↔Ok l/\Ok m/\ ∀p∈l,∀q∈m,p.2<q.1
 | [],m=>by simp[Ok]
 | p::r,m=>by
  simp only[List.cons_append,Ok,FB (l:=r) (m:=m),List.mem_append,List.mem_cons]
  grind
def Sm{p q:Int×Int}{a b:Int}(j:q∈Qm p a b)(u:p.1<p.2)(e:a<b):p.1<=q.1/\q.2<=p.2/\q.1<q.2:=by
 unfold Qm at j
 grind
def OD{l:Iv}{a b:Int}{q:Int×Int}(h:Ok l)(j:a<b)(e:q∈DO l a b): ∃p∈l,p.1<=q.1/\q.2<=p.2/\q.1<q.2:=by
 induction l with
 | nil=>cases e
 | cons p r ih=>
  rcases List.mem_append.1 e with e|e
  .exact⟨p,by simp,Sm e h.2.1 j⟩
  .obtain⟨J,u,v⟩:=ih h.tail e
   grind
def vM{p:Int×Int}{a b:Int}(h0:0<=p.1)(h1:p.1<p.2)(j:p.2<18446744073709551616)(e:a<b):Ok (Qm p a b):=by
 unfold Qm;split<;>split<;>simp[Ok]<;>omega
def ND{l:Iv}{a b:Int}(h:Ok l)(e:a<b):Ok (DO l a b):=by
 induction l with
 | nil=>trivial
 | cons p r ih=>
  simp only[DO,FB];refine⟨vM h.1 h.2.1 h.2.2.1 e,ih h.tail,λq v T u=> ?_⟩;have h1:=Sm v h.2.1 e;obtain⟨J,j,K⟩:=OD h.tail e u;have O:=h.2.2.2.1 J j;omega
def NF(l m:Iv):Hm (l++m)=Hm l+Hm m:=by
 induction l with
 | nil=>simp[Hm]
 | cons p r ih=>simp[Hm,ih];omega
def oX{p:Int×Int}{a b:Int}(j:p.1<p.2)(e:a<b):Hm (Qm p a b)=p.2-p.1-OB p a b:=by
 unfold Qm OB;rw[NF];split<;>split<;>simp[Hm]<;>omega
def UM{l:Iv}{a b:Int}(h:Ok l)(e:a<b):Hm (DO l a b)=Hm l-cnt l a b:=by
 induction l with
 | nil=>simp[DO,Hm,cnt]
 | cons p r ih=>
  simp only[DO,NF,Hm,cnt,ih h.tail,oX h.2.1 e];omega
def Py{l:Iv}(h:Ok l):0<=Hm l:=by
 induction l with
 | nil=>simp[Hm]
 | cons p r ih=>have:=ih h.tail;have:=h.2.1;simp only[Hm];omega
def oY: ∀{l:Iv} (h:Ok l) (B:Int),0<=B->B<18446744073709551616->(∀p∈l,B<=p.1)->B+Hm l<18446744073709551616
 | [],_,B,h0,h1,_=>by simp only[Hm];omega
 | p::r,h,B,h0,h1,hB=>by
  have e:=hB p (by simp);have:=oY h.tail p.2 (by have:=h.1;have:=h.2.1;omega) h.2.2.1 (λq a=>by have:=h.2.2.2.1 q a;omega);simp only[Hm];omega
def iQ{l:Iv}(h:Ok l):Hm l<18446744073709551616:=by
 have:=oY h 0 (by omega) (by omega) (λp a=>(h.mem a).1);omega
def Ed(l:Iv)(a b:Int):0<=cnt l a b:=by
 induction l with
 | nil=>simp[cnt]
 | cons p r ih=>simp only[cnt,OB];omega
def UN(l m:Iv)(a b:Int):cnt (l++m) a b=cnt l a b+cnt m a b:=by
 induction l with
 | nil=>simp[cnt]
 | cons p r ih=>simp[cnt,ih];omega
def Sn: ∀{l:Iv} (h:Ok l) {a b:Int},a<=b-> ∀c:Int,a<=c->c<=b->(∀p∈l,c<=p.1)->cnt l a b<=b-c
 | [],_,a,b,hab,c,_,hc,_=>by simp[cnt];omega
 | p::r,h,a,b,hab,c,hac,hcb,hB=>by
  have h1:=hB p (by simp);simp only[cnt,OB];rcases Int.lt_or_le b p.2 with u|u
  .have:cnt r a b=0:=by
    have: ∀l:Iv,(∀q∈l,b<=q.1)->cnt l a b=0:=by
     intro l
     induction l with
     | nil=>intro _;rfl
     | cons q s ih=>
      intro e;have:=e q (by simp);have:=ih λv j=>e v (by simp[j]);simp only[cnt,OB];omega
    exact this r λq e=>by have:=h.2.2.2.1 q e;omega
   omega
  .have:=Sn h.tail hab p.2 (by have:=h.2.1;omega) u (λq e=>by have:=h.2.2.2.1 q e;omega);have:=h.2.1;omega
def Gl: ∀{l:Iv} (h:Ok l) {a b:Int},a<=b->cnt l a b<=b-a
 | [],_,a,b,hab=>by simp[cnt];omega
 | p::r,h,a,b,hab=>by
  have K:=h.2.1;simp only[cnt,OB];have hz:(∀q∈r,b<=q.1)->cnt r a b=0:=by
   intro J;have: ∀l:Iv,(∀q∈l,b<=q.1)->cnt l a b=0:=by
    intro l
    induction l with
    | nil=>intro _;rfl
    | cons q s ih=>
     intro e;have:=e q (by simp);have:=ih λv j=>e v (by simp[j]);simp only[cnt,OB];omega
   grind
  rcases Int.lt_or_le p.2 a with h1|h1
  .have:=Gl h.tail hab;omega
  .rcases Int.lt_or_le b p.2 with u|u
   .have:=hz λq e=>by have:=h.2.2.2.1 q e;omega
    omega
   .have:=Sn h.tail hab p.2 h1 u (λq e=>by have:=h.2.2.2.1 q e;omega);omega
def Tb{l:Iv}{a b:Int}(h: ∀p∈l,p.2<=a):cnt l a b=0:=by
 induction l with
 | nil=>rfl
 | cons q s ih=>
  have:=h q (by simp);have:=ih λj e=>h j (by simp[e]);simp only[cnt,OB];omega
def UO{l:Iv}{a b:Int}(h: ∀p∈l,b<=p.1):cnt l a b=0:=by
 induction l with
 | nil=>rfl
 | cons q s ih=>
  have:=h q (by simp);have:=ih λj e=>h j (by simp[e]);simp only[cnt,OB];omega
def OE(l m:Iv)(a b:Int):DO (l++m) a b=DO l a b++DO m a b:=by
 induction l with
 | nil=>rfl
 | cons p r ih=>simp[DO,ih]
def ZR{l:Iv}{a b:Int}(e:a<b)(h: ∀p∈l,p.1<p.2/\p.2<=a):DO l a b=l:=by
 induction l with
 | nil=>rfl
 | cons p r ih=>
  have u:=h p (by simp);simp only[DO,ih λq j=>h q (by simp[j])];unfold Qm
  grind
def cW{l:Iv}{a b:Int}(e:a<b)(h: ∀p∈l,p.1<p.2/\b<=p.1):DO l a b=l:=by
 induction l with
 | nil=>rfl
 | cons p r ih=>
  have u:=h p (by simp);simp only[DO,ih λq j=>h q (by simp[j])];unfold Qm
  grind
def Qn{l:Iv}{a:Int}: ∀p∈l.take (posn l a),p.2<=a:=by
 intro p e;obtain⟨i,hi,rfl⟩:=List.mem_iff_getElem.1 e;simp only[List.length_take]at hi;rw[List.getElem_take];exact OC l a i _ (by omega) (List.getElem?_eq_getElem (by omega))
def cX{l:Iv}(h:Ok l){a b:Int}(u:a<b){k:Nat}(Y:posn l a<=k)(v: ∀p,l[k]? =some p->b<=p.1):
  DO l a b=l.take (posn l a)++DO ((l.take k).drop (posn l a)) a b++l.drop k:=by
 have h1:l=l.take (posn l a)++(l.take k).drop (posn l a)++l.drop k:=by
  have e1:l.take k=(l.take k).take (posn l a)++(l.take k).drop (posn l a):=(List.take_append_drop _ _).symm;rw[List.take_take,Nat.min_eq_left Y]at e1;rw[<-e1,List.take_append_drop]
 have K:DO (l.take (posn l a)) a b=l.take (posn l a):=ZR u λp J=>⟨(h.mem (List.mem_of_mem_take J)).2.1,Qn p J⟩;have O:DO (l.drop k) a b=l.drop k:=by
  refine cW u λp J=>⟨(h.mem (List.mem_of_mem_drop J)).2.1,?_⟩;obtain⟨i,hi,rfl⟩:=List.mem_iff_getElem.1 J;rw[List.getElem_drop];simp only[List.length_drop]at hi;have e:k<l.length:=by omega
  have h4:=v _ (List.getElem?_eq_getElem e);rcases Nat.eq_zero_or_pos i with rfl|T
  .omega
  .have h5:=h.lt (i:=k) (j:=k+i) (by omega) (List.getElem?_eq_getElem e) (List.getElem?_eq_getElem (by omega));have h6:=h.get (List.getElem?_eq_getElem e);omega
 conv=>lhs;rw[h1]
 rw[OE,OE,K,O]
def Clear(l:Iv)(a b:Int):Prop:= ∀p∈l,p.2<=a∨b<=p.1
def UP{l:Iv}{a b:Int}(h:Ok l)(e:a<b):Clear (DO l a b) a b:=by
 intro q j;have hm:mem (DO l a b) q.1:=⟨q,j,by omega,((ND h e).mem j).2.1⟩;have h1:=(Fs e).1 hm;have K:=(ND h e).mem j;rcases Int.lt_or_le q.1 a with J|v
 .left;rcases Int.lt_or_le a q.2 with u|u
  .have:mem (DO l a b) a:=⟨q,j,by omega,u⟩;have:=((Fs e).1 this).2;omega
  .exact u
 omega
def lD(l:Iv)(i:Nat)(n:Int):mem l n↔mem (l.take i) n∨mem (l.drop i) n:=by
 rw[<-mem_append,List.take_append_drop]
def lE{l:Iv}(h:Ok l){a b:Int}(e:Clear l a b): ∀p∈l.drop (posn l a),b<=p.1:=by
 intro p j;obtain⟨i,hi,rfl⟩:=List.mem_iff_getElem.1 j;rw[List.getElem_drop];simp only[List.length_drop]at hi;have h1:=LO h a (i:=posn l a+i) (by omega) (List.getElem?_eq_getElem (by omega));rcases e _ (List.getElem_mem (l:=l) (n:=posn l a+i) (by omega))with h2|h2<;>omega
def Wi{l:Iv}{a b:Int}(h:Ok l)(aT:a<b)(h0:0<=a)(hb:b<18446744073709551616)(hc:Clear l a b):
  Ok (Ta l a b)/\(∀n,mem (Ta l a b) n↔mem l n∨(a<=n/\n<b))/\Hm (Ta l a b)=Hm l+(b-a):=by
 have aW:=L3 l a;obtain⟨i,hi⟩: ∃i,i=posn l a:=⟨_,rfl⟩;have aH: ∀p∈l.take i,p.2<=a:=by rw[hi];exact Qn
 have aG: ∀p∈l.drop i,b<=p.1:=by rw[hi];exact lE h hc
 have Y:l=l.take i++l.drop i:=(List.take_append_drop i l).symm;have aF:=h;rw[Y,FB]at aF;obtain⟨K,O,aS⟩:=aF;have key: ∀(L M R N:Iv) (x y:Int),l.take i=L++M->l.drop i=N++R->x<=a->b<=y->0<=x->y<18446744073709551616->
   (∀p∈L,p.2<x)->(∀p∈R,y<p.1)->(∀n,(x<=n/\n<y)↔mem M n∨(a<=n/\n<b)∨mem N n)->y-x=Hm M+(b-a)+Hm N->
   Ta l a b=L++[(x,y)]++R->Ok (Ta l a b)/\(∀n,mem (Ta l a b) n↔mem l n∨(a<=n/\n<b))/\Hm (Ta l a b)=Hm l+(b-a):=by
  intro L M R N x y h1 v hx hy aX aY hl hr aI aR he;rw[he];rw[h1]at K;rw[v]at O;rw[FB]at K O;refine⟨?_,λn=> ?_,?_⟩
  .rw[FB,FB];refine⟨⟨K.1,?_,?_⟩,O.2.1,?_⟩
   .simp only[Ok];grind
   .grind
   grind
  .rw[mem_append,mem_append,lD l i n,h1,v,mem_append,mem_append];simp only[mem_cons,Bz,or_false];rw[aI n];constructor
   .grind
   grind
  .have e1:=NF (l.take i) (l.drop i);rw[List.take_append_drop]at e1;rw[e1,h1,v];simp only[NF,Hm];omega
 have aL:(∃q R,l.drop i=q::R/\q.1=b/\addHi l i b=(q.2,i+1)/\l.drop (i+1)=R)∨((∀p∈l.drop i,b<p.1)/\addHi l i b=(b,i)):=by
  unfold addHi;rcases Nat.lt_or_ge i l.length with J|aV
  .have hg:=List.getElem?_eq_getElem J;rw[hg];have hd:l.drop i=l[i]::l.drop (i+1):=List.drop_eq_getElem_cons J;by_cases hq:l[i].1=b
   .grind
   .refine .inr ⟨?_,by simp[hq]⟩;intro p u;rw[hd]at u;have aJ:b<=l[i].1:=aG _ (by grind);rcases List.mem_cons.1 u with rfl|u
    .omega
    .have v:=O;rw[hd]at v;have:=v.2.2.2.1 p u;have:=v.2.1;omega
  grind
 have aM:(∃q L,l.take i=L++[q]/\q.2=a/\addLo l i a=(q.1,i-1)/\l.take (i-1)=L)∨((∀p∈l.take i,p.2<a)/\addLo l i a=(a,i)):=by
  unfold addLo;cases i with
  | zero=>grind
  | succ j=>
   have J:j<l.length:=by omega
   have hg:=List.getElem?_eq_getElem J;simp only[hg];have ht:l.take (j+1)=l.take j++[l[j]]:=List.take_succ_eq_append_getElem J;by_cases hq:l[j].2=a
   .grind
   .refine .inr ⟨?_,by simp[hq]⟩;intro p u;have aJ:l[j].2<=a:=aH _ (by rw[ht];exact List.mem_append_right _ List.mem_cons_self);rw[ht]at u;rcases List.mem_append.1 u with u|u
    .have v:=K;rw[ht,FB]at v;have:=v.2.2 p u l[j] (by simp);have:=v.2.1.2.1;omega
    .simp at u;grind
 have e:Ta l a b=l.take (addLo l i a).2++[((addLo l i a).1,(addHi l i b).1)]++l.drop (addHi l i b).2:=by rw[hi];rfl
 rcases aM with ⟨q,L,h1,v,h3,h4⟩|⟨h1,h3⟩<;>rcases aL with ⟨q',R,T,h6,h7,h8⟩|⟨T,h7⟩
 .rw[h3,h7]at e;simp only[h4,h8]at e;have hq:q∈l.take i:=by rw[h1];simp
  have aB:q'∈l.drop i:=by rw[T];simp
  have g1:=K.mem hq;have g2:=O.mem aB;refine key L [q] R [q'] q.1 q'.2 h1 T (by omega) (by omega) (by omega) (by omega) ?_ ?_ ?_ ?_ e
  .rw[h1,FB]at K;intro p u;exact K.2.2 p u q (by simp)
  .rw[T]at O;exact O.2.2.2.1
  .intro n;simp only[mem_cons,Bz,or_false];omega
  .simp only[Hm];omega
 .rw[h3,h7]at e;simp only[h4]at e;have hq:q∈l.take i:=by rw[h1];simp
  have g1:=K.mem hq;refine key L [q] (l.drop i) [] q.1 b h1 rfl (by omega) (by omega) (by omega) hb ?_ T ?_ ?_ e
  .rw[h1,FB]at K;intro p u;exact K.2.2 p u q (by simp)
  .intro n;simp only[mem_cons,Bz,or_false];omega
  .simp only[Hm];omega
 .rw[h3,h7]at e;simp only[h8]at e;have aB:q'∈l.drop i:=by rw[T];simp
  have g2:=O.mem aB;refine key (l.take i) [] R [q'] a q'.2 (by simp) T (by omega) (by omega) h0 (by omega) h1 ?_ ?_ ?_ e
  .rw[T]at O;exact O.2.2.2.1
  .intro n;simp only[mem_cons,Bz,or_false,false_or];omega
  .simp only[Hm];omega
 .rw[h3,h7]at e;refine key (l.take i) [] (l.drop i) [] a b (by simp) rfl (by omega) (by omega) h0 hb h1 T ?_ ?_ e
  .intro n;simp only[Bz,or_false,false_or]
  .simp only[Hm];omega
def lF{l:Iv}{a b:Int}(h:Ok l)(e:a<b)(h0:0<=a)(v:b<18446744073709551616):
  Ok (DZ l a b)/\(∀n,mem (DZ l a b) n↔mem l n∨(a<=n/\n<b))/\Hm (DZ l a b)=Hm l-cnt l a b+(b-a):=by
 obtain⟨h1,j,u⟩:=Wi (ND h e) e h0 v (UP h e);refine⟨h1,λn=> ?_,by rw[DZ,u,UM h e]⟩;rw[DZ,j,Fs e]
 grind
def ZS{α:Type}{l:List α}{k:Nat}{x:α}(h:l[k]? =some x):l.drop k=x::l.drop (k+1):=by
 obtain⟨a,rfl⟩:=List.getElem?_eq_some_iff.1 h;exact List.drop_eq_getElem_cons a
def oZ{p:Int×Int}{a m b:Int}(j:p.1<p.2)(h1:a<=m)(e:m<=b):OB p a b=OB p a m+OB p m b:=by
 unfold OB;omega
def O4: ∀{l:Iv},(∀p∈l,p.1<p.2)-> ∀{a m b:Int},a<=m->m<=b->cnt l a b=cnt l a m+cnt l m b
 | [],_,a,m,b,_,_=>rfl
 | p::r,h,a,m,b,h1,h2=>by
  simp only[cnt];rw[O4 (λq e=>h q (List.mem_cons_of_mem _ e)) h1 h2,oZ (h p List.mem_cons_self) h1 h2];omega
def Tn: ∀{l:Iv},(∀p∈l,p.1<p.2)-> ∀{a:Int},0<cnt l a (a+1)↔mem l a
 | [],_,a=>by simp[cnt,mem]
 | p::r,h,a=>by
  have j:=Tn (l:=r) (λq e=>h q (List.mem_cons_of_mem _ e)) (a:=a);have h0:=Ed r a (a+1);have u:=h p List.mem_cons_self;rw[mem_cons,<-j];simp only[cnt];unfold OB;omega
def Hq{l:Iv}(h:Ok l){a b:Int}(u:a<=b):cnt l a b=b-a↔ ∀n,a<=n->n<b->mem l n:=by
 have j: ∀p∈l,p.1<p.2:=λp T=>(h.mem T).2.1;obtain⟨k,O⟩: ∃k:Nat,b=a+k:=⟨(b-a).toNat,by omega⟩;subst O
 induction k with
 | zero=>
  have h1:=Gl h (a:=a) (b:=a+(0:Nat)) u;have K:=Ed l a (a+(0:Nat))
  grind
 | succ k J=>
  have J:=J (by omega);have e:=O4 j (a:=a) (m:=a+(k:Nat)) (b:=a+((k+1:Nat):Int)) (by omega) (by omega);have h1:=Gl h (a:=a) (b:=a+(k:Nat)) (by omega);have K:=Gl h (a:=a+(k:Nat)) (b:=a+(k:Nat)+1) (by omega);have v:=Tn j (a:=a+(k:Nat))
  grind
def Ok.o5{l:Iv}(h:Ok l): ∀p∈l,p.1<p.2:=λp a=>(h.mem a).2.1
def Ht{l:Iv}(h:Ok l){a b:Int}(j:a<=b):cnt l a b=0↔ ∀n,a<=n->n<b-> ¬mem l n:=by
 obtain⟨k,K⟩: ∃k:Nat,b=a+k:=⟨(b-a).toNat,by omega⟩;subst K
 induction k with
 | zero=>
  have h1:=Gl h (a:=a) (b:=a+(0:Nat)) j;have J:=Ed l a (a+(0:Nat))
  grind
 | succ k v=>
  have v:=v (by omega);have e:=O4 h.o5 (a:=a) (m:=a+(k:Nat)) (b:=a+((k+1:Nat):Int)) (by omega) (by omega);have h1:=Ed l a (a+(k:Nat));have J:=Ed l (a+(k:Nat)) (a+(k:Nat)+1);have u:=Tn h.o5 (a:=a+(k:Nat))
  grind
def Eb{l:Iv}(h:Ok l){a b:Int}(e:a<b)(h0:0<=a)(j:b<18446744073709551616)(n:Int):mem (DZ l a b) n↔mem l n∨(a<=n/\n<b):=
 (lF h e h0 j).2.1 n
def iR{l:Iv}(h:Ok l){n:Int}(hm:mem l n):0<=n:=by
 obtain⟨p,a,h1,e⟩:=hm;have:=(h.mem a).1;omega
def Xg{l:Iv}(h:Ok l): ∀{a b:Int},a<b->(∀n,a<=n->n<b->mem l n)-> ∃q∈l,q.1<=a/\b<=q.2:=by
 induction l with
 | nil=>intro a b e hm;exact absurd (hm a (Int.le_refl _) e) (Bz _)
 | cons p r ih=>
  intro a b e hm;by_cases h1:p.1<=a/\a<p.2
  .by_cases h2:b<=p.2
   .grind
   .have j:=hm p.2 (by omega) (by omega);rcases mem_cons.1 j with u|⟨q,j,u,v⟩
    .omega
    .have:=h.2.2.2.1 q j;omega
  .have J: ∀n,a<=n->n<b->mem r n:=by
    intro n K O;rcases mem_cons.1 (hm n K O)with u|u
    .exfalso;have T:=hm a (Int.le_refl _) e;rcases mem_cons.1 T with v|⟨q,j,v,Y⟩
     .exact h1 v
     .have:=h.2.2.2.1 q j;omega
    .exact u
   obtain⟨q,j,u⟩:=ih h.tail e J
   grind
def o6: ∀{l m:Iv},Ok l->Ok m->(∀n,mem l n↔mem m n)->l=m
 | [],[],_,_,_=>rfl
 | [],q::m,_,hm,h=>absurd ((h q.1).2 (mem_cons.2 (.inl ⟨by omega,hm.2.1⟩))) (Bz _)
 | p::l,[],u,_,h=>absurd ((h p.1).1 (mem_cons.2 (.inl ⟨by omega,u.2.1⟩))) (Bz _)
 | p::l,q::m,u,hm,h=>by
  have first: ∀{p q:Int×Int} {l m:Iv},Ok (p::l)->Ok (q::m)->(∀n,mem (p::l) n->mem (q::m) n)->q.1<=p.1/\(p.1<=q.1->p.2<=q.2):=by
   intro p q l m u hm h;constructor
   .rcases mem_cons.1 (h p.1 (mem_cons.2 (.inl ⟨by omega,u.2.1⟩)))with h1|⟨r,j,h1,v⟩
    .exact h1.1
    .have:=hm.2.2.2.1 r j;have:=hm.2.1;omega
   .intro hle;obtain⟨r,j,h1,v⟩:=Xg hm (a:=p.1) (b:=p.2) u.2.1 λn h1 v=>h n (mem_cons.2 (.inl ⟨h1,v⟩));rcases List.mem_cons.1 j with rfl|j
    .exact v
    .have:=hm.2.2.2.1 r j;have:=hm.2.1;omega
  have h1:=first u hm λn=>(h n).1
  have v:=first hm u λn=>(h n).2
  have e1:p.1=q.1:=by omega
  have e2:p.2=q.2:=by have:=h1.2 (by omega);have:=v.2 (by omega);omega
  have e:p=q:=Prod.ext e1 e2;subst e;rw[o6 u.tail hm.tail];intro n;have T:=h n;rw[mem_cons,mem_cons]at T;constructor
  .rintro⟨r,j,K,O⟩;rcases T.1 (.inr ⟨r,j,K,O⟩)with J|J
   .have:=u.2.2.2.1 r j;omega
   .exact J
  .rintro⟨r,j,K,O⟩;rcases T.2 (.inr ⟨r,j,K,O⟩)with J|J
   .have:=hm.2.2.2.1 r j;omega
   .exact J
def OF{l:Iv}(h:Ok l){a k:Int}(e:a<=k):(mem l k->cnt l a (k+1)=cnt l a k+1)/\(¬mem l k->cnt l a (k+1)=cnt l a k):=by
 have h1:=O4 (Ok.o5 h) e (show k<=k+1 by omega);have j:=Tn (Ok.o5 h) (a:=k);have u:=Gl h (show k<=k+1 by omega);have v:=Ed l k (k+1)
 grind
def O5: ∀{l:Iv},(∀p∈l,p.1<p.2)-> ∀{a b:Int},(∀n,mem l n->a<=n/\n<b)->cnt l a b=Hm l
 | [],_,a,b,_=>rfl
 | p::r,h,a,b,hin=>by
  have j:=h p List.mem_cons_self;have h1:=hin p.1 (mem_cons.2 (.inl ⟨by omega,j⟩));have J:=hin (p.2-1) (mem_cons.2 (.inl ⟨by omega,by omega⟩));have v:=O5 (l:=r) (λq u=>h q (List.mem_cons_of_mem _ u)) (a:=a) (b:=b) λn e=>hin n (mem_cons.2 (.inr e));simp only[cnt,Hm,OB,v];omega
def aget:List (Int×Value)->Int->Option Value
 | [],_=>none
 | p::r,n=>if p.1=n then some p.2 else aget r n
structure MapI(k:IntKind)(es:Array MapEntry)(clock:Nat)(m:List (Int×Value)):Prop where
 keys:es.toList.map (λe=>(e.key,e.val))=m.map (λp=>(Value.int k p.1,p.2))
 nodup:(m.map (·.1)).Nodup
 born:(es.toList.map (·.born)).Nodup
 lt: ∀e∈es.toList,e.born<clock
def MapI.empty(k:IntKind):MapI k #[] 0 []:=⟨rfl,by simp,by simp,by simp⟩
def ZT(k:IntKind)(a b:Int):Instr.sameNow (.int k) (.int k a) (.int k b)=some (a==b):=by simp[Instr.sameNow]
def Qo(k:IntKind)(n:Int): ∀(es:List MapEntry) (m:List (Int×Value)) (i:Nat),es.map (λe=>(e.key,e.val))=m.map (λp=>(Value.int k p.1,p.2))->
  ∃res,Instr.findNow (.int k) (.int k n) es i=some res/\
   ((res=none/\aget m n=none)∨ ∃j v,res=some (i+j,v)/\aget m n=some v/\m[j]? =some (n,v)/\j<es.length)
 | [],[],i,_=>⟨none,rfl,.inl ⟨rfl,rfl⟩⟩
 | [],_::_,i,h=>by simp at h
 | _::_,[],i,h=>by simp at h
 | e::r,p::m,i,h=>by
  simp only[List.map_cons,List.cons.injEq,Prod.mk.injEq]at h;obtain⟨⟨K,T⟩,O⟩:=h;simp only[Instr.findNow,K,ZT];by_cases hn:n=p.1
  .subst hn;simp only[beq_self_eq_true];refine⟨_,rfl,.inr ⟨0,p.2,by simp[T],by simp[aget],by simp,by simp⟩⟩
  .have:(n==p.1)=false:=by simp[hn]
   simp only[this];obtain⟨res,h1,J⟩:=Qo k n r m (i+1) O;refine⟨res,h1,?_⟩;rcases J with ⟨a,u⟩|⟨j,v,a,u,Y,h6⟩
   .exact .inl ⟨a,by simp[aget,Ne.symm hn,u]⟩
   .refine .inr ⟨j+1,v,by rw[a];grind,by simp[aget,Ne.symm hn,u],by grind,by simp;omega⟩
def MapI.find{k:IntKind}{es:Array MapEntry}{c:Nat}{m:List (Int×Value)}(h:MapI k es c m)(n:Int):
  ∃res,Nh k n es res/\((res=none/\aget m n=none)∨ ∃j v,res=some (j,v)/\aget m n=some v/\m[j]? =some (n,v)/\j<es.size):=by
 obtain⟨res,h1,a⟩:=Qo k n es.toList m 0 h.keys;refine⟨res,h1,?_⟩
 grind
def Mh{k:IntKind}{n:Int}{b:Nat}{w:World}{z:Value}{K:Value->Bool->Array MapEntry->Prop}{es:Array MapEntry}{c:Nat}{m:List (Int×Value)}
  (J:w.heap[b]? =some (.map es c))(h:MapI k es c m)(a:K ((aget m n).getD z) (aget m n).isSome es):n9 k n (some b) w z K:=by
 obtain⟨res,h1,u⟩:=h.find n;refine⟨es,res,⟨c,J⟩,h1,?_⟩;rcases u with ⟨rfl,e⟩|⟨j,v,rfl,e,_⟩
 .rw[e]at a;exact a
 .rw[e]at a;exact a
def Mi{m:List (Int×Value)}{n:Int}{q:List (Int×Value)}(h:aget m n=none):aget (m++q) n=aget q n:=by
 induction m with
 | nil=>rfl
 | cons p r ih=>
  simp only[aget]at h;split at h
  .cases h
  .rename_i hp;simp[aget,hp,ih h]
def Pb{m:List (Int×Value)}{n:Int}:aget m n=none↔n∉m.map (·.1):=by
 induction m with
 | nil=>simp[aget]
 | cons p r ih=>
  simp only[aget,List.map_cons,List.mem_cons,not_or]
  grind
def Ry{m q:List (Int×Value)}{n:Int}{v:Value}(h:aget m n=some v):aget (m++q) n=some v:=by
 induction m with
 | nil=>cases h
 | cons p r ih=>
  simp only[aget]at h;by_cases hp:p.1=n
  .rw[if_pos hp]at h;simp[aget,hp,h]
  .rw[if_neg hp]at h;simp[aget,hp,ih h]
def o7{m:List (Int×Value)}{n:Int}{v:Value}{j:Nat}{u:Value}(a:m[j]? =some (n,u))(K:(m.map (·.1)).Nodup):
  (∀i,aget (m.set j (n,v)) i=if i=n then some v else aget m i)/\(m.set j (n,v)).map (·.1)=m.map (·.1):=by
 induction m generalizing j with
 | nil=>simp at a
 | cons p r ih=>
  cases j with
  | zero=>
   simp at a;subst a;refine⟨λi=> ?_,by simp⟩;simp only[List.set_cons_zero,aget]
   grind
  | succ j=>
   simp only[List.map_cons,List.nodup_cons]at K;obtain⟨h1,T⟩:=ih (by simpa using a) K.2;have J:n∈r.map (·.1):=List.mem_map.2 ⟨_,List.mem_of_getElem? (by simpa using a),rfl⟩;have O:p.1≠n:=λe=>K.1 (e▸J);refine⟨λi=> ?_,by grind⟩;simp only[List.set_cons_succ,aget,h1]
   grind
def MapI.put{k:IntKind}{es:Array MapEntry}{c:Nat}{m:List (Int×Value)}(h:MapI k es c m)(n:Int)(v:Value){res:Option (Nat×Value)}(hf:Nh k n es res):
  ∃J c' K,mapPut es c (.int k n) v res= .map J c'/\MapI k J c' K/\(∀i,aget K i=if i=n then some v else aget m i)/\K.length<=m.length+1/\
   (aget m n=none->K.length=m.length+1)/\(aget m n≠none->K.length=m.length):=by
 obtain⟨O,h1,h2⟩:=h.find n;have:O=res:=by unfold Nh at h1 hf;rw[h1]at hf;exact Option.some.inj hf
 subst this;rcases h2 with ⟨rfl,T⟩|⟨j,u,rfl,T,h4,h5⟩
 .refine⟨_,_,m++[(n,v)],rfl,⟨?_,?_,?_,?_⟩,λi=> ?_,by simp,by simp,λh=>absurd T h⟩
  .simp[h.keys]
  .rw[List.map_append,List.nodup_append];refine⟨h.nodup,by simp,λa ha b Y=> ?_⟩;simp at Y;subst Y;intro e;subst e;exact Pb.1 T ha
  .simp only[Array.toList_push,List.map_append,List.nodup_append];refine⟨h.born,by simp,λa ha b Y=> ?_⟩;simp at Y;obtain⟨e,he,rfl⟩:=List.mem_map.1 ha;have:=h.lt e he;omega
  .intro e he;simp only[Array.toList_push,List.mem_append,List.mem_singleton]at he;rcases he with he|rfl
   .have:=h.lt e he;omega
   .simp
  .by_cases hi:i=n
   .subst hi;rw[if_pos rfl,Mi T];simp[aget]
   .rw[if_neg hi];cases hg:aget m i with
    | none=>rw[Mi hg];simp[aget,Ne.symm hi]
    | some u=>exact Ry hg
 .obtain⟨g1,g2⟩:=o7 (v:=v) h4 h.nodup;refine⟨_,_,m.set j (n,v),rfl,⟨?_,by rw[g2];exact h.nodup,?_,?_⟩,g1,by simp,(λh=>by grind),λ_=>by simp⟩
  .apply List.ext_getElem?;intro i;have hk:=congrArg (λl=>l[i]?) h.keys
   grind
  .have:(es.modify j λe=>{e with key:=.int k n,val:=v}).toList.map (·.born)=es.toList.map (·.born):=by
    apply List.ext_getElem?
    grind
   rw[this];exact h.born
  .intro e he;obtain⟨i,hi,rfl⟩:=List.mem_iff_getElem.1 he;simp only[Array.getElem_toList,Array.getElem_modify];have aF:i<es.size:=by simpa using hi
   split
   .exact h.lt es[i] (by simp)
   .exact h.lt es[i] (by simp)
def UQ{k:IntKind}{n:Int}{v:Value}{b:Nat}{w:World}{K:World->Prop}{es:Array MapEntry}{c:Nat}{m:List (Int×Value)}
  (J:w.heap[b]? =some (.map es c))(h:MapI k es c m)
  (hK: ∀w' a j e,w'.heap[b]? =some (.map a j)->MapI k a j e->(∀i,aget e i=if i=n then some v else aget m i)->e.length<=m.length+1->
   (aget m n=none->e.length=m.length+1)->(aget m n≠none->e.length=m.length)->Ext (Ja b) w w'->w'.heap.size=w.heap.size->K w'):KT k n v (some b) w K:=by
 obtain⟨res,h1,_⟩:=h.find n;refine⟨b,es,c,res,rfl,J,h1,?_⟩;obtain⟨a,j,e,O,T,Y,h5,h6,h7⟩:=h.put n v h1;rw[O];have u:=FM J;exact hK _ a j e (by simp[World.GR,u]) T Y h5 h6 h7 (Ext.GR w b _) (by simp[World.GR])
def Ip{α β:Type}(f:α->β): ∀(l:List α) (j:Nat),(l.eraseIdx j).map f=(l.map f).eraseIdx j
 | [],j=>by simp
 | x::r,0=>by simp
 | x::r,j+1=>by simp[Ip f r j]
def cY{m:List (Int×Value)}{n:Int}{j:Nat}{u:Value}(v:m[j]? =some (n,u))(J:(m.map (·.1)).Nodup):
  (∀i,aget (m.eraseIdx j) i=if i=n then none else aget m i)/\((m.eraseIdx j).map (·.1)).Nodup:=by
 refine⟨?_,?_⟩
 .induction m generalizing j with
  | nil=>simp at v
  | cons p r ih=>
   simp only[List.map_cons,List.nodup_cons]at J;cases j with
   | zero=>
    simp at v;subst v;intro i;simp only[List.eraseIdx_cons_zero,aget];by_cases h:n=i
    .subst h;simp;exact Pb.2 J.1
    grind
   | succ j=>
    have a:n∈r.map (·.1):=List.mem_map.2 ⟨_,List.mem_of_getElem? (by simpa using v),rfl⟩;have K:p.1≠n:=λe=>J.1 (e▸a);intro i;simp only[List.eraseIdx_cons_succ,aget]
    grind
 grind
def MapI.del{k:IntKind}{es:Array MapEntry}{c:Nat}{m:List (Int×Value)}(h:MapI k es c m)(n:Int){res:Option (Nat×Value)}(J:Nh k n es res):
  ∃a K,XY es c res= .map a c/\MapI k a c K/\(∀i,aget K i=if i=n then none else aget m i)/\K.length<=m.length/\a.toList.Sublist es.toList/\
   (∀e∈es.toList,e.key≠ .int k n->e∈a.toList):=by
 obtain⟨v,h1,O⟩:=h.find n;have:v=res:=by unfold Nh at h1 J;rw[h1]at J;exact Option.some.inj J
 subst this;rcases O with ⟨rfl,T⟩|⟨j,u,rfl,T,Y,h5⟩
 .refine⟨es,m,rfl,h,λi=> ?_,Nat.le_refl _,List.Sublist.refl _,λ_ h _=>h⟩
  grind
 .obtain⟨g1,g2⟩:=cY Y h.nodup;have he:(es.eraseIdxIfInBounds j).toList=es.toList.eraseIdx j:=by simp
  refine⟨_,m.eraseIdx j,rfl,⟨?_,g2,?_,?_⟩,g1,List.length_eraseIdx_le _ _,?_,?_⟩
  .rw[he,Ip,Ip,h.keys]
  .rw[he,Ip];exact h.born.sublist (List.eraseIdx_sublist _ _)
  .intro e hm;rw[he]at hm;exact h.lt e (List.mem_of_mem_eraseIdx hm)
  .grind
  .intro e hm hk;rw[he,List.mem_eraseIdx_iff_getElem?];obtain⟨i,hi⟩:=List.mem_iff_getElem?.1 hm;refine⟨i,?_,hi⟩;intro e2;subst e2;have aA:=congrArg (λl=>l[i]?) h.keys
   grind
def Pz{k:IntKind}{n:Int}{b:Nat}{w:World}{K:World->Prop}{es:Array MapEntry}{c:Nat}{m:List (Int×Value)}
  (v:w.heap[b]? =some (.map es c))(h:MapI k es c m)
  (hK: ∀w' a j,w'.heap[b]? =some (.map a c)->MapI k a c j->(∀i,aget j i=if i=n then none else aget m i)->j.length<=m.length->a.toList.Sublist es.toList->
   (∀e∈es.toList,e.key≠ .int k n->e∈a.toList)->Ext (Ja b) w w'->w'.heap.size=w.heap.size->K w'):MDEL k n (some b) w K:=by
 obtain⟨res,h1,_⟩:=h.find n;refine⟨es,c,res,v,h1,?_⟩;obtain⟨a,j,J,O,T,Y,h6,h7⟩:=h.del n h1;rw[J];have u:=FM v;exact hK _ a j (by simp[World.GR,u]) O T Y h6 h7 (Ext.GR w b _) (by simp[World.GR])
def MapI.Qq{k:IntKind}{es:Array MapEntry}{c:Nat}{m:List (Int×Value)}(h:MapI k es c m){e:MapEntry}(he:e∈es.toList):
  ∃n,e.key= .int k n/\aget m n=some e.val:=by
 obtain⟨i,hi⟩:=List.mem_iff_getElem?.1 he;have a:=congrArg (λl=>l[i]?) h.keys;simp only[List.getElem?_map,hi,Option.map_some]at a;cases hm:m[i]? with
 | none=>grind
 | some p=>
  rw[hm]at a;simp only[Option.map_some,Option.some.injEq,Prod.mk.injEq]at a;refine⟨p.1,a.1,?_⟩;have: ∀(m:List (Int×Value)) (i:Nat),(m.map (·.1)).Nodup->m[i]? =some p->aget m p.1=some p.2:=by
   intro m
   induction m with
   | nil=>grind
   | cons q r ih=>
    intro i u hi;simp only[List.map_cons,List.nodup_cons]at u;cases i with
    | zero=>simp at hi;subst hi;simp[aget]
    | succ i=>
     have j:p.1∈r.map (·.1):=List.mem_map.2 ⟨_,List.mem_of_getElem? (by simpa using hi),rfl⟩;have v:q.1≠p.1:=λe=>u.1 (e▸j);simp[aget,v,ih i u.2 (by grind)]
  rw[this m i h.nodup hm,a.2]
def MapI.To{k:IntKind}{es:Array MapEntry}{c:Nat}{m:List (Int×Value)}(h:MapI k es c m){n:Int}{v:Value}(J:aget m n=some v):
  ∃e∈es.toList,e.key= .int k n/\e.val=v:=by
 obtain⟨res,h1,K⟩:=h.find n;rcases K with ⟨_,a⟩|⟨j,u,rfl,a,O,T⟩
 .grind
 .rw[a]at J;cases J;obtain⟨e,he,Y,hv⟩:=NA k n es.toList 0 j _ h1
  grind
def PS(s:AY):Nat->Prop:=λk=> ∃a,s.base=some a/\k=a.block
structure Pr where
 holds:(Nat->Prop)->World->Prop
 loc: ∀{D:Nat->Prop} {w w':World} {S:Nat->Prop},holds D w->Ext S w w'->(∀k,D k-> ¬S k)->holds D w'
 lt: ∀{D:Nat->Prop} {w:World} {k:Nat},holds D w->D k->k<w.heap.size
def MV:List Pr->(Nat->Prop)->World->Prop
 | [],D,_=> ∀k,¬D k
 | P::Ps,D,w=> ∃a e,P.holds a w/\MV Ps e w/\(∀k,a k-> ¬e k)/\ ∀k,D k↔a k∨e k
def Sat(Ps:List Pr)(w:World):Prop:= ∃D,MV Ps D w
def MV.loc: ∀{Ps:List Pr} {D:Nat->Prop} {w w':World} {S:Nat->Prop},MV Ps D w->Ext S w w'->(∀k,D k-> ¬S k)->MV Ps D w'
 | [],_,_,_,_,h,_,_=>h
 | P::Ps,D,w,w',S,⟨D1,D2,h1,h2,hd,hD⟩,he,hS=>⟨D1,D2,P.loc h1 he λk a=>hS k ((hD k).2 (.inl a)),h2.loc he λk a=>hS k ((hD k).2 (.inr a)),hd,hD⟩
def MV.lt: ∀{Ps:List Pr} {D:Nat->Prop} {w:World} {k:Nat},MV Ps D w->D k->k<w.heap.size
 | [],_,_,_,h,a=>(h _ a).elim
 | P::Ps,D,w,k,⟨D1,D2,h1,h2,hd,e⟩,a=>by
  rcases(e k).1 a with h|h
  .exact P.lt h1 h
  .exact h2.lt h
def MV.append: ∀{Ps Qs:List Pr} {D:Nat->Prop} {w:World},MV (Ps++Qs) D w↔ ∃e a,MV Ps e w/\MV Qs a w/\(∀k,e k-> ¬a k)/\ ∀k,D k↔e k∨a k
 | [],Qs,D,w=>by
  constructor
  .intro h;exact⟨λ_=>False,D,λ_ f=>f,h,λ_ f=>f.elim,λk=>by simp⟩
  .rintro⟨e,a,h1,v,_,J⟩;have:D=a:=by
    funext k;have:=J k;simp[h1 k]at this
    grind
   grind
 | P::Ps,Qs,D,w=>by
  constructor
  .rintro⟨e,a,h1,v,hd,J⟩;obtain⟨j,u,g1,g2,T,O⟩:=MV.append.1 v;refine⟨λk=>e k∨j k,u,⟨e,j,h1,g1,λk K he=>hd k K ((O k).2 (.inl he)),λk=>Iff.rfl⟩,g2,?_,?_⟩
   .grind
   grind
  .rintro⟨e,a,⟨j,u,h1,v,hd,J⟩,g2,T,O⟩;refine⟨j,λk=>u k∨a k,h1,MV.append.2 ⟨u,a,v,g2,λk K=>T k ((J k).2 (.inr K)),λk=>Iff.rfl⟩,?_,?_⟩
   .grind
   grind
def MV.perm{Ps Qs:List Pr}(h:Ps.Perm Qs): ∀{D:Nat->Prop} {w:World},MV Ps D w->MV Qs D w:=by
 induction h with
 | nil=>grind
 | cons P _ ih=>
  rintro D w ⟨a,j,h1,K,e⟩;exact⟨a,j,h1,ih K,e⟩
 | swap P Q l=>
  rintro D w ⟨a,j,h1,⟨v,u,e,O,hd,T⟩,J,gD⟩;refine⟨v,λk=>a k∨u k,e,⟨a,u,h1,O,λk Y he=>J k Y ((T k).2 (.inr he)),λk=>Iff.rfl⟩,?_,?_⟩
  .grind
  grind
 | trans _ _ ih1 ih2=>grind
def Sat.perm{Ps Qs:List Pr}{w:World}(h:Sat Ps w)(a:Ps.Perm Qs):Sat Qs w:=let⟨D,h⟩:=h;⟨D,h.perm a⟩
def EH{α:Type}: ∀{l:List α} {i:Nat} {x:α},l[i]? =some x->l.Perm (x::l.eraseIdx i)
 | [],i,x,h=>by simp at h
 | y::l,0,x,h=>by simp at h;subst h;exact .refl _
 | y::l,i+1,x,h=>by
  have:=EH (l:=l) (i:=i) (x:=x) (by grind);exact(this.cons y).trans (.swap x y _)
def Mj{α:Type}: ∀{l:List α} {i:Nat} {x:α},i<l.length->(x::l.eraseIdx i).Perm (l.set i x)
 | [],i,x,h=>by simp at h
 | y::l,0,x,h=>.refl _
 | y::l,i+1,x,h=>by
  have:=Mj (l:=l) (i:=i) (x:=x) (by simpa using h);exact(List.Perm.swap y x _).trans (this.cons y)
section
variable{Ps F:List Pr}{P P':Pr}{w w':World}
def Sat.front(i:Nat)(H:Sat Ps w)(hi:Ps[i]? =some P):Sat (P::Ps.eraseIdx i) w:=H.perm (EH hi)
def Sat.back(i:Nat)(H:Sat (P'::Ps.eraseIdx i) w)(hi:i<Ps.length:=by simp):Sat (Ps.set i P') w:=H.perm (Mj hi)
def Sat.nothing(H:Sat Ps w)(he:Ext AN w w'):Sat Ps w':=let⟨D,h⟩:=H;⟨D,h.loc he λ_ _ f=>f⟩
def Sat.drew(H:Sat Ps w):Sat Ps w.drew:=H.nothing (Ext.drew _ w)
def Sat.tail(H:Sat (P::F) w):Sat F w:=let⟨_,_,D2,_,h,_⟩:=H;⟨D2,h⟩
def Sat.head(H:Sat (P::F) w): ∃D,P.holds D w:=let⟨_,D1,_,h,_⟩:=H;⟨D1,h⟩
def Sat.step(H:Sat (P::F) w): ∃D,P.holds D w/\ ∀w' a P',Ext D w w'->P'.holds a w'->(∀k,a k->D k∨w.heap.size<=k)->Sat (P'::F) w':=by
 obtain⟨D,u,v,h1,j,hd,T⟩:=H;refine⟨u,h1,λw' a P' he K O=>⟨_,a,v,K,j.loc he λk e h=>hd k h e,λk e h=> ?_,λk=>Iff.rfl⟩⟩;rcases O k e with J|J
 .grind
 .have:=j.lt h;omega
def Sat.new(H:Sat F w){D:Nat->Prop}(he:Ext AN w w')(j:P.holds D w')(v: ∀k,D k->w.heap.size<=k):Sat (P::F) w':=by
 obtain⟨e,a⟩:=H;refine⟨_,D,e,j,a.loc he λ_ _ f=>f,λk u h=> ?_,λk=>Iff.rfl⟩;have h1:=v k u;have:=a.lt h;omega
end
def Old(w0:World):Pr where
 holds D w:=(∀k,D k↔k<w0.heap.size)/\Ext AN w0 w
 loc h he hS:=⟨h.1,h.2.trans he (λ_ _ f=>f) λi hi a=>hS i ((h.1 i).2 hi) a⟩
 lt h hk:=by have h1:=(h.1 _).1 hk;have:=h.2.size;omega
def Sat.start(w:World):Sat [Old w] w:=⟨_,λk=>k<w.heap.size,λ_=>False,⟨λ_=>Iff.rfl,Ext.refl _ _⟩,λ_ f=>f,λ_ _ f=>f,λ_=>Iff.rfl⟩
def Sat.Pq{Ps:List Pr}{w w0:World}(i:Nat)(H:Sat Ps w)(hi:Ps[i]? =some (Old w0)):Ext AN w0 w:=let⟨_,h⟩:=(H.front i hi).head;h.2
def Kx(Qs:List Pr):Pr where
 holds D w:=MV Qs D w
 loc:=MV.loc
 lt:=MV.lt
def Ex{α:Type}(P:α->Pr):Pr where
 holds D w:= ∃x,(P x).holds D w
 loc h he hS:=let⟨x,h⟩:=h;⟨x,(P x).loc h he hS⟩
 lt h hk:=let⟨x,h⟩:=h;(P x).lt h hk
def Jt(p:Prop)(P:Pr):Pr where
 holds D w:=p/\P.holds D w
 loc h he hS:=⟨h.1,P.loc h.2 he hS⟩
 lt h hk:=P.lt h.2 hk
def Sat.star{Qs F:List Pr}{w:World}:Sat (Kx Qs::F) w↔Sat (Qs++F) w:=by
 constructor
 .rintro⟨D,a,e,h1,j,u⟩;exact⟨D,MV.append.2 ⟨a,e,h1,j,u⟩⟩
 .rintro⟨D,h⟩;obtain⟨a,e,h1,j,u⟩:=MV.append.1 h;exact⟨D,a,e,h1,j,u⟩
def Sat.ex{α:Type}{P:α->Pr}{F:List Pr}{w:World}:Sat (Ex P::F) w↔ ∃x,Sat (P x::F) w:=by
 constructor
 .rintro⟨D,a,e,⟨x,h1⟩,j,u⟩;exact⟨x,D,a,e,h1,j,u⟩
 .rintro⟨x,D,a,e,h1,j,u⟩;exact⟨D,a,e,⟨x,h1⟩,j,u⟩
def Sat.where{p:Prop}{P:Pr}{F:List Pr}{w:World}:Sat (Jt p P::F) w↔p/\Sat (P::F) w:=by
 constructor
 .rintro⟨D,a,e,⟨x,h1⟩,j,u⟩;exact⟨x,D,a,e,h1,j,u⟩
 .rintro⟨x,D,a,e,h1,j,u⟩;exact⟨D,a,e,⟨x,h1⟩,j,u⟩
def Cells(b t:Nat)(vs:List Value):Pr where
 holds D w:=(∀k,D k↔k=b)/\b<w.heap.size/\ ∀j v,vs[j]? =some v->w.cell? ⟨b,j,none⟩=some v/\w.frozen? ⟨b,j,none⟩=false
 loc h he hS:=⟨h.1,Nat.lt_of_lt_of_le h.2.1 he.size,λj v a=>⟨he.cell (h.2.2 j v a).1 (hS _ ((h.1 _).2 rfl)),by
  rw[he.frozen (p:=⟨_,j,none⟩) h.2.1 (hS _ ((h.1 _).2 rfl))];grind⟩⟩
 lt h hk:=by have:=(h.1 _).1 hk;omega
section
variable{Ps F:List Pr}{w w':World}{b t:Nat}{vs:List Value}
def Sat.AW(H:Sat (Cells b t vs::F) w){o:Nat}{v:Value}(a:vs[o]? =some v):w.cell? (Addr.mk b o none)=some v:=let⟨_,h⟩:=H.head;(h.2.2 o v a).1
def Sat.cell(H:Sat (Cells b t vs::F) w){o m:Nat}{v:Value}(a:vs[o+m]? =some v):w.cell? ((Addr.mk b o none).add m)=some v:=by
 rw[add_eq];exact H.AW a
def Sat.uZ(H:Sat (Cells b t vs::F) w){o:Nat}(ho:o<vs.length):w.frozen? (Addr.mk b o none)=false:=let⟨_,h⟩:=H.head;(h.2.2 o _ (List.getElem?_eq_getElem ho)).2
def OG{D:Nat->Prop}(a: ∀k,D k↔k=b)(h:w.heap[b]? =some (.cells ⟨vs⟩ t)):(Cells b t vs).holds D w:=
 ⟨a,FM h,λj v e=>⟨by rw[AS h];grind,by simp[World.frozen?,h]⟩⟩
def AJ(H:Sat F w){K:Nat->World->Prop}(a: ∀b w',Sat (Cells b t vs::F) w'->Ext AN w w'->K b w'):AL (.cells ⟨vs⟩ t) w K:=
 A4 λw' e u he=>a _ _ (H.new (P:=Cells w.heap.size t vs) (D:=λk=>k=w.heap.size) he (OG (λ_=>Iff.rfl) e) λk j=>by omega) he
def Sat.stored(H:Sat (Cells b t vs::F) w){o:Nat}(ho:o<vs.length)(v:Value):Sat (Cells b t (vs.set o v)::F) (w.setCell ⟨b,o,none⟩ v):=by
 obtain⟨D,h,O⟩:=H.step;have a:=OA (v:=v) (h.2.2 o _ (List.getElem?_eq_getElem ho)).1;refine O _ D _ (a.ext.mono λi _ hi=>(h.1 i).2 hi) ⟨h.1,by rw[a.size];exact h.2.1,λj u J=> ?_⟩ λk K=>.inl K;rw[a.frozen];rw[List.getElem?_set]at J;by_cases e:o=j
 .subst e;rw[if_pos rfl,if_pos ho]at J;cases J;exact⟨a.same,(h.2.2 o _ (List.getElem?_eq_getElem ho)).2⟩
 .rw[if_neg e]at J;rw[a.other _ (by grind)];exact h.2.2 j u J
def Af(H:Sat (Cells b t vs::F) w){o m:Nat}{v:Value}(ho:v.oneCell'=true)(a:o+m<vs.length){K:World->Prop}(e: ∀w',Sat (Cells b t (vs.set (o+m) v)::F) w'->K w'):
  stCells ((Addr.mk b o none).add m) 0 [v] w K:=by
 simp only[stCells,add_zero,add_eq];exact⟨⟨⟨_,H.AW (List.getElem?_eq_getElem a)⟩,H.uZ a,ho⟩,e _ (H.stored a v)⟩
def Bc(H:Sat (Cells b t vs::F) w){o:Nat}{v:Value}(ho:v.oneCell'=true)(e:o<vs.length){K:World->Prop}(a: ∀w',Sat (Cells b t (vs.set o v)::F) w'->K w'):
  stCells (Addr.mk b o none) 0 [v] w K:=by
 have:=Af H (m:=0) ho e a;rwa[show(Addr.mk b o none).add 0=Addr.mk b o none from add_zero _]at this
def Qt: ∀(news:List Value) {vs:List Value} {w:World} (o i:Nat),Sat (Cells b t vs::F) w->o+i+news.length<=vs.length->(∀v∈news,v.oneCell'=true)-> ∀{K:World->Prop},
  (∀w',Sat (Cells b t (vs.take (o+i)++news++vs.drop (o+i+news.length))::F) w'->K w')->stCells (Addr.mk b o none) i news w K
 | [],vs,w,o,i,H,hl,ho,K,hK=>by
  refine hK w ?_;simpa using H
 | v::r,vs,w,o,i,H,hl,ho,K,hK=>by
  have a:o+i<vs.length:=by grind
  simp only[stCells,add_eq];refine⟨⟨⟨_,H.AW (List.getElem?_eq_getElem a)⟩,H.uZ a,ho v (by simp)⟩,?_⟩;refine Qt r o (i+1) (H.stored a v) (by grind) (λu hu=>ho u (by simp[hu])) λw' e=>hK w' ?_;have:(vs.set (o+i) v).take (o+(i+1))++r++(vs.set (o+i) v).drop (o+(i+1)+r.length)=vs.take (o+i)++(v::r)++vs.drop (o+i+(v::r).length):=by
   rw[show o+(i+1)=o+i+1 from by omega,List.take_set,List.take_succ_eq_append_getElem a,List.set_append_right _ _ (by simp;omega)];simp only[List.length_take,Nat.min_eq_left (Nat.le_of_lt a),Nat.sub_self,List.set_cons_zero,List.append_assoc,List.singleton_append,List.length_cons,List.cons_append];congr 2;rw[List.drop_set_of_lt (by omega),show o+i+1+r.length=o+i+(r.length+1)from by omega];simp
  grind
def Bm{news:List Value}(H:Sat (Cells b t vs::F) w)(j:news.length=vs.length)(ho: ∀v∈news,v.oneCell'=true){K:World->Prop}
  (a: ∀w',Sat (Cells b t news::F) w'->K w'):stCells (Addr.mk b 0 none) 0 news w K:=by
 refine Qt news 0 0 H (by omega) ho λw' e=>a w' ?_;have:List.drop news.length vs=[]:=List.drop_eq_nil_iff.2 (by omega)
 grind
end
def Row(t z:Nat)(s:AY)(vs:List Value):Pr where
 holds D w:=(∀k,D k↔PS s k)/\I2 w 0 t z s vs
 loc h he hS:=⟨h.1,h.2.ext he λb j=>hS _ ((h.1 _).2 ⟨_,j,rfl⟩)⟩
 lt h hk:=by obtain⟨a,e,rfl⟩:=(h.1 _).1 hk;exact(h.2.lt e).2.1
section
variable{Ps F:List Pr}{w w':World}{t z:Nat}{s:AY}{vs:List Value}
def Sat.own(H:Sat (Row t z s vs::F) w):I2 w 0 t z s vs:=let⟨_,h⟩:=H.head;h.2
def Sat.CK(H:Sat (Row t z s vs::F) w):vs.length=s.len*z:=H.own.len
def I2.G7{w:World}{B t z:Nat}{s:AY}{vs:List Value}(h:I2 w B t z s vs)(e:0<s.len): ∃b,s.base=some ⟨b,0,none⟩:=by
 rcases h.row with ⟨h1,a⟩|⟨b,cs,h1,_⟩
 .have:=h.cap;omega
 grind
def I2.cell{w:World}{B t z:Nat}{s:AY}{vs:List Value}(h:I2 w B t z s vs){a:Addr}(e:s.base=some a){j:Nat}{v:Value}(u:vs[j]? =some v):w.cell? (a.add j)=some v:=by
 have:=h.rowAt;rw[e]at this;exact this.2 j v u
def Sat.O6(H:Sat (Row t z s vs::F) w){j:Nat}{v:Value}(u:vs[j]? =some v){K:Addr->Prop}(J: ∀a,s.base=some a->w.cell? (a.add j)=some v->K a):NC s.base K:=by
 have ho:=H.own;have O:j<vs.length:=(List.getElem?_eq_some_iff.1 u).1;have T:0<s.len:=by
  rw[ho.len]at O
  grind
 obtain⟨b,e⟩:=ho.G7 T;rw[e];exact J _ e (ho.cell e u)
def Sat.nil(H:Sat F w)(t z:Nat):Sat (Row t z ⟨none,0,0⟩ []::F) w:=
 H.new (P:=Row t z ⟨none,0,0⟩ []) (D:=PS ⟨none,0,0⟩) (Ext.refl _ _) ⟨λ_=>Iff.rfl,I2.nil w 0 t z⟩ λk j=>by obtain⟨a,e,_⟩:=j;cases e
def O7{bytes:Nat}{zs:Array Value}{x:AY}{K:AY->World->Prop}{news:List Value}(H:Sat (Row t z s vs::F) w)
  (hz:zs.size=z)(O:rowAt w x.base (x.len*z) news)(aA:news.length=x.len*z)(ho: ∀v∈news,v.oneCell'=true)
  (Y:(s.len+x.len)*bytes<=140737488355328)(T:s.len+x.len<=9223372036854775807)
  (hK: ∀s' w',Sat (Row t z s' (vs++news)::F) w'->s'.len=s.len+x.len->K s' w'):APP t z bytes zs s x w K:=by
 obtain⟨D,h,hs⟩:=H.step;refine Qj hz h.2 O aA ho (Nat.zero_le _) Y T λs' w' J hlen u j=>hK s' w' ?_ hlen;refine hs w' (PS s') _ (u.mono λi _ hi=>(h.1 i).2 hi) ⟨λ_=>Iff.rfl,J⟩ ?_;rintro k ⟨a,ha,rfl⟩;rcases j with e|⟨b,e,Y⟩
 .exact .inl ((h.1 _).2 ⟨a,by grind,rfl⟩)
 .rw[e]at ha;cases ha;exact .inr Y
def GH{bytes:Nat}{zs:Array Value}{K:AY->World->Prop}{news:List Value}{b:Nat}(H:Sat (Cells b t news::Row t z s vs::F) w)
  (hz:zs.size=z)(J:news.length=z)(ho: ∀v∈news,v.oneCell'=true)
  (u:(s.len+1)*bytes<=140737488355328)(a:s.len+1<=9223372036854775807)
  (e: ∀s' w',Sat (Row t z s' (vs++news)::F) w'->s'.len=s.len+1->K s' w'):APP t z bytes zs s ⟨some (Addr.mk b 0 none),1,1⟩ w K:=by
 refine O7 H.tail hz (x:=⟨some (Addr.mk b 0 none),1,1⟩) ⟨by grind,λj v O=> ?_⟩ (by grind) ho u a e;exact H.cell (by grind)
def Sat.LP(H:Sat (Row t z s vs::F) w):rowAt w s.base (s.len*z) vs:=H.own.rowAt
def Ko(H:Sat (Row t z s vs::F) w){j:Nat}{v:Value}(ho:v.oneCell'=true)(hj:j<vs.length){a:Addr}(O:s.base=some a){K:World->Prop}
  (hK: ∀w',Sat (Row t z s (vs.set j v)::F) w'->K w'):stCells (a.add j) 0 [v] w K:=by
 obtain⟨D,h,hs⟩:=H.step;have e:=h.2;rcases e.row with ⟨h1,_⟩|⟨b,cs,h1,T,u,h4,Y⟩
 .grind
 .rw[h1]at O;cases O;have hl:=e.len;have J:j<cs.size:=by
   have:s.len*z<=s.cap*z:=Nat.mul_le_mul_right _ e.cap;omega
  simp only[stCells,add_zero,add_eq,Nat.zero_add];refine⟨⟨⟨_,(by rw[AS u];exact Array.getElem?_eq_getElem J)⟩,by simp[World.frozen?,u],ho⟩,hK _ ?_⟩;refine hs _ D _ ((Ext.setCell w ⟨b,j,none⟩ v).mono λi _ hi=>(h.1 i).2 ⟨_,h1,hi⟩) ⟨h.1,?_⟩ λk hk=>.inl hk;refine⟨by grind,e.cap,e.top,.inr ⟨b,_,h1,T,L2 u,by grind,?_⟩⟩;rw[Array.toList_setIfInBounds,List.take_set,Y]
end
def Ad{σ:Type}{first:(σ->World->Prop)->Prop}{rest:σ->(Nat->Value)->World->Prop}(h:first λs w=> ∀j,rest s j w):At σ first rest:=
 ⟨_,h,λs j w h=>h j⟩
@[simp] theorem o8{T E:Prop}:CND true T E↔T:=Iff.rfl
@[simp] theorem lG{T E:Prop}:CND false T E↔E:=Iff.rfl
def Aa{b:Bool}{T E:Prop}(a:b=true)(h:T):CND b T E:=by subst a;exact h
def AR{b:Bool}{T E:Prop}(a:b=false)(h:E):CND b T E:=by subst a;exact h
def C6{a b:Int}{T E:Prop}(h1:a=b->T)(e:a≠b->E):CND (a==b) T E:=by
 by_cases h:a=b
 .rw[show(a==b)=true from by grind];exact h1 h
 .rw[show(a==b)=false from by grind];exact e h
def Gm{a b:Int}{T E:Prop}(h1:a≠b->T)(e:a=b->E):CND (a !=b) T E:=by
 by_cases h:a=b
 .rw[show(a !=b)=false from by grind];exact e h
 .rw[show(a !=b)=true from by grind];exact h1 h
def Ky{b:Bool}{T E:Prop}(h:CND b E T):CND (!b) T E:=by cases b<;>exact h
structure Rg(it mb since:Nat)(a b:Int)(m0:List (Int×Value))(w:World)(seen:Array Nat)(es:Array MapEntry)(m:List (Int×Value)):Prop where
 iter: ∃last,w.heap[it]? =some (.mapIter (some mb) since seen last)/\(seen.isEmpty=true∨last=since)
 map:w.heap[mb]? =some (.map es since)
 ok:MapI .u64 es since m
 out: ∀c,¬(a<=c/\c<b)->aget m c=aget m0 c
 sub: ∀c v,aget m c=some v->aget m0 c=some v
 done: ∀e∈es.toList,seen.contains e.born=true-> ∀n,e.key= .int .u64 n-> ¬(a<=n/\n<b)
def G8{es:Array MapEntry}{seen:Array Nat}{e:MapEntry}:e∈leftOf es seen↔e∈es.toList/\seen.contains e.born=false:=by
 simp[leftOf,Array.mem_filter]
def Ig(es:Array MapEntry)(seen:Array Nat):Nat:=(es.toList.filter λe=> !seen.contains e.born).length
def filter_lt{α:Type}{p q:α->Bool}: ∀{l:List α},(∀x∈l,q x=true->p x=true)->(∃x∈l,p x=true/\q x=false)->(l.filter q).length<(l.filter p).length
 | [],_,⟨x,a,_⟩=>by cases a
 | y::r,h,⟨x,a,h1,h2⟩=>by
  have hle: ∀{l:List α},(∀x∈l,q x=true->p x=true)->(l.filter q).length<=(l.filter p).length:=by
   intro l
   induction l with
   | nil=>grind
   | cons z s ih=>grind
  rcases List.mem_cons.1 a with rfl|e
  .grind
  .have:=filter_lt (λz hz=>h z (List.mem_cons_of_mem _ hz)) ⟨x,e,h1,h2⟩
   grind
def J0{α β:Type}{f:α->β}: ∀{l:List α},(l.map f).Nodup-> ∀{x y:α},x∈l->y∈l->f x=f y->x=y
 | [],_,x,y,j,_,_=>by cases j
 | z::r,h,x,y,j,u,he=>by
  simp only[List.map_cons,List.nodup_cons]at h;rcases List.mem_cons.1 j with rfl|a<;>rcases List.mem_cons.1 u with rfl|e
  .rfl
  .exact absurd (he▸List.mem_map.2 ⟨y,e,rfl⟩) h.1
  .exact absurd (he▸List.mem_map.2 ⟨x,a,rfl⟩) h.1
  .exact J0 h.2 a e he
def range_del{it mb since:Nat}{a b:Int}{m0:List (Int×Value)}{w0:World}{K:World->Prop}{getm:(Option Nat->World->Prop)->World->Prop}
  (aX: ∀w K',Ext (λk=>k=it∨k=mb) w0 w->K' (some mb) w->getm K' w)
  {seen0:Array Nat}{es0:Array MapEntry}{m1:List (Int×Value)}(h0:Rg it mb since a b m0 w0 seen0 es0 m1)(a1:it≠mb)(bY:it<w0.heap.size)(b0:mb<w0.heap.size)
  (hK: ∀w' aA m',Ext (λk=>k=it∨k=mb) w0 w'->w'.heap.size=w0.heap.size->w'.heap[mb]? =some (.map aA since)->MapI .u64 aA since m'->
   (∀c,aget m' c=if a<=c/\c<b then none else aget m0 c)->K w'):
  BK (Unit) (()) w0 λvN _ bH T=>
     At (Bool×Unit) (λaQ=>
      TZ it bH (λbI=>
       aQ (false,()) bI
      ) λb3 b4 bJ=>
       aQ (true,()) bJ
     ) λs56 _ aE=>
      At (Bool×Unit) (λa6=>
       CND (s56.1) (
        a6 (s56.1,()) aE
       ) (
        K aE
       )
      ) λs63 _ aF=>
       oA it aF λbG b5 bR=>
       T7 .u64 bG λaM=>
       At (Bool×Unit) (λaR=>
        CND (decide ((aM:Int)≥a)) (
         aR (decide ((aM:Int)<b),()) aF
        ) (
         aR (false,()) aF
        )
       ) λYv _ O=>
        CND (Yv.1) (
         getm (λbL O=>
         MDEL .u64 aM bL O λbK=>
         T (()) bK) O
        ) (
         T (()) O
        ):=by
 refine AM (λ_ w=>(∃seen es m,Rg it mb since a b m0 w seen es m)/\Ext (λk=>k=it∨k=mb) w0 w/\w.heap.size=w0.heap.size)
  (λ_ w=>match w.heap[it]?,w.heap[mb]? with|some (.mapIter _ _ seen _),some (.map es _)=>Ig es seen|_,_=>0) ⟨⟨_,_,_,h0⟩,Ext.refl _ _,rfl⟩ ?_
 rintro _ _ w ⟨⟨seen,es,m,h⟩,hw,b2⟩;obtain⟨last,J,hl⟩:=h.iter;have bC:(match w.heap[it]?,w.heap[mb]? with|some (.mapIter _ _ seen _),some (.map es _)=>Ig es seen|_,_=>0:Nat)=Ig es seen:=by rw[J,h.map]
 simp only[bC];refine AV (λst w'=>(st.1=false/\(leftOf es seen).isEmpty=true/\(∃j,Rg it mb since a b m0 w' j es m/\j=seen)/\Ext (λk=>k=it∨k=mb) w0 w'/\w'.heap.size=w0.heap.size)∨
   (st.1=true/\ ∃e,e∈es.toList/\seen.contains e.born=false/\w'.heap[it]? =some (.mapIter (some mb) since (seen.push e.born) since)/\w'.heap[mb]? =some (.map es since)/\Ext (λk=>k=it∨k=mb) w0 w'/\w'.heap.size=w0.heap.size)) ?_ ?_
 .refine⟨some mb,since,seen,last,J,es,since,h.map,?_,?_,?_⟩
  .rcases hl with hl|rfl
   .simp[hl]
   .by_cases he:es.isEmpty=true
    .simp[he]
    .have:es.all (λx=>decide (x.born≥last))=false:=by
      have bQ:0<es.size:=Nat.pos_of_ne_zero λe=>he (by grind);have hm:es[0]∈es.toList:=by simp
      have:=h.ok.lt _ hm
      grind
     simp[this]
  .intro w' aD aV;left;have Y:Ext AN w w':=by rcases aD with rfl|rfl;exact Ext.refl _ _;exact Ext.drew _ _
   have bD:w'.heap.size=w.heap.size:=by rcases aD with rfl|rfl<;>rfl
   refine⟨rfl,?_,⟨seen,⟨⟨last,Y.obj J (λf=>f),hl⟩,Y.obj h.map (λf=>f),h.ok,h.out,h.sub,h.done⟩,rfl⟩,hw.trans' Y.any,by omega⟩;have:(leftOf es seen).filter (λx=>decide (x.born<since))=leftOf es seen:=by
    apply Array.filter_eq_self.2;intro e he;have h1:=(G8.1 he).1;exact decide_eq_true (h.ok.lt e h1)
   grind
  .intro w' e aD he;right;have Y:Ext AN w w':=by rcases aD with rfl|rfl;exact Ext.refl _ _;exact Ext.drew _ _
   have bD:w'.heap.size=w.heap.size:=by rcases aD with rfl|rfl<;>rfl
   obtain⟨h1,h2⟩:=G8.1 he;refine⟨rfl,e,h1,h2,?_,?_,(hw.trans' Y.any).trans (Ext.GR w' it _) (λ_ _ h=>h) (λi _ e=>.inl e),?_⟩
   .have bB:it<w'.heap.size:=by omega
    simp[World.GR,bB]
   .have:=(Ext.GR w' it (.mapIter (some mb) since (seen.push e.born) since)).obj (Y.obj h.map λf=>f) (λe:mb=it=>a1 e.symm);exact this
   .simp[World.GR];omega
 .rintro⟨bt,u⟩ _ aE hJ;simp only at hJ⊢;refine AV (λst w'=>w'=aE/\bt=true) ?_ ?_
  .refine AX (λht=>⟨rfl,ht⟩) (λhf=> ?_);rcases hJ with ⟨_,aV,⟨j,hR,bE⟩,hE,hS⟩|⟨ht,_⟩
   .subst bE;refine hK aE es m hE hS hR.map hR.ok λc=> ?_;split
    .rename_i hc;cases hg:aget m c with
     | none=>rfl
     | some v=>
      exfalso;obtain⟨e,he,hk,hv⟩:=h.ok.To hg;have hs:j.contains e.born=true:=by
       cases hsc:j.contains e.born with
       | true=>rfl
       | false=>
        have:e∈leftOf es j:=G8.2 ⟨he,hsc⟩
        grind
      exact h.done e he hs c hk hc
    .rename_i hc;exact h.out c hc
   .rw[ht]at hf;cases hf
  .rintro⟨_,u⟩ _ aF ⟨rfl,a9⟩;rcases hJ with ⟨hf,_⟩|⟨_,e,he,b1,aB,aC,hE,hS⟩
   .rw[a9]at hf;cases hf
   .obtain⟨n,aZ,bX⟩:=h.ok.Qq he;have aL:es.find? (λx:MapEntry=>x.born==e.born)=some e:=by
     rw[<-Array.find?_toList];have hb:=h.ok.born;have: ∀l:List MapEntry,(l.map (·.born)).Nodup->e∈l->l.find? (λx:MapEntry=>x.born==e.born)=some e:=by
      intro l
      induction l with
      | nil=>grind
      | cons x r ih=>grind
     grind
    refine⟨mb,since,since,seen.push e.born,es,since,e.born,e,⟨aB,aC⟩,by simp,rfl,aL,?_⟩;rw[aZ];show unV (.int .u64) (.int .u64 n) _;show sameK .u64 .u64 _;show At _ _ _;have bN:Ig es (seen.push e.born)<Ig es seen:=by
     unfold Ig;refine filter_lt (λx _ hx=> ?_) ⟨e,he,by grind,by simp⟩
     grind
    refine AV (λst w'=>w'=aF/\(st.1=true↔a<=n/\n<b)) ?_ ?_
    .refine AE (λh1=>⟨rfl,?_⟩) (λh1=>⟨rfl,?_⟩)
     .grind
     grind
    .rintro⟨bT,u⟩ _ O ⟨rfl,aT⟩;simp only at aT⊢;have hR:Rg it mb since a b m0 O seen es m->True:=λ_=>trivial;refine AX (λht=> ?_) (λhf=> ?_)
     .refine aX O _ hE ?_;refine Pz aC h.ok λw' aA m' aS a0 aW bZ aK bA aH bP=> ?_;have aI:w'.heap[it]? =some (.mapIter (some mb) since (seen.push e.born) since):=aH.obj aB (λe2:it=mb=>a1 e2);refine⟨⟨⟨seen.push e.born,aA,m',⟨since,aI,.inr rfl⟩,aS,a0,?_,?_,?_⟩,hE.trans aH (λ_ _ h=>h) (λi _ e=>.inr e),by omega⟩,?_⟩
      .intro c hc;rw[aW,if_neg,h.out c hc]
       grind
      .intro c v aG;rw[aW]at aG;split at aG
       .cases aG
       .exact h.sub c v aG
      .intro x hx hs k hk;have a2:=aK.subset hx;by_cases hxb:x.born=e.born
       .-- the entry that was taken out
        obtain⟨k',aY,bW⟩:=a0.Qq hx;rw[hk]at aY;cases aY;have bF:x=e:=by
         have h1:=J0 h.ok.born a2 he hxb;exact h1
        grind
       .refine h.done x a2 ?_ k hk
        grind
      .simp only[aI,aS];have:Ig aA (seen.push e.born)<=Ig es (seen.push e.born):=(aK.filter _).length_le;omega
     .have bO: ¬(a<=n/\n<b):=λh=>by grind
      refine⟨⟨⟨seen.push e.born,es,m,⟨since,aB,.inr rfl⟩,aC,h.ok,h.out,h.sub,?_⟩,hE,hS⟩,by grind⟩;intro x hx hs k hk;simp at hs;rcases hs with hs|hs
      .exact h.done x hx (by grind) k hk
      .have bF:x=e:=J0 h.ok.born hx he hs
       grind
def Fo(r:Option Nat):Fence:={Fence.wide with round:=r}
def UR{r:Option Nat}{n:Nat}{P:Program}{f:FuncId}{args:Array Value}{w:World}{R:Ending->World->Prop}:CallsIn (Fo r) n P f args w R↔Calls P f args w R:=by
  have:CallsIn (Fo r) n P f args w R↔CallsIn Fence.wide n P f args w R:=Iff.rfl;exact this.trans callsIn_wide
abbrev Yields:=Nat->Array Value->World->(Value->World->Prop)->Prop
def Rnd(P:Program)(l:Nat)(f:FuncId)(tmps:Array Value)(assign body:Code)(w:World)(K:Value->World->Prop):Prop:=
  RoundIn Fence.wide 0 P l f tmps assign body w λe w'=> ∃v,e= .returned v/\K v w'
def Gh(P:Program):Yields:=λl args w K=> ∃fn tmps assign body,(Instr.yield l args).run P w= .ok (.round l fn tmps assign body) w/\Rnd P l fn tmps assign body w K
def DYNY(G:CP)(Y:Yields)(v:Value)(args:Array Value)(w:World)(K:Value->World->Prop):Prop:=match v with
  | .func (.func g) first cap=>G g ((first++args)++cap) w K Fi
  | .func (.yield l) first _=>Y l (first++args) w K
  | _=>False
def evOpI(P:Program)(C G:CP)(Y:Yields)(o:Op)(ty:TypeId)(ρ:Operand->Value)(w:World)(K Kp:Value->World->Prop):Prop:=match o with
  | .defer _=>False
  | .call c=>match c.callee with
    | .value (.tmp t)=>DYNY G Y (ρ (.tmp t)) (c.args.map ρ) w λv w'=>exRes P ty v λv=>K v w'
    | _=>cS P C G (.call c) ty ρ w K Kp
  | o=>cS P C G o ty ρ w K Kp
def GoesI(P:Program)(r:Result Next)(K Kp:Value->World->Prop):Prop:=match r with
  | .ok (.round l f tmps assign body) w=>Rnd P l f tmps assign body w K
  | r=>Goes P r K Kp
def US{P:Program}{r:Result Next}{K Kp:Value->World->Prop}(h:Goes P r K Kp):GoesI P r K Kp:=by
  unfold GoesI;split
  . exact h.elim
  omega
def Rnd.mono{P:Program}{l:Nat}{f:FuncId}{tmps:Array Value}{assign body:Code}{w:World}{K a:Value->World->Prop}(h:Rnd P l f tmps assign body w K)(j: ∀v w',K v w'->a v w'):Rnd P l f tmps assign body w a:=
  RoundIn.mono h λe w' ⟨v,he,hk⟩=>⟨v,he,j v w' hk⟩
def ZU{P:Program}{C G:CP}(hC:Fits P C)(j:Fits P G){o:Oper}{ρ:Operand->Value}{w:World}{K Kp:Value->World->Prop}(J: ∀g,ρ (.func g)= .func (.func g) #[] #[])
    (h:evOpI P C G (Gh P) o.op o.type ρ w K Kp):GoesI P ((execOp ρ o).run P w) K Kp/\ ∀c,o.op≠ .defer c:=by
  obtain⟨dst,op,type,pos,after,guard⟩:=o;simp only at h;unfold evOpI at h;split at h
  . grind
  . rename_i c;obtain⟨callee,args,argTypes⟩:=c;simp only at h;refine⟨?_,λc e=>(by cases e)⟩;split at h
    . rename_i t;unfold DYNY at h;split at h
      . rename_i hf;refine US ?_;simp[execOp,resolve,hf,Deferred.ofValue,invoke];rcases j _ _ _ _ _ h with ⟨h1,a⟩|⟨v,w',h1,a⟩
        . simp at h1 a;simp only[h1,Result.andThen_ok,Goes];refine a.mono ?_;intro e w' hE;obtain⟨v,rfl,u⟩:=hE.val;exact .inl ⟨v,rfl,LK u⟩
        . simp at h1;simp only[h1,Result.andThen_ok,Goes];exact LK a
      . rename_i hf;obtain⟨fn,tmps,assign,body,T,O⟩:=h;simp[execOp,resolve,hf,Deferred.ofValue,invoke,T,GoesI];exact O.mono λv w' u=>LK u
      grind
    . exact US (LL hC j J (o:=⟨dst,.call ⟨callee,args,argTypes⟩,type,pos,after,guard⟩) h)
  . rename_i hn1 hn2;exact⟨US (LL hC j J (o:=⟨dst,op,type,pos,after,guard⟩) h),λc e=>hn1 c e⟩
def V3{P:Program}{r:Option Nat}{o:Oper}{a:Act}{w:World}{K Kp:Value->World->Prop}{Q:Exit->Act->World->Prop}{next:Act->World->Prop}(hd: ∀c,o.op≠ .defer c)
    (h:GoesI P ((execOp a.eval o).run P w) K Kp)(u: ∀v w',K v w'->next (a.put o.dst v) w')(J: ∀v w',Kp v w'->Q (.panic [{v:=v,recovered:=false}]) a w'):o.wpIn (Fo r) 0 P a w next Q:=by
  refine⟨λ_ _=>trivial,?_⟩;rw[Oper.semAt_eq (Fo r).round a.eval o hd];unfold GoesI at h;split at h
  . rename_i hr;rw[hr,Oper.uponIn_round];refine⟨λq=>(by cases q),RoundIn.mono h ?_⟩
    grind
  . unfold Goes at h;split at h
    . rename_i hr;rw[hr,Oper.uponIn_value];grind
    . rename_i hr;rw[hr,Oper.uponIn_skip];grind
    . rename_i hr;rw[hr,Oper.uponIn_enter];refine⟨λq=>(by cases q),UR.2 (h.mono ?_)⟩;rintro e w' (⟨v,rfl,j⟩|⟨v,rfl,j⟩)
      . grind
      grind
    . rename_i hr;rw[hr,Oper.uponIn_panic];grind
    grind
def evOpsI(P:Program)(C G:CP)(Y:Yields)(ops:Array Oper)(Q:Fr->World->Prop)(a:Fr->Value->World->Prop):Nat->List Oper->Fr->World->Prop
  | _,[],f,w=>Q f w
  | i,o::r,f,w=>match wantF ops f o.guard with
    | true=>evOpI P C G Y o.op o.type f.ev w (λv w'=>Sj (Lz ops.toList i) v λv=>evOpsI P C G Y ops Q a (i+1) r (f.Lq o.dst v) w') (a f)
    | false=>evOpsI P C G Y ops Q a (i+1) r (f.Lq o.dst undef) w
def NG{P:Program}{C G:CP}(hC:Fits P C)(K:Fits P G){r0:Option Nat}{ops:Array Oper}{n:Nat}{W:List Nat}(hW:within n W)(Q:Fr->World->Prop)(J:Fr->Value->World->Prop)(j:Exit->Act->World->Prop)(a0:Act)
    (Y: ∀a w,a.tmps.size=n->Eg W a0 a->Q (BZ a) w->j .normal a w)
    (T: ∀a v w,a.tmps.size=n->Eg W a0 a->J (BZ a) v w->j (.panic [{v:=v,recovered:=false}]) a w):
    ∀(l:List Oper) (i:Nat) (a:Act) (w:World),(∀o∈l,∀d,o.dst=some d->d∈W)->a.tmps.size=n->Eg W a0 a->evOpsI P C G (Gh P) ops Q J i l (BZ a) w->wpListIn (Fo r0) 0 P ops j l a w
  | [],i,a,w,_,hn,ha,h=>Y a w hn ha h
  | o::r,i,a,w,hd,hn,ha,h=>by
    simp only[evOpsI]at h;unfold wpListIn;rw[Qe]at h;have e: ∀t,o.dst=some t->t∈W:=λt ht=>hd o (by simp) t ht;have u: ∀v,BZ (a.put o.dst v)=(BZ a).Lq o.dst v:=λv=>Mf (λt ht=>by have:=hW t (e t ht);omega) v;split at h
    . rename_i hw;rw[if_pos hw];obtain⟨h1,h2⟩:=ZU hC K (λ_=>rfl) (o:=o) h;rw[Hn]at h1;refine V3 h2 h1 (λv w' O=> ?_) λv w' O=>T a v w' hn ha O;refine NG hC K hW Q J j a0 Y T r (i+1) _ w' (λo ho=>hd o (by grind)) (by rw[Gk];omega) (ha.trans (Eg.put e)) ?_;rw[u];exact LM O
    . rename_i hw;rw[if_neg (by grind)];refine⟨λ_ _=>trivial,NG hC K hW Q J j a0 Y T r (i+1) _ w (λo ho=>hd o (by grind)) (by rw[Gk];omega) (ha.trans (Eg.put e)) ?_⟩
      grind
def evI(P:Program)(C G:CP)(Y:Yields)(A:Ni):Code->Post->Fr->World->Prop
  | .skip,Q,f,w=>Q .normal f w
  | .ret,Q,f,w=>Q .ret f w
  | .exit id,Q,f,w=>Q (.exit id) f w
  | .region _ ops d,Q,f,w=>match d with
    | false=>evOpsI P C G Y ops (Q .normal) (λf v w=>Q (.panic [{v:=v,recovered:=false}]) f w) 0 ops.toList f w
    | true=>False
  | .seq x y,Q,f,w=>match(firstR y).bind (look A.L1)with
    | none=>evI P C G Y A x (Post.then (evI P C G Y A y Q) Q) f w
    | some l=>At (St l) (λJ=>evI P C G Y A x (Post.then (λf' w'=>Fr.get l f' λs=>J s w') Q) f w)
        λs j w'=>evI P C G Y A y Q (Fr.set l s (f.TW (written x) j)) w'
  | .cond c x y,Q,f,w=>match f.ev c with
    | .bool b=>CND b (evI P C G Y A x Q f w) (evI P C G Y A y Q f w)
    | _=>False
  | .block id c,Q,f,w=>evI P C G Y A c (Post.inBlock id Q) f w
  | .label _,Q,f,w=>Q .normal f w
  | .loop c,Q,f,w=>match(firstR c).bind (look A.loops)with
    | none=>False
    | some l=>Fr.get l f λs=>BK (St l) s w λs j w' next=>
        evI P C G Y A c (Post.then (λf' a=>Fr.get l f' λs'=>next s' a) Q) (Fr.set l s (f.TW (written c) j)) w'
  | _,_,_,_=>False
def HY{P:Program}{C G:CP}(hC:Fits P C)(Y:Fits P G){r0:Option Nat}{A:Ni}{n:Nat}:
    ∀(c:Code),within n (written c)-> ∀(Q:Post) (a:Act) (w:World),a.tmps.size=n->evI P C G (Gh P) A c Q (BZ a) w->c.wpIn (Fo r0) 0 P (lift n (written c) a Q) a w
  | .skip,_,Q,a,w,hn,h=>wpIn_skip ⟨hn,.refl _ _,h⟩
  | .ret,_,Q,a,w,hn,h=>wpIn_ret ⟨hn,.refl _ _,h⟩
  | .exit id,_,Q,a,w,hn,h=>wpIn_exit ⟨hn,.refl _ _,h⟩
  | .region id ops d,hW,Q,a,w,hn,h=>by
    unfold evI at h;split at h
    . refine wpIn_region_list ?_;exact NG hC Y hW (Q .normal) (λf v w=>Q (.panic [{v:=v,recovered:=false}]) f w) _ a (λu w' aI ha hq=>⟨aI,ha,hq⟩) (λu v w' aI ha hq=>⟨aI,ha,hq⟩) ops.toList 0 a w (λo ho d hd=>N8 ho hd) hn (.refl _ _) h
    grind
  | .seq x y,hW,Q,a,w,hn,h=>by
    have aA:within n (written x):=λt T=>hW t (by simp[written,T]);have aB:within n (written y):=λt T=>hW t (by simp[written,T]);unfold evI at h;split at h
    . refine wpIn_seq (Go.wpIn_mono (HY hC Y x aA _ a w hn h) λe u w' j=> ?_);cases e<;>simp only[lift,Exit.then,Post.then]at j⊢ <;>first
        | exact j.elim
        | exact⟨j.1,j.2.1.mono (by simp[written];grind),j.2.2⟩
        | (refine Go.wpIn_mono (HY hC Y y aB Q u w' j.1 j.2.2) λe aF K aH=> ?_
           have h1:=JO (V:=written (.seq x y)) (by simp[written];grind) e aF K aH;have h2:Eg (written (.seq x y)) a u:=j.2.1.mono (by simp[written];grind);cases e<;>simp only[lift]at h1⊢ <;>first
             | exact h1
             | exact⟨h1.1,h2.trans h1.2.1,h1.2.2⟩)
    . rename_i l hl0;obtain⟨J,h1,h2⟩:=h;refine wpIn_seq (Go.wpIn_mono (HY hC Y x aA _ a w hn h1) λe u w' j=> ?_);cases e<;>simp only[lift,Exit.then,Post.then]at j⊢ <;>first
        | exact j.elim
        | exact⟨j.1,j.2.1.mono (by simp[written];grind),j.2.2⟩
        | (obtain⟨s,hs,hJ⟩:=KQ j.2.2
           have h3:evI P C G (Gh P) A y Q (Fr.set l s ((BZ a).TW (written x) (BZ u))) w':=h2 s (BZ u) w' hJ;rw[KR hs (λt T=>j.2.1.out t T)]at h3;refine Go.wpIn_mono (HY hC Y y aB Q u w' j.1 h3) λe aF K aH=> ?_;have h1:=JO (V:=written (.seq x y)) (by simp[written];grind) e aF K aH;have h2:Eg (written (.seq x y)) a u:=j.2.1.mono (by simp[written];grind);cases e<;>simp only[lift]at h1⊢ <;>first
             | exact h1
             | exact⟨h1.1,h2.trans h1.2.1,h1.2.2⟩)
  | .cond c x y,hW,Q,a,w,hn,h=>by
    have aA:within n (written x):=λt T=>hW t (by simp[written,T]);have aB:within n (written y):=λt T=>hW t (by simp[written,T]);unfold evI at h;split at h
    . rename_i b hb;rw[Jw]at hb;cases b
      . refine wpIn_cond_false hb (Go.wpIn_mono (HY hC Y y aB _ a w hn h) λe u w' j=> ?_);exact JO (by simp[written];grind) e u w' j
      . refine wpIn_cond_true hb (Go.wpIn_mono (HY hC Y x aA _ a w hn h) λe u w' j=> ?_);exact JO (by simp[written];grind) e u w' j
    grind
  | .block id c,hW,Q,a,w,hn,h=>by
    refine wpIn_block (Go.wpIn_mono (HY hC Y c hW _ a w hn h) λe u w' j=> ?_);cases e<;>simp only[lift,Exit.inBlock,Post.inBlock]at j⊢ <;>first
      | exact j
      | skip
    rename_i k;obtain⟨h1,h2,h3⟩:=j;split at h3
    . rename_i e;have:=Nat.eq_of_beq_eq_true e;subst this;rw[if_pos rfl];exact⟨h1,h2,h3⟩
    . rename_i e;rw[if_neg (by intro e';simp_all)];exact⟨h1,h2,h3⟩
  | .loop c,hW,Q,a,w,hn,h=>by
    unfold evI at h;split at h
    . grind
    . rename_i l hl0;obtain⟨s0,aR,I,μ,h0,aC⟩:=KQ h;have key:(Code.loop c).wpIn (Fo r0) 0 P (lift n (written c) a Q) a w:=by
        refine wpIn_loop (λu w'=>u.tmps.size=n/\Eg (written c) a u/\ ∃s,Lw l s (BZ u)/\I s w')
          (λu w'=> @dite Nat (∃s,Lw l s (BZ u)/\I s w') (Classical.propDecidable _) (λh=>μ (Classical.choose h) w') (λ_=>0)) ⟨hn,.refl _ _,s0,aR,h0⟩ ?_
        intro a1 w1 hI;obtain⟨aN,aG,s,hs,hi⟩:=hI;have hex: ∃s,Lw l s (BZ a1)/\I s w1:=⟨s,hs,hi⟩;have hc:=Classical.choose_spec hex;have hr:evI P C G (Gh P) A c (Post.then (λf' K=>Fr.get l f' λs'=>I s' K/\μ s' K<μ (Classical.choose hex) w1) Q) (Fr.set l (Classical.choose hex) ((BZ a).TW (written c) (BZ a1))) w1:=aC (Classical.choose hex) (BZ a1) w1 hc.2;rw[KR hc.1 (λt T=>aG.out t T)]at hr;refine Go.wpIn_mono (HY hC Y c hW _ a1 w1 aN hr) λe a2 w2 j=> ?_;cases e<;>simp only[lift,Exit.then,Post.then]at j⊢ <;>first
          | exact j.elim
          | exact⟨j.1,aG.trans j.2.1,j.2.2⟩
          | skip
        obtain⟨aO,aL,h3⟩:=j;obtain⟨s',aJ,aM,aV⟩:=KQ h3;have O: ∃s,Lw l s (BZ a2)/\I s w2:=⟨s',aJ,aM⟩;refine⟨⟨aO,aG.trans aL,O⟩,?_⟩;rw[dif_pos O,dif_pos hex];rw[Rv (Classical.choose_spec O).1 aJ];omega
      exact key
  | .rangeFunc _ _ _ _,_,_,_,_,_,h=>by simp[evI]at h
  | .scope _,_,_,_,_,_,h=>by simp[evI]at h
  | .label _,_,Q,a,w,hn,h=>wpIn_label ⟨hn,.refl _ _,h⟩
  | .goto _,_,_,_,_,_,h=>by simp[evI]at h
  | .refuse _,_,_,_,_,_,h=>by simp[evI]at h
def IN(b:Nat)(o:Obj):Pr where
  holds D w:=(∀k,D k↔k=b)/\w.heap[b]? =some o
  loc h he hS:=⟨h.1,he.obj h.2 (hS _ ((h.1 _).2 rfl))⟩
  lt h hk:=by grind
def Sat.o9{F:List Pr}{w:World}(H:Sat F w)(o:Obj):Sat (IN w.heap.size o::F) (w.alloc o):=
  H.new (P:=IN w.heap.size o) (D:=λk=>k=w.heap.size) (Ext.alloc _ w o) ⟨λ_=>Iff.rfl,World.alloc_heap_new w o⟩ λk a=>by omega
def Sat.Wj{F:List Pr}{w:World}{b:Nat}{o:Obj}(H:Sat (IN b o::F) w):w.heap[b]? =some o:=let⟨_,h⟩:=H.head;h.2
def Sat.UT{F:List Pr}{w:World}{b:Nat}{o:Obj}(H:Sat (IN b o::F) w)(u:Obj):Sat (IN b u::F) (w.putObj b u):=by
  obtain⟨D,h,J⟩:=H.step;have a:=(Array.getElem?_eq_some_iff.1 h.2).1;refine J _ D _ ⟨rfl,rfl,rfl,by simp,λk j v=>World.putObj_heap_other λe=>v ((h.1 k).2 e)⟩ ⟨h.1,World.putObj_heap_same a⟩ λ_ j=>.inl j
def V4(P:Program)(j:Nat)(O:Array Value)(xs:List Int)(Q:Pr):Prop:=
  (∀args w,(callFunc j args).run P w= .ok (.enter j args) w)/\
  ∀(l:Nat) (J:Nat->List Pr->Prop) (u:List Pr->Prop) (W:World) (Rs:List Pr),
    (∀(i:Nat) (x:Int) (Rs:List Pr) (K:World) (X:Pr),xs[i]? =some x->J i Rs->Sat (X::Q::Rs) K->
      Gh P l #[.int .u64 x] K λv W'=>(v= .bool true/\ ∃a,J (i+1) a/\Sat (X::Q::a) W')∨(v= .bool false/\ ∃a,u a/\Sat (X::Q::a) W'))->
    J 0 Rs->Sat (Q::Rs) W->
    Calls P j (#[.func (.yield l) #[] #[]]++O) W λe W'=>(∃v,e= .returned v)/\((∃a,J xs.length a/\Sat (Q::a) W')∨ ∃a,u a/\Sat (Q::a) W')
abbrev Seqs:=Nat->Array Value->List Int->Pr->Prop
def vO(X:Nat->List Pr->Prop)(Q:Pr):List (Nat×(Nat->World->Prop))->Prop
  | []=>True
  | p::r=>(∀D Rs W,X p.1 Rs->Sat (IN D (.deferred (some []))::Q::Rs) W->p.2 D W)/\vO X Q r
def vO.mem{X:Nat->List Pr->Prop}{Q:Pr}:{l:List (Nat×(Nat->World->Prop))}->vO X Q l-> ∀p∈l,∀D Rs W,X p.1 Rs->Sat (IN D (.deferred (some []))::Q::Rs) W->p.2 D W
  | [],_,p,a=>by grind
  | q::r,h,p,a=>by
    rcases List.mem_cons.1 a with rfl|a
    . exact h.1
    . exact h.2.mem p a
def RNGF(S:Seqs)(v:Value)(w:World)(body:Int->World->(World->Prop)->(World->Prop)->(Nat->World->Prop)->Prop)(O ar:Nat->World->Prop)(T:List (Nat×(Nat->World->Prop))):Prop:=
  ∃J K xs Q,v= .func (.func J) #[] K/\S J K xs Q/\ ∃(I:Nat->List Pr->Prop) (R:List Pr->Prop) (X:Nat->List Pr->Prop) (Rs:List Pr),I 0 Rs/\Sat (Q::Rs) w/\
    (∀i x Rs B u,xs[i]? =some x->I i Rs->Sat (B::Q::Rs) u->body x u (λj=> ∃a,I (i+1) a/\Sat (B::Q::a) j) (λj=> ∃a,R a/\Sat (B::Q::a) j) λe j=> ∃a,X e a/\Sat (B::Q::a) j)/\
    (∀D Rs W,I xs.length Rs->Sat (IN D (.deferred (some []))::Q::Rs) W->O D W)/\
    (∀D Rs W,R Rs->Sat (IN D (.deferred (some []))::Q::Rs) W->ar D W)/\vO X Q T
def asg:List Oper->Fr->Option Fr
  | [],f=>some f
  | o::r,f=>match o.guard with
    | some _=>none
    | none=>match o.op with
      | .assign x=>asg r (f.Lq o.dst (f.ev x))
      | .move x=>asg r (f.Lq o.dst (f.ev x))
      | _=>none
def asgC:Code->Fr->Option Fr
  | .region _ ops false,f=>asg ops.toList f
  | _,_=>none
def KJ:Code->List Nat
  | .exit k=>[k]
  | .seq a b=>KJ a++KJ b
  | .cond _ a b=>KJ a++KJ b
  | .block _ c=>KJ c
  | .loop c=>KJ c
  | .scope c=>KJ c
  | _=>[]
def roundQ(l:List Nat)(nx rt:World->Prop)(ex:Nat->World->Prop):Post:=λe _ w=>match e with
  | .normal=>nx w
  | .ret=>rt w
  | .exit k=>match memB l k with
    | true=>ex k w
    | false=>False
  | _=>False
def Pc:Code->Bool
  | .rangeFunc _ _ _ _=>true
  | .seq a b=>match Pc a with|true=>true|false=>Pc b
  | .cond _ a b=>match Pc a with|true=>true|false=>Pc b
  | .block _ c=>Pc c
  | .loop c=>Pc c
  | .scope c=>Pc c
  | _=>false
abbrev Wl:=Option Nat->Post
def evM(P:Program)(C G:CP)(Y:Yields)(S:Seqs)(A:Ni):Code->Wl->Fr->World->Prop
  | .rangeFunc g ps assign body,Q,f,w=>match ps.toList with
    | [pt]=>RNGF S (f.ev g) w (λx w1 nx rt ex=>match asgC assign (f.put pt (.int .u64 x))with
        | some f'=>evI P C G Y A body (roundQ (KJ body) nx rt ex) f' w1
        | none=>False)
      (λD w'=>Q (some D) .normal f w') (λD w'=>Q (some D) .ret f w') ((KJ body).map λk=>(k,λD w'=>Q (some D) (.exit k) f w'))
    | _=>False
  | .seq x y,Q,f,w=>match Pc (.seq x y)with
    | false=>ev P C G A (.seq x y) (Q none) f w
    | true=>evM P C G Y S A x (λm=>Post.then (λf' w'=>match m with
        | none=>evM P C G Y S A y Q f' w'
        | some D=>ev P C G A y (Q (some D)) f' w') (Q m)) f w
  | .cond c x y,Q,f,w=>match Pc (.cond c x y)with
    | false=>ev P C G A (.cond c x y) (Q none) f w
    | true=>match f.ev c with
      | .bool b=>CND b (evM P C G Y S A x Q f w) (evM P C G Y S A y Q f w)
      | _=>False
  | .block id c,Q,f,w=>match Pc c with
    | false=>ev P C G A (.block id c) (Q none) f w
    | true=>evM P C G Y S A c (λm=>Post.inBlock id (Q m)) f w
  | c,Q,f,w=>ev P C G A c (Q none) f w
def writtenM:Code->List Nat
  | .region _ ops _=>dsts ops.toList
  | .seq a b=>writtenM a++writtenM b
  | .cond _ a b=>writtenM a++writtenM b
  | .block _ c=>writtenM c
  | .loop c=>writtenM c
  | .scope c=>writtenM c
  | .rangeFunc _ ps a b=>ps.toList++(writtenM a++writtenM b)
  | _=>[]
def GI: ∀(c:Code) (t:Nat),t∈written c->t∈writtenM c
  | .region _ _ _,_,h=>h
  | .seq a b,t,h=>by
    simp only[written,writtenM,List.mem_append]at h⊢;exact h.elim (λh=>.inl (GI a t h)) λh=>.inr (GI b t h)
  | .cond _ a b,t,h=>by
    simp only[written,writtenM,List.mem_append]at h⊢;exact h.elim (λh=>.inl (GI a t h)) λh=>.inr (GI b t h)
  | .block _ c,t,h=>GI c t h
  | .loop c,t,h=>GI c t h
  | .scope c,t,h=>GI c t h
  | .skip,_,h=>by simp[written]at h
  | .ret,_,h=>by simp[written]at h
  | .exit _,_,h=>by simp[written]at h
  | .label _,_,h=>by simp[written]at h
  | .goto _,_,h=>by simp[written]at h
  | .refuse _,_,h=>by simp[written]at h
  | .rangeFunc _ _ _ _,_,h=>by simp[written]at h
def Mk(D:Nat):Deferred:={target:=.collected D,args:= #[]}
def liftM(n:Nat)(Q:Wl):Exit->Act->World->Prop
  | .outgrown,_,_=>False
  | e,a,w=>a.tmps.size=n/\((a.defers=[]/\Q none e (BZ a) w)∨ ∃D,a.defers=[Mk D]/\Q (some D) e (BZ a) w)
def Wm{P:Program}{r0:Option Nat}{ops:Array Oper}{n:Nat}{K:Act->World->Prop}{Z:Exit->Act->World->Prop}: ∀(l:List Oper) (f':Fr) (a:Act) (w:World),(∀o∈l,∀d,o.dst=some d->d<n)->a.tmps.size=n->a.defers=[]->asg l (BZ a)=some f'->
    (∀u,u.tmps.size=n->u.defers=[]->BZ u=f'->Z .normal u w)->wpListIn (Fo r0) 0 P ops Z l a w
  | [],f',a,w,_,hn,hd,h,hK=>hK a hn hd (Option.some.inj h)
  | o::r,f',a,w,hW,hn,hd,h,hK=>by
    have O: ∀v,BZ (a.put o.dst v)=(BZ a).Lq o.dst v:=λv=>Mf (λt Y=>by simp_all) v;obtain⟨dst,op,type,pos,after,guard⟩:=o;simp only[asg]at h;split at h
    . cases h
    . rename_i hg;have go: ∀v,(execOp a.eval ⟨dst,op,type,pos,after,none⟩).run P w= .ok (.value v) w->(∀c,op≠ .defer c)->asg r ((BZ a).Lq dst v)=some f'->wpListIn (Fo r0) 0 P ops Z (⟨dst,op,type,pos,after,none⟩::r) a w:=by
        intro v j J T;unfold wpListIn;rw[if_pos (by rfl)];refine⟨λ_ _=>trivial,?_⟩;rw[Oper.semAt_eq (Fo r0).round a.eval _ J,j,Oper.uponIn_value];refine Wm (K:=K) r f' _ w (λo ho=>hW o (by grind)) (by rw[Gk];omega) (by rw[M8];omega) ?_ hK
        grind
      split at h
      . rename_i x;exact go _ (by rfl) (λc e=>by cases e) h
      . rename_i x;exact go _ (by rfl) (λc e=>by cases e) h
      grind
def cZ{P:Program}{r0:Option Nat}{n:Nat}{c:Code}{f':Fr}{a:Act}{w:World}{Z:Exit->Act->World->Prop}(u:within n (writtenM c))(v:a.tmps.size=n)(hd:a.defers=[])(h:asgC c (BZ a)=some f')
    (j: ∀e,e.tmps.size=n->e.defers=[]->BZ e=f'->Z .normal e w):c.wpIn (Fo r0) 0 P Z a w:=by
  unfold asgC at h;split at h
  . exact wpIn_region_list (Wm (K:=λ_ _=>True) _ f' a w (λo ho d hd=>u d (N8 ho hd)) v hd h j)
  grind
def dA{P:Program}{C G:CP}(hC:Fits P C)(hG:Fits P G){A:Ni}{g:Operand}{pt:Nat}{assign body:Code}{n:Nat}(bK:pt<n)(aZ:within n (writtenM assign))(a0:within n (writtenM body)){Q:Wl}{a:Act}{w:World}(hn:a.tmps.size=n)(hd:a.defers=[])
    (h:evM P C G (Gh P) (V4 P) A (.rangeFunc g #[pt] assign body) Q (BZ a) w):(Code.rangeFunc g #[pt] assign body).wpIn (Fo none) 0 P (liftM n Q) a w:=by
  unfold evM at h;simp only at h;obtain⟨gf,lb,xs,Qr,hv,⟨aK,aP⟩,I,R,X,aE,aU,aW,aJ,aR,aS,aT⟩:=h;rw[Jw]at hv;refine wpIn_rangeFunc ?_;intro fn _;obtain⟨rec,K⟩: ∃rec:LoopState->Option Code->Loop,rec=λst pe=>{state:=st,pending:=pe,fn,tmps:=a.tmps,params:= #[pt],assign,body,defers:=w.heap.size}:=⟨_,rfl⟩;obtain⟨W1,aO⟩: ∃W1,(w.alloc (.deferred (some []))).alloc (.loop (rec .ready none))=W1:=⟨_,rfl⟩;have aX:Sat (IN (w.heap.size+1) (.loop (rec .ready none))::IN w.heap.size (.deferred (some []))::Qr::aE) W1:=by
    rw[<-aO];have h1:=(aW.o9 (.deferred (some []))).o9 (.loop (rec .ready none))
    simp_all
  refine⟨w.heap.size+1,[Mk w.heap.size],W1,{target:=.fn (.func gf) lb,args:= #[.func (.yield (w.heap.size+1)) #[] #[]]},W1,gf,
    #[.func (.yield (w.heap.size+1)) #[] #[]]++lb,W1,?_,?_,λ_ _=>trivial,?_,λq=>(by cases q),UR.2 ?_⟩
  . rw[<-aO,K];exact run_enterLoop_outer _ _ _ _ _
  . simp only[resolve,hv];simp[Deferred.ofValue,Act.eval]
  . simp[invoke,aK]
  generalize hl:w.heap.size+1=l at *
  generalize hD:w.heap.size=D at *
  let J:Nat->List Pr->Prop:=λi Rs=> ∃j,I i j/\Rs=IN l (.loop (rec .ready none))::IN D (.deferred (some []))::j
  let Jx:List Pr->Prop:=λRs=> ∃c j,Rs=IN l (.loop (rec .done (some c)))::IN D (.deferred (some []))::j/\((c= .ret/\R j)∨ ∃k,c= .exit k/\memB (KJ body) k=true/\X k j)
  have aA: ∀{A B C:Pr} {F:List Pr} {w'},Sat (A::B::C::F) w'->Sat (C::A::B::F) w':=λH=>H.perm ((List.Perm.swap _ _ _).cons _|>.trans (List.Perm.swap _ _ _));have aB: ∀{A B C:Pr} {F:List Pr} {w'},Sat (C::A::B::F) w'->Sat (A::B::C::F) w':=λH=>H.perm (((List.Perm.swap _ _ _).cons _|>.trans (List.Perm.swap _ _ _)).symm);refine(aP l J Jx W1 (IN l (.loop (rec .ready none))::IN D (.deferred (some []))::aE) ?_ ⟨aE,aU,rfl⟩ (aA aX)).mono ?_
  . -- one round
    rintro i x _ W2 Xr hx ⟨j,aH,rfl⟩ T;have u:Sat (IN l (.loop (rec .ready none))::Xr::Qr::IN D (.deferred (some []))::j) W2:=aA T;have hy:=run_yield (P:=P) (args:= #[.int .u64 x]) u.Wj (by grind);rw[K]at hy;refine⟨fn,_,assign,body,hy,roundIn_of_wpIn (F:=Fence.wide) trivial ?_⟩;have hz:((#[pt]:Array Tmp).zip #[Value.int .u64 x]).foldl (λtmps (x:Tmp×Value)=>tmps.setIfInBounds x.1 x.2) a.tmps=a.tmps.setIfInBounds pt (.int .u64 x):=by simp
    have bJ:BZ ⟨a.tmps.setIfInBounds pt (.int .u64 x),[]⟩=(BZ a).put pt (.int .u64 x):=by
      have:=T6 (a:=a) (d:=pt) (by omega) (.int .u64 x);rw[<-this];rfl
    have a6:(a.tmps.setIfInBounds pt (.int .u64 x)).size=n:=by grind
    have Y:Sat (IN l (.loop {rec .ready none with state:=.busy})::Xr::Qr::IN D (.deferred (some []))::j) (W2.putObj l (.loop {rec .ready none with state:=.busy})):=u.UT _;have aY:Sat (Kx [IN l (.loop {rec .ready none with state:=.busy}),Xr,IN D (.deferred (some []))]::Qr::j) (W2.putObj l (.loop {rec .ready none with state:=.busy})):=Sat.star.2 (Y.perm (.cons _ (.cons _ (.swap _ _ _))));have hb:=aJ i x j _ _ hx aH aY;dsimp only at hb;split at hb
    . rename_i f' hf';show Code.wpIn (Fence.wide.inRound l) 0 P assign _ {tmps:=((#[pt]:Array Tmp).zip #[Value.int .u64 x]).foldl (λtmps (x:Tmp×Value)=>tmps.setIfInBounds x.1 x.2) a.tmps,defers:=[]} W2;rw[hz];refine cZ (r0:=some l) (f':=f') aZ a6 rfl (by grind) λa1 q1 q2 q3=> ?_;refine⟨_,run_beginRound u.Wj (by grind),?_⟩;rw[<-q3]at hb;have a4:=HY hC hG (r0:=some l) body (λt ht=>a0 t (GI body t ht)) _ a1 _ q1 hb;refine Go.wpIn_mono a4 λe a3 W3 hp=> ?_;have fin: ∀(jump:Option Code) {O:List Pr},Sat (Kx [IN l (.loop {rec .ready none with state:=.busy}),Xr,IN D (.deferred (some []))]::Qr::O) W3->
          (Instr.endRound l jump).run P W3= .ok (.bool jump.isNone) (W3.putObj l (.loop (rec (if jump.isNone then .ready else .done) jump)))/\
          Sat (Xr::Qr::IN l (.loop (rec (if jump.isNone then .ready else .done) jump))::IN D (.deferred (some []))::O) (W3.putObj l (.loop (rec (if jump.isNone then .ready else .done) jump))):=λjump O H=>by
        have H1:Sat (IN l (.loop {rec .ready none with state:=.busy})::Xr::Qr::IN D (.deferred (some []))::O) W3:=(Sat.star.1 H).perm (.cons _ (.cons _ (.swap _ _ _)));have h1:=run_endRound (P:=P) jump H1.Wj;have h2:=H1.UT (.loop (rec (if jump.isNone then .ready else .done) jump))
        grind
      cases e<;>simp only[lift,roundQ,roundPost]at hp⊢ <;>first
        | exact hp.elim
        | exact hp.2.2.elim
        | skip
      . obtain⟨_,_,O,bF,aI⟩:=hp
        grind
      . rename_i k;obtain⟨_,_,h3⟩:=hp;split at h3
        . rename_i hk;obtain⟨O,bH,aI⟩:=h3;obtain⟨h1,h2⟩:=fin (some (.exit k)) aI
          grind
        grind
      . obtain⟨_,_,O,bG,aI⟩:=hp
        grind
    grind
  . rintro e W2 ⟨⟨v,rfl⟩,⟨_,⟨j,aH,rfl⟩,T⟩|⟨_,⟨c,j,rfl,hc⟩,T⟩⟩
    . have u:Sat (IN l (.loop (rec .ready none))::IN D (.deferred (some []))::Qr::j) W2:=aB T;refine⟨none,_,by have:=run_endLoop (P:=P) u.Wj (by grind);rw[K]at this;omega,hn,.inr ⟨D,by grind,?_⟩⟩;exact aR D j _ aH (u.UT _).tail
    . have u:Sat (IN l (.loop (rec .done (some c)))::IN D (.deferred (some []))::Qr::j) W2:=aB T;refine⟨some c,_,by have:=run_endLoop (P:=P) u.Wj (by grind);rw[K]at this;omega,?_⟩;have Y:=(u.UT (.loop {rec .done (some c)with state:=.exhausted})).tail;rw[K]at Y;rcases hc with ⟨rfl,aV⟩|⟨k,rfl,hk,a2⟩
      . exact wpIn_ret ⟨hn,.inr ⟨D,by grind,aS D j _ aV Y⟩⟩
      . exact wpIn_exit ⟨hn,.inr ⟨D,by grind,aT.mem (k,_) (List.mem_map.2 ⟨k,T5.1 hk,rfl⟩) D j _ a2 Y⟩⟩
def lH{P:Program}{C G:CP}(hC:Fits P C)(hG:Fits P G)(hm:P.follows .mixedOrders=true){A:Ni}{n:Nat}:
    ∀(c:Code),within n (writtenM c)-> ∀(Q:Wl) (a:Act) (w:World),a.tmps.size=n->a.defers=[]->evM P C G (Gh P) (V4 P) A c Q (BZ a) w->c.wpIn (Fo none) 0 P (liftM n Q) a w:=by
  have plain: ∀(c:Code),within n (writtenM c)-> ∀(Q:Wl) (m:Option Nat) (a:Act) (w:World),a.tmps.size=n->(a.defers=match m with|none=>[]|some D=>[Mk D])->ev P C G A c (Q m) (BZ a) w->c.wpIn (Fo none) 0 P (liftM n Q) a w:=by
    intro c j Q m a w u hd h;refine(wpIn_wide (n:=0)).2 (Code.wp_mono (λe a' w' J=> ?_) (Er hC hG hm c (λt v=>j t (GI c t v)) (Q m) a w u h));cases e<;>simp only[lift,liftM]at J⊢ <;>first
      | exact J.elim
      | (obtain⟨h1,T,Y⟩:=J
         refine⟨h1,?_⟩;cases m with
         | none=>exact .inl ⟨by rw[T.defers,hd],Y⟩
         | some D=>exact .inr ⟨D,by rw[T.defers,hd],Y⟩)
  intro c
  induction c with
  | rangeFunc g ps assign body=>
    intro j Q a w u hd h;obtain⟨l⟩:=ps
    match l with
    | []=>simp[evM]at h
    | [pt]=>exact dA hC hG (j pt (by simp[writtenM])) (λt v=>j t (by simp[writtenM,v])) (λt v=>j t (by simp[writtenM,v])) u hd h
    | _::_::_=>simp[evM]at h
  | seq x y ihx ihy=>
    intro j Q a w u hd h;have K:within n (writtenM x):=λt v=>j t (by simp[writtenM,v]);have O:within n (writtenM y):=λt v=>j t (by simp[writtenM,v]);unfold evM at h;split at h
    . exact plain _ j Q none a w u hd h
    . refine wpIn_seq (Go.wpIn_mono (ihx K _ a w u hd h) λe a' w' J=> ?_);cases e<;>simp only[liftM,Exit.then,Post.then]at J⊢ <;>first
        | exact J.elim
        | exact J
        | skip
      obtain⟨h1,⟨T,Y⟩|⟨D,T,Y⟩⟩:=J
      . grind
      . exact plain y O Q (some D) a' w' h1 T Y
  | cond c x y ihx ihy=>
    intro j Q a w u hd h;have K:within n (writtenM x):=λt v=>j t (by simp[writtenM,v]);have O:within n (writtenM y):=λt v=>j t (by simp[writtenM,v]);unfold evM at h;split at h
    . exact plain _ j Q none a w u hd h
    . split at h
      . rename_i b hb;rw[Jw]at hb;cases b
        . exact wpIn_cond_false hb (ihy O Q a w u hd h)
        . exact wpIn_cond_true hb (ihx K Q a w u hd h)
      grind
  | block id c ih=>
    intro j Q a w u hd h;unfold evM at h;split at h
    . exact plain _ j Q none a w u hd h
    . refine wpIn_block (Go.wpIn_mono (ih j _ a w u hd h) λe a' w' J=> ?_);cases e<;>simp only[liftM,Exit.inBlock,Post.inBlock]at J⊢ <;>first
        | omega
        | skip
      rename_i k;obtain⟨h1,T⟩:=J;by_cases e:k=id
      . simp_all
      . rw[if_neg e];have:Nat.beq k id=false:=by
          cases hb:Nat.beq k id
          . rfl
          simp_all
        grind
  | _=>intro j Q a w u hd h;exact plain _ j Q none a w u hd (by unfold evM at h;exact h)
def COL(D:Nat)(w:World)(K:World->Prop):Prop:=w.heap[D]? =some (.deferred (some []))/\K (w.putObj D (.deferred none))
def iS{D:Nat}{w:World}{F:List Pr}{K:World->Prop}(H:Sat (IN D (.deferred (some []))::F) w)(a: ∀w',Sat F w'->K w'):COL D w K:=⟨H.Wj,a _ (H.UT _).tail⟩
def finM(P:Program)(fn:Func)(K Kp:Value->World->Prop):Wl:=λm e f w=>match m with
  | none=>finQ P fn K Kp e f w
  | some D=>match e with
    | .normal=>COL D w λw'=>evRes P fn.results.toList f w' λl=>K (resV l) w'
    | .ret=>COL D w λw'=>evRes P fn.results.toList f w' λl=>K (resV l) w'
    | _=>False
def Xh{P:Program}{C G:CP}{A:Ni}{f:FuncId}{fn:Func}{c:Code}{args:List Value}{w:World}{K Kp:Value->World->Prop}
    (hC:Fits P C)(hG:Fits P G)(hm:P.follows .mixedOrders=true)(hf:P.funcs[f]? =some fn)(hb:fn.body=some c)(T:Nat.ble args.length fn.ntmps=true)
    (hW:withinB fn.ntmps (writtenM c)=true)(h:evM P C G (Gh P) (V4 P) A c (finM P fn K Kp) (FA args) w):Calls P f ⟨args⟩ w (Ends K Kp):=by
  have Y:=Nat.le_of_ble_eq_true T;have hn:((⟨args⟩:Array Value)++Array.replicate (fn.ntmps-args.length) undef).size=fn.ntmps:=by grind
  rw[<-Qi (n:=fn.ntmps)]at h;refine(UR (r:=none) (n:=0)).1 (callsIn_of_wp_marks hf hb trivial (Go.wpIn_mono (lH hC hG hm c (IM hW) _ _ w hn rfl h) λe O w' j=> ?_));have one: ∀{D:Nat},O.defers=[Mk D]->(COL D w' λw'=>evRes P fn.results.toList (BZ O) w' λl=>K (resV l) w')->LeavesInM (Fo none) 0 P fn O.tmps (Ends K Kp) O.defers .returning w':=λ{D} hd hc=>by
    rw[hd];obtain⟨h1,h2⟩:=hc;obtain⟨l,u,J⟩:=GS h2;exact⟨by simp,.inl ⟨D,_,rfl,run_takeDeferred h1,_,J,.inl ⟨_,rfl,u⟩⟩⟩
  cases e<;>simp only[liftM,finM,bodyPostM]at j⊢ <;>first
    | exact j.elim
    | skip
  . obtain⟨_,⟨hd,a⟩|⟨D,hd,a⟩⟩:=j
    . rw[hd];obtain⟨l,u,J⟩:=GS a;exact⟨_,J,.inl ⟨_,rfl,u⟩⟩
    grind
  . obtain⟨_,⟨_,a⟩|⟨_,_,a⟩⟩:=j<;>exact a.elim
  . obtain⟨_,⟨_,a⟩|⟨_,_,a⟩⟩:=j<;>exact a.elim
  . obtain⟨_,⟨hd,a⟩|⟨D,hd,a⟩⟩:=j
    . rw[hd];obtain⟨l,u,J⟩:=GS a;exact⟨_,J,.inl ⟨_,rfl,u⟩⟩
    grind
  . obtain⟨_,⟨hd,a⟩|⟨_,_,a⟩⟩:=j
    . rw[hd];unfold finQ at a;split at a
      . grind
      . grind
      . rename_i v he;cases he;exact .inr ⟨_,rfl,a⟩
      grind
    grind
def Qu{P:Program}{T:List (Nat×Entry)}{A:Ni}{f:FuncId}{fn:Func}{c:Code}{l:List VT}{F:Fq l->(Value->World->Prop)->(Value->World->Prop)->World->Prop}
    (hT: ∀p∈T,EZ P p.1 p.2)(hm:P.follows .mixedOrders=true)(O:P.funcs[f]? =some fn)(a: ∀args w,(callFunc f args).run P w= .ok (.enter f args) w)
    (J:fn.body=some c)(Y:Nat.ble l.length fn.ntmps=true)(u:withinB fn.ntmps (writtenM c)=true)
    (e: ∀x K Kp w,F x K Kp w=evM P (tabC T) (ground P) (Gh P) (V4 P) A c (finM P fn K Kp) (FA (mkArgs l x)) w):
    Dn P f λargs w K Kp=>unArgs l args.toList λx=>F x K Kp w:=by
  intro args w K Kp h;obtain⟨x,hx,j⟩:=CE h;have v:args=⟨mkArgs l x⟩:=Array.toList_inj.1 (by omega);subst v;refine⟨λw=>a _ w,?_⟩;rw[e]at j;exact Xh (LC hT) (JP P) hm O J (by rw[GU];omega) u j
def Xi{P:Program}{T:List (Nat×Entry)}{A:Ni}{f:FuncId}{fn:Func}{c:Code}{l:List VT}{F:Fq l->(Value->World->Prop)->(Value->World->Prop)->World->Prop}
    (hT: ∀p∈T,EZ P p.1 p.2)(hm:P.follows .mixedOrders=true)(hf:P.funcs[f]? =some fn)(a: ∀args w,(callFunc f args).run P w= .ok (.enter f args) w)
    (hb:fn.body=some c)(aA:Nat.ble l.length fn.ntmps=true)(hW:withinB fn.ntmps (written c)=true)
    (J: ∀x K Kp w,F x K Kp w=evI P (tabC T) (ground P) (Gh P) A c (finQ P fn K Kp) (FA (mkArgs l x)) w):
    Dn P f λargs w K Kp=>unArgs l args.toList λx=>F x K Kp w:=by
  intro args w K Kp h;obtain⟨x,hx,Y⟩:=CE h;have j:args=⟨mkArgs l x⟩:=Array.toList_inj.1 (by omega);subst j;refine⟨λw=>a _ w,?_⟩;rw[J]at Y;have hlen:(mkArgs l x).length=l.length:=GU;have aB:=Nat.le_of_ble_eq_true aA;have hn:((⟨mkArgs l x⟩:Array Value)++Array.replicate (fn.ntmps-(mkArgs l x).length) undef).size=fn.ntmps:=by grind
  rw[<-Qi (n:=fn.ntmps)]at Y;refine calls_of_wp hf hb ((wpIn_wide (n:=0)).1 (Go.wpIn_mono (HY (LC hT) (JP P) (r0:=none) c (IM hW) _ _ w hn Y) λe a' w' u=> ?_));cases e<;>simp only[lift,finQ,bodyPost]at u⊢ <;>first
    | exact u.elim
    | exact u.2.2.elim
    | (obtain⟨_,j,O⟩:=u
       obtain⟨l,hK,hr⟩:=GS O;exact⟨j.defers,_,hr,.inl ⟨_,rfl,hK⟩⟩)
    | (obtain⟨_,j,O⟩:=u
       split at O
       . grind
       . grind
       . rename_i v he;cases he;exact⟨j.defers,.inr ⟨_,rfl,O⟩⟩
       grind)
end Go.Sh

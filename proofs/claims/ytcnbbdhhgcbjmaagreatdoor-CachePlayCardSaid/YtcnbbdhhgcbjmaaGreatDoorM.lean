/- What pieces of a program do to memory: blocks, rows, maps, interval lists, resources that lie apart. No further condition. -/
import Derived.Test.YtcnbbdhhgcbjmaaGreatDoorSh
import Derived.Below
set_option linter.all false
set_option maxRecDepth 50000
namespace Go.Sh
open Go.RowKit (Below)
structure Ext(S:Nat->Prop)(w w':World):Prop where
 os:w'.os=w.os
 tape:w'.tape=w.tape
 output:w'.output=w.output
 size:w.heap.size<=w'.heap.size
 block: ∀k,k<w.heap.size-> ¬S k->w'.heap[k]? =w.heap[k]?
def AR:Nat->Prop:=λ_=>False
def K0(b:Nat):Nat->Prop:=λk=>k=b
def Ext.refl(S:Nat->Prop)(w:World):Ext S w w:=⟨rfl,rfl,rfl,Nat.le_refl _,λ_ _ _=>rfl⟩
def Ext.drew(S:Nat->Prop)(w:World):Ext S w w.drew:=⟨rfl,rfl,rfl,Nat.le_refl _,λ_ _ _=>rfl⟩
def Ext.trans{S T U:Nat->Prop}{a b c:World}(h:Ext S a b)(k:Ext T b c)(v: ∀i,i<a.heap.size->S i->U i)(y: ∀i,i<a.heap.size->T i->U i):Ext U a c:=
 ⟨k.os.trans h.os,k.tape.trans h.tape,k.output.trans h.output,Nat.le_trans h.size k.size,λi j hu=>
  (k.block i (Nat.lt_of_lt_of_le j h.size) λt=>hu (y i j t)).trans (h.block i j λs=>hu (v i j s))⟩
def Ext.trans'{S:Nat->Prop}{a b c:World}(h:Ext S a b)(k:Ext S b c):Ext S a c:=h.trans k (λ_ _ s=>s) (λ_ _ s=>s)
def Ext.mono{S T:Nat->Prop}{a b:World}(h:Ext S a b)(hs: ∀i,i<a.heap.size->S i->T i):Ext T a b:=
 ⟨h.os,h.tape,h.output,h.size,λi j v=>h.block i j λs=>v (hs i j s)⟩
def Ext.any{S:Nat->Prop}{a b:World}(h:Ext AR a b):Ext S a b:=h.mono λ_ _ f=>f.elim
def Ext.alloc(S:Nat->Prop)(w:World)(o:Obj):Ext S w (w.alloc o):=
 ⟨rfl,rfl,rfl,by simp,λk hk _=>RowKit.Below.heap_alloc w o k hk⟩
def Ext.setCell(w:World)(p:Addr)(v:Value):Ext (K0 p.block) w (w.setCell p v):=
 ⟨rfl,rfl,rfl,by simp[World.setCell],λk hk hs=>RowKit.Below.heap_setCell w p v k hs⟩
def Ext.HW(w:World)(b:Nat)(o:Obj):Ext (K0 b) w (World.HW w b o):=
 ⟨rfl,rfl,rfl,by simp[World.HW],λk hk hs=>by
  have:k≠b:=hs;simp[World.HW,Array.getElem?_setIfInBounds_ne (Ne.symm this)]⟩
def Ext.cell{S:Nat->Prop}{w w':World}(h:Ext S w w'){p:Addr}{v:Value}(j:w.cell? p=some v)(hs: ¬S p.block):w'.cell? p=some v:=by
 have y:=World.block_lt_of_cell? w p j;rw[<-j];exact World.cell?_of_block (h.block p.block y hs)
def Ext.frozen{S:Nat->Prop}{w w':World}(h:Ext S w w'){p:Addr}(j:p.block<w.heap.size)(hs: ¬S p.block):w'.frozen? p=w.frozen? p:=
 World.frozen?_of_block (h.block p.block j hs)
def Ext.obj{S:Nat->Prop}{w w':World}(h:Ext S w w'){b:Nat}{o:Obj}(j:w.heap[b]? =some o)(hs: ¬S b):w'.heap[b]? =some o:=by
 have v:b<w.heap.size:=(Array.getElem?_eq_some_iff.1 j).1;rw[h.block b v hs,j]
def Ext.below{S:Nat->Prop}{w w':World}(h:Ext S w w'){B:Nat}(j:B<=w.heap.size)(v: ∀i,S i->B<=i):Below B w w':=
 ⟨h.os,h.tape,h.output,h.size,λk hk=>h.block k (by omega) λs=>by grind⟩
def Ik{w:World}{b:Nat}{o:Obj}(h:w.heap[b]? =some o):b<w.heap.size:=(Array.getElem?_eq_some_iff.1 h).1
def AW{w:World}{b:Nat}{cs:Array Value}{t:TypeId}{f:Nat×Nat}(h:w.heap[b]? =some (.cells cs t f))(j:Nat):w.cell? ⟨b,j,none⟩=cs[j]? :=by
 simp[World.cell?,h]
def add_eq(b o n:Nat):(Addr.mk b o none).add n=⟨b,o+n,none⟩:=by
 unfold Addr.add;grind
def add_add(p:Addr)(a b:Nat):(p.add a).add b=p.add (a+b):=by
 unfold Addr.add
 grind
def add_zero(p:Addr):p.add 0=p:=by simp[Addr.add]
def Wi(p:Addr)(n:Nat):(p.add n).block=p.block:=by unfold Addr.add;grind
def BZ{o:Obj}{w:World}{K:Nat->World->Prop}
  (h: ∀w',w'.heap[w.heap.size]? =some o->w'.heap.size=w.heap.size+1->Ext AR w w'->K w.heap.size w'):AL o w K:=
 h (w.alloc o) (heap_alloc_new w o) (by simp) (Ext.alloc _ w o)
structure OW(p:Addr)(v:Value)(w w':World):Prop where
 ext:Ext (K0 p.block) w w'
 same:w'.cell? p=some v
 other: ∀q:Addr,q≠p->w'.cell? q=w.cell? q
 frozen: ∀q:Addr,w'.frozen? q=w.frozen? q
 size:w'.heap.size=w.heap.size
def OX{w:World}{p:Addr}{u v:Value}(h:w.cell? p=some u):OW p v w (w.setCell p v):=
 ⟨Ext.setCell w p v,World.cell?_setCell_same w p v h,λq j=>World.cell?_setCell_other w p q v (Ne.symm j),λq=>World.frozen?_setCell w p q v,by simp⟩
def Mi{p:Addr}{v u:Value}{w:World}{K:World->Prop}(h:w.cell? p=some u)(hf:w.frozen? p=false)(y:v.oneCell'=true)
  (j: ∀w',OW p v w w'->K w'):stCells p 0 [v] w K:=by
 simp only[stCells,add_zero];exact⟨⟨⟨u,h⟩,hf,y⟩,j _ (OX h)⟩
def MM{w:World}{b j:Nat}{cs:Array Value}{t:TypeId}{f:Nat×Nat}{v:Value}(h:w.heap[b]? =some (.cells cs t f)):
  (w.setCell ⟨b,j,none⟩ v).heap[b]? =some (.cells (cs.setIfInBounds j v) t f):=by
 simp[World.setCell,Array.getElem?_modify,h]
def KL{t:TypeId}: ∀(vs:List Value) (b o i:Nat) (cs:Array Value) (w:World) (K:World->Prop),w.heap[b]? =some (.cells cs t)->o+i+vs.length<=cs.size->(∀v∈vs,v.oneCell'=true)->
  (∀w',Ext (K0 b) w w'->w'.heap.size=w.heap.size->w'.heap[b]? =some (.cells (cs.toList.take (o+i)++vs++cs.toList.drop (o+i+vs.length)).toArray t)->K w')->
  stCells ⟨b,o,none⟩ i vs w K
 | [],b,o,i,cs,w,K,h,hl,ho,hK=>by
  refine hK w (Ext.refl _ _) rfl ?_;rw[h];simp
 | v::r,b,o,i,cs,w,K,h,hl,ho,hK=>by
  have T:o+i<cs.size:=by grind
  simp only[stCells,add_eq];refine⟨⟨⟨cs[o+i],by rw[AW h];grind⟩,by simp[World.frozen?,h],ho v (by simp)⟩,?_⟩;have J:=MM (j:=o+i) (v:=v) h;refine KL r b o (i+1) _ _ K J (by grind) (λu hu=>ho u (by simp[hu])) λw' he hs O=> ?_;refine hK w' ((Ext.setCell w ⟨b,o+i,none⟩ v).trans' he) (by rw[hs];simp) ?_;rw[O];congr 3;have y:o+i<cs.toList.length:=by omega
  simp only[Array.toList_setIfInBounds];rw[show o+(i+1)=o+i+1 from by omega];rw[List.take_set,List.take_succ_eq_append_getElem y,List.set_append_right _ _ (by simp;omega)];simp only[List.length_take,Nat.min_eq_left (Nat.le_of_lt y),Nat.sub_self,List.set_cons_zero,List.append_assoc,List.singleton_append,List.length_cons];congr 2;rw[List.drop_set_of_lt (by omega)]
  grind
def Wj{S:Nat->Prop}{w w':World}{b:Option Addr}{n:Nat}{l:List Value}(h:rowAt w b n l)(he:Ext S w w')(hs: ∀a,b=some a->l≠ []-> ¬S a.block):rowAt w' b n l:=by
 cases b with
 | none=>exact h
 | some a=>
  refine⟨h.1,λj v y=>he.cell (h.2 j v y) ?_⟩;rw[Wi];exact hs a rfl (by intro e;grind)
structure JX(w:World)(B t z:Nat)(s:Ac)(vs:List Value):Prop where
 len:vs.length=s.len*z
 cap:s.len<=s.cap
 top:s.cap<9223372036854775808
 row:(s.base=none/\s.cap=0)∨ ∃b cs,s.base=some ⟨b,0,none⟩/\B<=b/\w.heap[b]? =some (.cells cs t)/\cs.size=s.cap*z/\cs.toList.take (s.len*z)=vs
def JX.nil(w:World)(B t z:Nat):JX w B t z ⟨none,0,0⟩ []:=⟨by simp,Nat.le_refl _,by decide,.inl ⟨rfl,rfl⟩⟩
def JX.rowAt{w:World}{B t z:Nat}{s:Ac}{vs:List Value}(h:JX w B t z s vs):rowAt w s.base (s.len*z) vs:=by
 rcases h.row with ⟨h1,h2⟩|⟨b,cs,h1,h2,y,K,O⟩
 .have:s.len=0:=by have:=h.cap;omega
  have J:=h.len;rw[this]at J;rw[h1];exact List.eq_nil_of_length_eq_zero (by omega)
 .rw[h1];refine⟨h.len,λj v T=> ?_⟩;rw[add_eq,Nat.zero_add,AW y]
  grind
def JX.ext{w w':World}{B t z:Nat}{s:Ac}{vs:List Value}{S:Nat->Prop}(h:JX w B t z s vs)(he:Ext S w w')(hs: ∀b,s.base=some ⟨b,0,none⟩-> ¬S b):JX w' B t z s vs:=by
 refine⟨h.len,h.cap,h.top,?_⟩;rcases h.row with h1|⟨b,cs,h1,h2,j,v⟩
 .grind
 .exact .inr ⟨b,cs,h1,h2,he.obj j (hs b h1),v⟩
def JX.lower{w:World}{B B' t z:Nat}{s:Ac}{vs:List Value}(h:JX w B t z s vs)(y:B'<=B):JX w B' t z s vs:=by
 refine⟨h.len,h.cap,h.top,?_⟩;rcases h.row with h1|⟨b,cs,h1,h2,j,v⟩
 .grind
 grind
def JX.lt{w:World}{B t z:Nat}{s:Ac}{vs:List Value}(h:JX w B t z s vs){a:Addr}(y:s.base=some a):B<=a.block/\a.block<w.heap.size/\a.off=0/\a.spot=none:=by
 rcases h.row with ⟨h1,_⟩|⟨b,cs,h1,h2,j,v⟩
 .grind
 grind
def Qg{e z bytes:Nat}{zs:Array Value}{s x:Ac}{w:World}{K:Ac->World->Prop}{B:Nat}{vs news:List Value}
  (hz:zs.size=z)(j:JX w B e z s vs)(Y:rowAt w x.base (x.len*z) news)(y:news.length=x.len*z)(ho: ∀v∈news,v.oneCell'=true)(hB:B<=w.heap.size)
  (hb:(s.len+x.len)*bytes<=140737488355328)(aA:s.len+x.len<=9223372036854775807)
  (hK: ∀s' w',JX w' B e z s' (vs++news)->s'.len=s.len+x.len->Ext (λk=> ∃a,s.base=some a/\k=a.block) w w'->
   (s'.base=s.base∨ ∃b,s'.base=some ⟨b,0,none⟩/\w.heap.size<=b)->K s' w'):APP e z bytes zs s x w K:=by
 refine⟨news,Y,λJ=> ?_,λaD=>⟨hb,aA,vs,j.rowAt,λcap T O=> ?_⟩⟩
 .rcases j.row with ⟨h1,h2⟩|⟨b,cs,h1,h2,h3,h4,h5⟩
  .have hx:x.len=0:=by omega
   have hs:s.len=0:=by omega
   rw[h1];have hn:news=[]:=List.eq_nil_of_length_eq_zero (by grind);have hv:vs=[]:=List.eq_nil_of_length_eq_zero (by rw[j.len,hs];simp);subst hn;subst hv;refine hK _ w ⟨by grind,by omega,j.top,.inl ⟨rfl,h2⟩⟩ rfl (Ext.refl _ _) (.inl h1.symm)
  .rw[h1];simp only[add_eq,Nat.zero_add];have hle:s.len*z+news.length<=cs.size:=by
    rw[y,h4,<-Nat.add_mul];exact Nat.mul_le_mul_right _ J
   refine KL news b (s.len*z) 0 cs w _ h3 (by omega) ho λw' he aM aC=> ?_;refine hK _ w' ⟨by grind,J,j.top,.inr ⟨b,_,rfl,h2,aC,?_,?_⟩⟩ rfl (he.mono λi _ hi=>⟨_,h1,hi⟩) (.inl h1.symm)
   .grind
   .simp only[Nat.add_zero];rw[h5,List.append_assoc,<-List.append_assoc,Nat.add_mul,<-y,<-j.len,<-List.length_append]
    grind
 .refine hK _ _ ⟨by simp[j.len,y,Nat.add_mul],T,O,.inr ⟨w.heap.size,_,rfl,hB,heap_alloc_new w.drew _,?_,?_⟩⟩ rfl ((Ext.drew _ w).trans' (Ext.alloc _ w.drew _)) (.inr ⟨_,rfl,Nat.le_refl _⟩)
  .simp only[Array.size_append,List.size_toArray,Builtin.zeroCells,Array.size_map,Array.size_range,j.len,y,hz];rw[<-Nat.add_mul,<-Nat.add_mul]
   grind
  .simp only[Array.toList_append,Nat.add_mul];rw[<-y,<-j.len,<-List.length_append]
   grind
def Xe{w w':World}{B t z n:Nat}{cells:List Value}(h:w'.heap[w.heap.size]? =some (.cells ⟨cells⟩ t))(j:cells.length=n*z)(v:B<=w.heap.size)(y:n<9223372036854775808):
  JX w' B t z ⟨some ⟨w.heap.size,0,none⟩,n,n⟩ cells:=
 ⟨j,Nat.le_refl _,y,.inr ⟨_,_,rfl,v,h,by omega,by rw[<-j];simp⟩⟩
def Mr(a:Option Addr)(c z:Nat):HU a c 0 z=a:=by
 unfold HU;split
 .rfl
 .cases a<;>simp[add_zero]
def Lw{w:World}{b:Option Addr}{n m:Nat}{l:List Value}(h:rowAt w b n l)(hm:m<=n)(y:l.length=n):rowAt w b m (l.take m):=by
 cases b with
 | none=>have:l=[]:=h;grind
 | some a=>
  refine⟨by rw[List.length_take,y];omega,λj v J=>h.2 j v ?_⟩
  grind
def Jf{w:World}{b:Option Addr}{n len cap k z:Nat}{l:List Value}(h:rowAt w b n l)(T:n=len*z)(hk:k<=len)(O:len<=cap)(K:l.length=n):
  rowAt w (HU b cap k z) ((len-k)*z) (l.drop (k*z)):=by
 have hlen:(l.drop (k*z)).length=(len-k)*z:=by rw[List.length_drop,K,T,Nat.sub_mul]
 unfold HU;split
 .rename_i hck;have:len-k=0:=by omega
  rw[this]at hlen⊢;have y:l.drop (k*z)=[]:=List.eq_nil_of_length_eq_zero (by omega);rw[y];cases b with
  | none=>rfl
  | some a=>exact⟨by simp,by simp⟩
 .cases b with
  | none=>have:l=[]:=h;grind
  | some a=>
   refine⟨hlen,λj v J=> ?_⟩;rw[add_add];rw[List.getElem?_drop]at J;exact h.2 _ v J
def AJ{σ:Type}{s0:σ}{w0:World}{body:σ->(Nat->Value)->World->(σ->World->Prop)->Prop}(I:σ->World->Prop)(μ:σ->World->Nat)(h0:I s0 w0)
  (h: ∀s j w,I s w->body s j w λs' w'=>I s' w'/\μ s' w'<μ s w):A9 σ s0 w0 body:=⟨I,μ,h0,h⟩
def Aj{σ:Type}{first:(σ->World->Prop)->Prop}{rest:σ->(Nat->Value)->World->Prop}(J:σ->World->Prop)(h1:first J)(h2: ∀s j w,J s w->rest s j w):An σ first rest:=⟨J,h1,h2⟩
def AP{b:Bool}{T E:Prop}(h1:b=true->T)(h2:b=false->E):CND b T E:=iH.2 ⟨h1,h2⟩
def AB{p:Prop}[Decidable p]{T E:Prop}(h1:p->T)(h2: ¬p->E):CND (decide p) T E:=
 iH.2 ⟨λh=>h1 (of_decide_eq_true h),λh=>h2 (of_decide_eq_false h)⟩
def Am{α:Type}{e:α}{K:α->Prop}(h: ∀x,x=e->K x):Kj e K:=h e rfl
def Qh(n:Int):u64 n=n %18446744073709551616:=by simp[u64,IntKind.wrap,IntKind.bits,IntKind.signed]
def AI{n:Int}(h0:0<=n:=by omega)(h1:n<18446744073709551616:=by omega):u64 n=n:=by rw[Qh];omega
def AM{n:Int}(h0: -9223372036854775808<=n:=by omega)(h1:n<9223372036854775808:=by omega):i64 n=n:=IntWalk.i64_in n (by omega)
def Xf(a b:Int):XR a b=min a b:=by unfold XR;omega
def Tk(a b:Int):TQ a b=max a b:=by unfold TQ;omega
end Go.Sh
namespace Go.Sh
abbrev Iv:=List (Int×Int)
def Ok:Iv->Prop
 | []=>True
 | p::r=>0<=p.1/\p.1<p.2/\p.2<18446744073709551616/\(∀q∈r,p.2<q.1)/\Ok r
def mem(l:Iv)(n:Int):Prop:= ∃p∈l,p.1<=n/\n<p.2
def posn:Iv->Int->Nat
 | [],_=>0
 | p::r,x=>if p.2<=x then posn r x+1 else 0
def HE:Iv->Int
 | []=>0
 | p::r=>(p.2-p.1)+HE r
def OY(p:Int×Int)(a b:Int):Int:=max 0 (min p.2 b-max p.1 a)
def cnt:Iv->Int->Int->Int
 | [],_,_=>0
 | p::r,a,b=>OY p a b+cnt r a b
def Qi(p:Int×Int)(a b:Int):Iv:=(if p.1<a then [(p.1,min p.2 a)]else [])++(if b<p.2 then [(max p.1 b,p.2)]else [])
def EI:Iv->Int->Int->Iv
 | [],_,_=>[]
 | p::r,a,b=>Qi p a b++EI r a b
def addHi(l:Iv)(i:Nat)(b:Int):Int×Nat:=match l[i]? with
 | some q=>if q.1=b then(q.2,i+1)else(b,i)
 | none=>(b,i)
def addLo(l:Iv)(i:Nat)(a:Int):Int×Nat:=match i with
 | 0=>(a,0)
 | i+1=>match l[i]? with
  | some q=>if q.2=a then(q.1,i)else(a,i+1)
  | none=>(a,i+1)
def TS(l:Iv)(a b:Int):Iv:=
 l.take (addLo l (posn l a) a).2++[((addLo l (posn l a) a).1,(addHi l (posn l a) b).1)]++l.drop (addHi l (posn l a) b).2
def D9(l:Iv)(a b:Int):Iv:=TS (EI l a b) a b
def MN: ∀(l:Iv) (x:Int),posn l x<=l.length
 | [],_=>Nat.le_refl _
 | p::r,x=>by
  unfold posn;split
  .have:=MN r x;simp;omega
  .simp
def OZ: ∀(l:Iv) (x:Int) (i:Nat) (p:Int×Int),i<posn l x->l[i]? =some p->p.2<=x
 | [],x,i,p,h,_=>by simp[posn]at h
 | q::r,x,i,p,h,hp=>by
  unfold posn at h;split at h
  .rename_i hq;cases i with
   | zero=>simp at hp;subst hp;exact hq
   | succ i=>exact OZ r x i p (by omega) (by grind)
  .omega
def Xg: ∀(l:Iv) (x:Int) (p:Int×Int),l[posn l x]? =some p->x<p.2
 | [],x,p,h=>by simp at h
 | q::r,x,p,h=>by
  unfold posn at h;split at h
  .exact Xg r x p (by grind)
  .simp at h;subst h;omega
def Ok.tail{p:Int×Int}{r:Iv}(h:Ok (p::r)):Ok r:=h.2.2.2.2
def Ok.get: ∀{l:Iv},Ok l-> ∀{i:Nat} {p:Int×Int},l[i]? =some p->0<=p.1/\p.1<p.2/\p.2<18446744073709551616
 | [],_,i,p,h=>by simp at h
 | q::r,h,0,p,hp=>by simp at hp;subst hp;exact⟨h.1,h.2.1,h.2.2.1⟩
 | q::r,h,i+1,p,hp=>Ok.get h.tail (by simpa using hp)
def Ok.mem: ∀{l:Iv},Ok l-> ∀{p:Int×Int},p∈l->0<=p.1/\p.1<p.2/\p.2<18446744073709551616
 | [],_,p,h=>by cases h
 | q::r,h,p,hp=>by
  rcases List.mem_cons.1 hp with rfl|hp
  .exact⟨h.1,h.2.1,h.2.2.1⟩
  .exact Ok.mem h.tail hp
def Ok.lt: ∀{l:Iv},Ok l-> ∀{i j:Nat} {p q:Int×Int},i<j->l[i]? =some p->l[j]? =some q->p.2<q.1
 | [],_,i,j,p,q,_,h,_=>by simp at h
 | r::l,h,0,j+1,p,q,_,hp,hq=>by
  simp at hp;subst hp;exact h.2.2.2.1 q (List.mem_of_getElem? (by simpa using hq))
 | r::l,h,i+1,j+1,p,q,hij,hp,hq=>Ok.lt (l:=l) (i:=i) (j:=j) h.tail (by omega) (by grind) (by grind)
 | _::_,_,_,0,_,_,hij,_,_=>by omega
def Lx{l:Iv}(h:Ok l)(x:Int){i:Nat}{p:Int×Int}(K:posn l x<=i)(hp:l[i]? =some p):x<p.2:=by
 rcases Nat.lt_or_ge (posn l x) i with j|y
 .have v:posn l x<l.length:=by grind
  have h1:=Xg l x _ (List.getElem?_eq_getElem v);have h2:=h.lt j (List.getElem?_eq_getElem v) hp;have J:=h.get hp;omega
 .have:i=posn l x:=by omega
  subst this;exact Xg l x p hp
def Bq(n:Int): ¬mem [] n:=by rintro⟨p,hp,_⟩;cases hp
def mem_cons{p:Int×Int}{r:Iv}{n:Int}:mem (p::r) n↔(p.1<=n/\n<p.2)∨mem r n:=by
 constructor
 .rintro⟨q,j,h⟩;rcases List.mem_cons.1 j with rfl|j
  .omega
  .exact .inr ⟨q,j,h⟩
 .rintro(h|⟨q,j,h⟩)
  .exact⟨p,by simp,h⟩
  .exact⟨q,by simp[j],h⟩
def mem_append{l m:Iv}{n:Int}:mem (l++m) n↔mem l n∨mem m n:=by
 induction l with
 | nil=>simp[Bq]
 | cons p r ih=>simp[mem_cons,ih,or_assoc]
def oK{p:Int×Int}{a b n:Int}(j:a<b):mem (Qi p a b) n↔(p.1<=n/\n<p.2)/\ ¬(a<=n/\n<b):=by
 unfold Qi;rw[mem_append];have h1:mem (if p.1<a then [(p.1,min p.2 a)]else []) n↔p.1<a/\p.1<=n/\n<min p.2 a:=by
  split<;>rename_i h<;>simp[mem_cons,Bq,h]
 have h2:mem (if b<p.2 then [(max p.1 b,p.2)]else []) n↔b<p.2/\max p.1 b<=n/\n<p.2:=by
  split<;>rename_i h<;>simp[mem_cons,Bq,h]
 grind
def FH{l:Iv}{a b n:Int}(j:a<b):mem (EI l a b) n↔mem l n/\ ¬(a<=n/\n<b):=by
 induction l with
 | nil=>simp[EI,Bq]
 | cons p r ih=>
  simp only[EI,mem_append,mem_cons,oK j,ih]
  grind
def GR: ∀{l m:Iv},Ok (l++m)↔Ok l/\Ok m/\ ∀p∈l,∀q∈m,p.2<q.1
 | [],m=>by simp[Ok]
 | p::r,m=>by
  simp only[List.cons_append,Ok,GR (l:=r) (m:=m),List.mem_append,List.mem_cons]
  grind
def Sg{p q:Int×Int}{a b:Int}(v:q∈Qi p a b)(hp:p.1<p.2)(j:a<b):p.1<=q.1/\q.2<=p.2/\q.1<q.2:=by
 unfold Qi at v
 grind
def Oa{l:Iv}{a b:Int}{q:Int×Int}(h:Ok l)(v:a<b)(j:q∈EI l a b): ∃p∈l,p.1<=q.1/\q.2<=p.2/\q.1<q.2:=by
 induction l with
 | nil=>cases j
 | cons p r ih=>
  rcases List.mem_append.1 j with j|j
  .exact⟨p,by simp,Sg j h.2.1 v⟩
  .obtain⟨K,y,J⟩:=ih h.tail j
   grind
def tW{p:Int×Int}{a b:Int}(h0:0<=p.1)(h1:p.1<p.2)(h2:p.2<18446744073709551616)(j:a<b):Ok (Qi p a b):=by
 unfold Qi;split<;>split<;>simp[Ok]<;>omega
def G8{l:Iv}{a b:Int}(h:Ok l)(j:a<b):Ok (EI l a b):=by
 induction l with
 | nil=>trivial
 | cons p r ih=>
  simp only[EI,GR];refine⟨tW h.1 h.2.1 h.2.2.1 j,ih h.tail,λq J T y=> ?_⟩;have h1:=Sg J h.2.1 j;obtain⟨K,v,h2⟩:=Oa h.tail j y;have O:=h.2.2.2.1 K v;omega
def NP(l m:Iv):HE (l++m)=HE l+HE m:=by
 induction l with
 | nil=>simp[HE]
 | cons p r ih=>simp[HE,ih];omega
def oL{p:Int×Int}{a b:Int}(hp:p.1<p.2)(j:a<b):HE (Qi p a b)=p.2-p.1-OY p a b:=by
 unfold Qi OY;rw[NP];split<;>split<;>simp[HE]<;>omega
def UQ{l:Iv}{a b:Int}(h:Ok l)(j:a<b):HE (EI l a b)=HE l-cnt l a b:=by
 induction l with
 | nil=>simp[EI,HE,cnt]
 | cons p r ih=>
  simp only[EI,NP,HE,cnt,ih h.tail,oL h.2.1 j];omega
def NQ{l:Iv}(h:Ok l):0<=HE l:=by
 induction l with
 | nil=>simp[HE]
 | cons p r ih=>have:=ih h.tail;have:=h.2.1;simp only[HE];omega
def oM: ∀{l:Iv} (h:Ok l) (B:Int),0<=B->B<18446744073709551616->(∀p∈l,B<=p.1)->B+HE l<18446744073709551616
 | [],_,B,h0,h1,_=>by simp only[HE];omega
 | p::r,h,B,h0,h1,hB=>by
  have h2:=hB p (by simp);have:=oM h.tail p.2 (by have:=h.1;have:=h.2.1;omega) h.2.2.1 (λq j=>by have:=h.2.2.2.1 q j;omega);simp only[HE];omega
def iL{l:Iv}(h:Ok l):HE l<18446744073709551616:=by
 have:=oM h 0 (by omega) (by omega) (λp hp=>(h.mem hp).1);omega
def DU(l:Iv)(a b:Int):0<=cnt l a b:=by
 induction l with
 | nil=>simp[cnt]
 | cons p r ih=>simp only[cnt,OY];omega
def UR(l m:Iv)(a b:Int):cnt (l++m) a b=cnt l a b+cnt m a b:=by
 induction l with
 | nil=>simp[cnt]
 | cons p r ih=>simp[cnt,ih];omega
def Si: ∀{l:Iv} (h:Ok l) {a b:Int},a<=b-> ∀c:Int,a<=c->c<=b->(∀p∈l,c<=p.1)->cnt l a b<=b-c
 | [],_,a,b,hab,c,_,hc,_=>by simp[cnt];omega
 | p::r,h,a,b,hab,c,hac,hcb,hB=>by
  have h1:=hB p (by simp);simp only[cnt,OY];rcases Int.lt_or_le b p.2 with y|y
  .have:cnt r a b=0:=by
    have: ∀l:Iv,(∀q∈l,b<=q.1)->cnt l a b=0:=by
     intro l
     induction l with
     | nil=>intro _;rfl
     | cons q s ih=>
      intro j;have:=j q (by simp);have:=ih λJ v=>j J (by simp[v]);simp only[cnt,OY];omega
    exact this r λq j=>by have:=h.2.2.2.1 q j;omega
   omega
  .have:=Si h.tail hab p.2 (by have:=h.2.1;omega) y (λq j=>by have:=h.2.2.2.1 q j;omega);have:=h.2.1;omega
def FO: ∀{l:Iv} (h:Ok l) {a b:Int},a<=b->cnt l a b<=b-a
 | [],_,a,b,hab=>by simp[cnt];omega
 | p::r,h,a,b,hab=>by
  have hp:=h.2.1;simp only[cnt,OY];have hz:(∀q∈r,b<=q.1)->cnt r a b=0:=by
   intro J;have: ∀l:Iv,(∀q∈l,b<=q.1)->cnt l a b=0:=by
    intro l
    induction l with
    | nil=>intro _;rfl
    | cons q s ih=>
     intro j;have:=j q (by simp);have:=ih λy v=>j y (by simp[v]);simp only[cnt,OY];omega
   grind
  rcases Int.lt_or_le p.2 a with h1|h1
  .have:=FO h.tail hab;omega
  .rcases Int.lt_or_le b p.2 with h2|h2
   .have:=hz λq j=>by have:=h.2.2.2.1 q j;omega
    omega
   .have:=Si h.tail hab p.2 h1 h2 (λq j=>by have:=h.2.2.2.1 q j;omega);omega
def TT{l:Iv}{a b:Int}(h: ∀p∈l,p.2<=a):cnt l a b=0:=by
 induction l with
 | nil=>rfl
 | cons q s ih=>
  have:=h q (by simp);have:=ih λv j=>h v (by simp[j]);simp only[cnt,OY];omega
def US{l:Iv}{a b:Int}(h: ∀p∈l,b<=p.1):cnt l a b=0:=by
 induction l with
 | nil=>rfl
 | cons q s ih=>
  have:=h q (by simp);have:=ih λv j=>h v (by simp[j]);simp only[cnt,OY];omega
def Ob(l m:Iv)(a b:Int):EI (l++m) a b=EI l a b++EI m a b:=by
 induction l with
 | nil=>rfl
 | cons p r ih=>simp[EI,ih]
def ZY{l:Iv}{a b:Int}(j:a<b)(h: ∀p∈l,p.1<p.2/\p.2<=a):EI l a b=l:=by
 induction l with
 | nil=>rfl
 | cons p r ih=>
  have hp:=h p (by simp);simp only[EI,ih λq v=>h q (by simp[v])];unfold Qi
  grind
def dW{l:Iv}{a b:Int}(j:a<b)(h: ∀p∈l,p.1<p.2/\b<=p.1):EI l a b=l:=by
 induction l with
 | nil=>rfl
 | cons p r ih=>
  have hp:=h p (by simp);simp only[EI,ih λq v=>h q (by simp[v])];unfold Qi
  grind
def Qj{l:Iv}{a:Int}: ∀p∈l.take (posn l a),p.2<=a:=by
 intro p hp;obtain⟨i,j,rfl⟩:=List.mem_iff_getElem.1 hp;simp only[List.length_take]at j;rw[List.getElem_take];exact OZ l a i _ (by omega) (List.getElem?_eq_getElem (by omega))
def dX{l:Iv}(h:Ok l){a b:Int}(y:a<b){k:Nat}(hk:posn l a<=k)(J: ∀p,l[k]? =some p->b<=p.1):
  EI l a b=l.take (posn l a)++EI ((l.take k).drop (posn l a)) a b++l.drop k:=by
 have h1:l=l.take (posn l a)++(l.take k).drop (posn l a)++l.drop k:=by
  have K:l.take k=(l.take k).take (posn l a)++(l.take k).drop (posn l a):=(List.take_append_drop _ _).symm;rw[List.take_take,Nat.min_eq_left hk]at K;rw[<-K,List.take_append_drop]
 have h2:EI (l.take (posn l a)) a b=l.take (posn l a):=ZY y λp hp=>⟨(h.mem (List.mem_of_mem_take hp)).2.1,Qj p hp⟩;have O:EI (l.drop k) a b=l.drop k:=by
  refine dW y λp hp=>⟨(h.mem (List.mem_of_mem_drop hp)).2.1,?_⟩;obtain⟨i,T,rfl⟩:=List.mem_iff_getElem.1 hp;rw[List.getElem_drop];simp only[List.length_drop]at T;have v:k<l.length:=by omega
  have h4:=J _ (List.getElem?_eq_getElem v);rcases Nat.eq_zero_or_pos i with rfl|Y
  .omega
  .have h5:=h.lt (i:=k) (j:=k+i) (by omega) (List.getElem?_eq_getElem v) (List.getElem?_eq_getElem (by omega));have h6:=h.get (List.getElem?_eq_getElem v);omega
 conv=>lhs;rw[h1]
 rw[Ob,Ob,h2,O]
def Clear(l:Iv)(a b:Int):Prop:= ∀p∈l,p.2<=a∨b<=p.1
def UT{l:Iv}{a b:Int}(h:Ok l)(j:a<b):Clear (EI l a b) a b:=by
 intro q v;have hm:mem (EI l a b) q.1:=⟨q,v,by omega,((G8 h j).mem v).2.1⟩;have h1:=(FH j).1 hm;have h2:=(G8 h j).mem v;rcases Int.lt_or_le q.1 a with K|J
 .left;rcases Int.lt_or_le a q.2 with y|y
  .have:mem (EI l a b) a:=⟨q,v,by omega,y⟩;have:=((FH j).1 this).2;omega
  .exact y
 omega
def k6(l:Iv)(i:Nat)(n:Int):mem l n↔mem (l.take i) n∨mem (l.drop i) n:=by
 rw[<-mem_append,List.take_append_drop]
def k7{l:Iv}(h:Ok l){a b:Int}(j:Clear l a b): ∀p∈l.drop (posn l a),b<=p.1:=by
 intro p hp;obtain⟨i,v,rfl⟩:=List.mem_iff_getElem.1 hp;rw[List.getElem_drop];simp only[List.length_drop]at v;have h1:=Lx h a (i:=posn l a+i) (by omega) (List.getElem?_eq_getElem (by omega));rcases j _ (List.getElem_mem (l:=l) (n:=posn l a+i) (by omega))with h2|h2<;>omega
def Wl{l:Iv}{a b:Int}(h:Ok l)(aV:a<b)(h0:0<=a)(hb:b<18446744073709551616)(hc:Clear l a b):
  Ok (TS l a b)/\(∀n,mem (TS l a b) n↔mem l n∨(a<=n/\n<b))/\HE (TS l a b)=HE l+(b-a):=by
 have aY:=MN l a;obtain⟨i,hi⟩: ∃i,i=posn l a:=⟨_,rfl⟩;have aH: ∀p∈l.take i,p.2<=a:=by rw[hi];exact Qj
 have aG: ∀p∈l.drop i,b<=p.1:=by rw[hi];exact k7 h hc
 have Y:l=l.take i++l.drop i:=(List.take_append_drop i l).symm;have aF:=h;rw[Y,GR]at aF;obtain⟨K,O,aU⟩:=aF;have key: ∀(L M R N:Iv) (x y:Int),l.take i=L++M->l.drop i=N++R->x<=a->b<=y->0<=x->y<18446744073709551616->
   (∀p∈L,p.2<x)->(∀p∈R,y<p.1)->(∀n,(x<=n/\n<y)↔mem M n∨(a<=n/\n<b)∨mem N n)->y-x=HE M+(b-a)+HE N->
   TS l a b=L++[(x,y)]++R->Ok (TS l a b)/\(∀n,mem (TS l a b) n↔mem l n∨(a<=n/\n<b))/\HE (TS l a b)=HE l+(b-a):=by
  intro L M R N x y h1 h2 hx hy aZ a0 hl hr aI aT he;rw[he];rw[h1]at K;rw[h2]at O;rw[GR]at K O;refine⟨?_,λn=> ?_,?_⟩
  .rw[GR,GR];refine⟨⟨K.1,?_,?_⟩,O.2.1,?_⟩
   .simp only[Ok];grind
   .grind
   grind
  .rw[mem_append,mem_append,k6 l i n,h1,h2,mem_append,mem_append];simp only[mem_cons,Bq,or_false];rw[aI n];constructor
   .grind
   grind
  .have e1:=NP (l.take i) (l.drop i);rw[List.take_append_drop]at e1;rw[e1,h1,h2];simp only[NP,HE];omega
 have aL:(∃q R,l.drop i=q::R/\q.1=b/\addHi l i b=(q.2,i+1)/\l.drop (i+1)=R)∨((∀p∈l.drop i,b<p.1)/\addHi l i b=(b,i)):=by
  unfold addHi;rcases Nat.lt_or_ge i l.length with J|aX
  .have hg:=List.getElem?_eq_getElem J;rw[hg];have hd:l.drop i=l[i]::l.drop (i+1):=List.drop_eq_getElem_cons J;by_cases hq:l[i].1=b
   .grind
   .refine .inr ⟨?_,by simp[hq]⟩;intro p hp;rw[hd]at hp;have aJ:b<=l[i].1:=aG _ (by grind);rcases List.mem_cons.1 hp with rfl|hp
    .omega
    .have h2:=O;rw[hd]at h2;have:=h2.2.2.2.1 p hp;have:=h2.2.1;omega
  grind
 have aN:(∃q L,l.take i=L++[q]/\q.2=a/\addLo l i a=(q.1,i-1)/\l.take (i-1)=L)∨((∀p∈l.take i,p.2<a)/\addLo l i a=(a,i)):=by
  unfold addLo;cases i with
  | zero=>grind
  | succ j=>
   have J:j<l.length:=by omega
   have hg:=List.getElem?_eq_getElem J;simp only[hg];have ht:l.take (j+1)=l.take j++[l[j]]:=List.take_succ_eq_append_getElem J;by_cases hq:l[j].2=a
   .grind
   .refine .inr ⟨?_,by simp[hq]⟩;intro p hp;have aJ:l[j].2<=a:=aH _ (by rw[ht];exact List.mem_append_right _ List.mem_cons_self);rw[ht]at hp;rcases List.mem_append.1 hp with hp|hp
    .have h2:=K;rw[ht,GR]at h2;have:=h2.2.2 p hp l[j] (by simp);have:=h2.2.1.2.1;omega
    .simp at hp;grind
 have v:TS l a b=l.take (addLo l i a).2++[((addLo l i a).1,(addHi l i b).1)]++l.drop (addHi l i b).2:=by rw[hi];rfl
 rcases aN with ⟨q,L,h1,h2,h3,h4⟩|⟨h1,h3⟩<;>rcases aL with ⟨q',R,T,h6,h7,h8⟩|⟨T,h7⟩
 .rw[h3,h7]at v;simp only[h4,h8]at v;have hq:q∈l.take i:=by rw[h1];simp
  have aB:q'∈l.drop i:=by rw[T];simp
  have g1:=K.mem hq;have g2:=O.mem aB;refine key L [q] R [q'] q.1 q'.2 h1 T (by omega) (by omega) (by omega) (by omega) ?_ ?_ ?_ ?_ v
  .rw[h1,GR]at K;intro p hp;exact K.2.2 p hp q (by simp)
  .rw[T]at O;exact O.2.2.2.1
  .intro n;simp only[mem_cons,Bq,or_false];omega
  .simp only[HE];omega
 .rw[h3,h7]at v;simp only[h4]at v;have hq:q∈l.take i:=by rw[h1];simp
  have g1:=K.mem hq;refine key L [q] (l.drop i) [] q.1 b h1 rfl (by omega) (by omega) (by omega) hb ?_ T ?_ ?_ v
  .rw[h1,GR]at K;intro p hp;exact K.2.2 p hp q (by simp)
  .intro n;simp only[mem_cons,Bq,or_false];omega
  .simp only[HE];omega
 .rw[h3,h7]at v;simp only[h8]at v;have aB:q'∈l.drop i:=by rw[T];simp
  have g2:=O.mem aB;refine key (l.take i) [] R [q'] a q'.2 (by simp) T (by omega) (by omega) h0 (by omega) h1 ?_ ?_ ?_ v
  .rw[T]at O;exact O.2.2.2.1
  .intro n;simp only[mem_cons,Bq,or_false,false_or];omega
  .simp only[HE];omega
 .rw[h3,h7]at v;refine key (l.take i) [] (l.drop i) [] a b (by simp) rfl (by omega) (by omega) h0 hb h1 T ?_ ?_ v
  .intro n;simp only[Bq,or_false,false_or]
  .simp only[HE];omega
def Ft{l:Iv}{a b:Int}(h:Ok l)(j:a<b)(h0:0<=a)(y:b<18446744073709551616):
  Ok (D9 l a b)/\(∀n,mem (D9 l a b) n↔mem l n∨(a<=n/\n<b))/\HE (D9 l a b)=HE l-cnt l a b+(b-a):=by
 obtain⟨h1,h2,v⟩:=Wl (G8 h j) j h0 y (UT h j);refine⟨h1,λn=> ?_,by rw[D9,v,UQ h j]⟩;rw[D9,h2,FH j]
 grind
def UU{α:Type}{l:List α}{k:Nat}{x:α}(h:l[k]? =some x):l.drop k=x::l.drop (k+1):=by
 obtain⟨j,rfl⟩:=List.getElem?_eq_some_iff.1 h;exact List.drop_eq_getElem_cons j
def oN{p:Int×Int}{a m b:Int}(hp:p.1<p.2)(h1:a<=m)(h2:m<=b):OY p a b=OY p a m+OY p m b:=by
 unfold OY;omega
def MO: ∀{l:Iv},(∀p∈l,p.1<p.2)-> ∀{a m b:Int},a<=m->m<=b->cnt l a b=cnt l a m+cnt l m b
 | [],_,a,m,b,_,_=>rfl
 | p::r,h,a,m,b,h1,h2=>by
  simp only[cnt];rw[MO (λq j=>h q (List.mem_cons_of_mem _ j)) h1 h2,oN (h p List.mem_cons_self) h1 h2];omega
def Tl: ∀{l:Iv},(∀p∈l,p.1<p.2)-> ∀{a:Int},0<cnt l a (a+1)↔mem l a
 | [],_,a=>by simp[cnt,mem]
 | p::r,h,a=>by
  have v:=Tl (l:=r) (λq j=>h q (List.mem_cons_of_mem _ j)) (a:=a);have h0:=DU r a (a+1);have hp:=h p List.mem_cons_self;rw[mem_cons,<-v];simp only[cnt];unfold OY;omega
def FI{l:Iv}(h:Ok l){a b:Int}(v:a<=b):cnt l a b=b-a↔ ∀n,a<=n->n<b->mem l n:=by
 have j: ∀p∈l,p.1<p.2:=λp hp=>(h.mem hp).2.1;obtain⟨k,hk⟩: ∃k:Nat,b=a+k:=⟨(b-a).toNat,by omega⟩;subst hk
 induction k with
 | zero=>
  have h1:=FO h (a:=a) (b:=a+(0:Nat)) v;have h2:=DU l a (a+(0:Nat))
  grind
 | succ k J=>
  have J:=J (by omega);have e:=MO j (a:=a) (m:=a+(k:Nat)) (b:=a+((k+1:Nat):Int)) (by omega) (by omega);have h1:=FO h (a:=a) (b:=a+(k:Nat)) (by omega);have h2:=FO h (a:=a+(k:Nat)) (b:=a+(k:Nat)+1) (by omega);have y:=Tl j (a:=a+(k:Nat))
  grind
def Ok.dY{l:Iv}(h:Ok l): ∀p∈l,p.1<p.2:=λp hp=>(h.mem hp).2.1
def Di{l:Iv}(h:Ok l){a b:Int}(j:a<=b):cnt l a b=0↔ ∀n,a<=n->n<b-> ¬mem l n:=by
 obtain⟨k,hk⟩: ∃k:Nat,b=a+k:=⟨(b-a).toNat,by omega⟩;subst hk
 induction k with
 | zero=>
  have h1:=FO h (a:=a) (b:=a+(0:Nat)) j;have h2:=DU l a (a+(0:Nat))
  grind
 | succ k y=>
  have y:=y (by omega);have e:=MO h.dY (a:=a) (m:=a+(k:Nat)) (b:=a+((k+1:Nat):Int)) (by omega) (by omega);have h1:=DU l a (a+(k:Nat));have h2:=DU l (a+(k:Nat)) (a+(k:Nat)+1);have v:=Tl h.dY (a:=a+(k:Nat))
  grind
def Eo{l:Iv}(h:Ok l){a b:Int}(j:a<b)(h0:0<=a)(v:b<18446744073709551616)(n:Int):mem (D9 l a b) n↔mem l n∨(a<=n/\n<b):=
 (Ft h j h0 v).2.1 n
def Qk{l:Iv}(h:Ok l){n:Int}(hm:mem l n):0<=n:=by
 obtain⟨p,hp,h1,h2⟩:=hm;have:=(h.mem hp).1;omega
def Xh{l:Iv}(h:Ok l): ∀{a b:Int},a<b->(∀n,a<=n->n<b->mem l n)-> ∃q∈l,q.1<=a/\b<=q.2:=by
 induction l with
 | nil=>intro a b j hm;exact absurd (hm a (Int.le_refl _) j) (Bq _)
 | cons p r ih=>
  intro a b j hm;by_cases h1:p.1<=a/\a<p.2
  .by_cases h2:b<=p.2
   .grind
   .have v:=hm p.2 (by omega) (by omega);rcases mem_cons.1 v with y|⟨q,v,y,J⟩
    .omega
    .have:=h.2.2.2.1 q v;omega
  .have K: ∀n,a<=n->n<b->mem r n:=by
    intro n O T;rcases mem_cons.1 (hm n O T)with y|y
    .exfalso;have Y:=hm a (Int.le_refl _) j;rcases mem_cons.1 Y with J|⟨q,v,J,h5⟩
     .exact h1 J
     .have:=h.2.2.2.1 q v;omega
    .exact y
   obtain⟨q,v,y⟩:=ih h.tail j K
   grind
def oO: ∀{l m:Iv},Ok l->Ok m->(∀n,mem l n↔mem m n)->l=m
 | [],[],_,_,_=>rfl
 | [],q::m,_,hm,h=>absurd ((h q.1).2 (mem_cons.2 (.inl ⟨by omega,hm.2.1⟩))) (Bq _)
 | p::l,[],v,_,h=>absurd ((h p.1).1 (mem_cons.2 (.inl ⟨by omega,v.2.1⟩))) (Bq _)
 | p::l,q::m,v,hm,h=>by
  have first: ∀{p q:Int×Int} {l m:Iv},Ok (p::l)->Ok (q::m)->(∀n,mem (p::l) n->mem (q::m) n)->q.1<=p.1/\(p.1<=q.1->p.2<=q.2):=by
   intro p q l m v hm h;constructor
   .rcases mem_cons.1 (h p.1 (mem_cons.2 (.inl ⟨by omega,v.2.1⟩)))with h1|⟨r,j,h1,h2⟩
    .exact h1.1
    .have:=hm.2.2.2.1 r j;have:=hm.2.1;omega
   .intro hle;obtain⟨r,j,h1,h2⟩:=Xh hm (a:=p.1) (b:=p.2) v.2.1 λn h1 h2=>h n (mem_cons.2 (.inl ⟨h1,h2⟩));rcases List.mem_cons.1 j with rfl|j
    .exact h2
    .have:=hm.2.2.2.1 r j;have:=hm.2.1;omega
  have h1:=first v hm λn=>(h n).1
  have h2:=first hm v λn=>(h n).2
  have T:p.1=q.1:=by omega
  have Y:p.2=q.2:=by have:=h1.2 (by omega);have:=h2.2 (by omega);omega
  have e:p=q:=Prod.ext T Y;subst e;rw[oO v.tail hm.tail];intro n;have O:=h n;rw[mem_cons,mem_cons]at O;constructor
  .rintro⟨r,j,J,K⟩;rcases O.1 (.inr ⟨r,j,J,K⟩)with y|y
   .have:=v.2.2.2.1 r j;omega
   .exact y
  .rintro⟨r,j,J,K⟩;rcases O.2 (.inr ⟨r,j,J,K⟩)with y|y
   .have:=hm.2.2.2.1 r j;omega
   .exact y
def KM{l:Iv}(h:Ok l){a k:Int}(hk:a<=k):(mem l k->cnt l a (k+1)=cnt l a k+1)/\(¬mem l k->cnt l a (k+1)=cnt l a k):=by
 have h1:=MO (Ok.dY h) hk (show k<=k+1 by omega);have h2:=Tl (Ok.dY h) (a:=k);have j:=FO h (show k<=k+1 by omega);have v:=DU l k (k+1)
 grind
def MP: ∀{l:Iv},(∀p∈l,p.1<p.2)-> ∀{a b:Int},(∀n,mem l n->a<=n/\n<b)->cnt l a b=HE l
 | [],_,a,b,_=>rfl
 | p::r,h,a,b,hin=>by
  have hp:=h p List.mem_cons_self;have h1:=hin p.1 (mem_cons.2 (.inl ⟨by omega,hp⟩));have h2:=hin (p.2-1) (mem_cons.2 (.inl ⟨by omega,by omega⟩));have y:=MP (l:=r) (λq v=>h q (List.mem_cons_of_mem _ v)) (a:=a) (b:=b) λn j=>hin n (mem_cons.2 (.inr j));simp only[cnt,HE,OY,y];omega
def aget:List (Int×Value)->Int->Option Value
 | [],_=>none
 | p::r,n=>if p.1=n then some p.2 else aget r n
structure MapI(k:IntKind)(es:Array MapEntry)(clock:Nat)(m:List (Int×Value)):Prop where
 keys:es.toList.map (λe=>(e.key,e.val))=m.map (λp=>(Value.int k p.1,p.2))
 nodup:(m.map (·.1)).Nodup
 born:(es.toList.map (·.born)).Nodup
 lt: ∀e∈es.toList,e.born<clock
def MapI.empty(k:IntKind):MapI k #[] 0 []:=⟨rfl,by simp,by simp,by simp⟩
def ZZ(k:IntKind)(a b:Int):Instr.sameNow (.int k) (.int k a) (.int k b)=some (a==b):=by simp[Instr.sameNow]
def Ql(k:IntKind)(n:Int): ∀(es:List MapEntry) (m:List (Int×Value)) (i:Nat),es.map (λe=>(e.key,e.val))=m.map (λp=>(Value.int k p.1,p.2))->
  ∃res,Instr.findNow (.int k) (.int k n) es i=some res/\
   ((res=none/\aget m n=none)∨ ∃j v,res=some (i+j,v)/\aget m n=some v/\m[j]? =some (n,v)/\j<es.length)
 | [],[],i,_=>⟨none,rfl,.inl ⟨rfl,rfl⟩⟩
 | [],_::_,i,h=>by simp at h
 | _::_,[],i,h=>by simp at h
 | e::r,p::m,i,h=>by
  simp only[List.map_cons,List.cons.injEq,Prod.mk.injEq]at h;obtain⟨⟨hk,O⟩,K⟩:=h;simp only[Instr.findNow,hk,ZZ];by_cases hn:n=p.1
  .subst hn;simp only[beq_self_eq_true];refine⟨_,rfl,.inr ⟨0,p.2,by simp[O],by simp[aget],by simp,by simp⟩⟩
  .have:(n==p.1)=false:=by simp[hn]
   simp only[this];obtain⟨res,h1,h2⟩:=Ql k n r m (i+1) K;refine⟨res,h1,?_⟩;rcases h2 with ⟨y,J⟩|⟨j,v,y,J,T,Y⟩
   .exact .inl ⟨y,by simp[aget,Ne.symm hn,J]⟩
   .refine .inr ⟨j+1,v,by rw[y];grind,by simp[aget,Ne.symm hn,J],by grind,by simp;omega⟩
def MapI.find{k:IntKind}{es:Array MapEntry}{c:Nat}{m:List (Int×Value)}(h:MapI k es c m)(n:Int):
  ∃res,N4 k n es res/\((res=none/\aget m n=none)∨ ∃j v,res=some (j,v)/\aget m n=some v/\m[j]? =some (n,v)/\j<es.size):=by
 obtain⟨res,h1,h2⟩:=Ql k n es.toList m 0 h.keys;refine⟨res,h1,?_⟩
 grind
def Rx{k:IntKind}{n:Int}{b:Nat}{w:World}{z:Value}{K:Value->Bool->Array MapEntry->Prop}{es:Array MapEntry}{c:Nat}{m:List (Int×Value)}
  (O:w.heap[b]? =some (.map es c))(h:MapI k es c m)(y:K ((aget m n).getD z) (aget m n).isSome es):tT k n (some b) w z K:=by
 obtain⟨res,h1,h2⟩:=h.find n;refine⟨es,res,⟨c,O⟩,h1,?_⟩;rcases h2 with ⟨rfl,J⟩|⟨j,v,rfl,J,_⟩
 .rw[J]at y;exact y
 .rw[J]at y;exact y
def Ms{m:List (Int×Value)}{n:Int}{q:List (Int×Value)}(h:aget m n=none):aget (m++q) n=aget q n:=by
 induction m with
 | nil=>rfl
 | cons p r ih=>
  simp only[aget]at h;split at h
  .cases h
  .rename_i hp;simp[aget,hp,ih h]
def Pj{m:List (Int×Value)}{n:Int}:aget m n=none↔n∉m.map (·.1):=by
 induction m with
 | nil=>simp[aget]
 | cons p r ih=>
  simp only[aget,List.map_cons,List.mem_cons,not_or]
  grind
def Ry{m q:List (Int×Value)}{n:Int}{v:Value}(h:aget m n=some v):aget (m++q) n=some v:=by
 induction m with
 | nil=>cases h
 | cons p r ih=>
  simp only[aget]at h;by_cases hp:p.1=n
  .rw[if_pos hp]at h;simp[aget,hp,h]
  .rw[if_neg hp]at h;simp[aget,hp,ih h]
def oP{m:List (Int×Value)}{n:Int}{v:Value}{j:Nat}{u:Value}(y:m[j]? =some (n,u))(K:(m.map (·.1)).Nodup):
  (∀i,aget (m.set j (n,v)) i=if i=n then some v else aget m i)/\(m.set j (n,v)).map (·.1)=m.map (·.1):=by
 induction m generalizing j with
 | nil=>simp at y
 | cons p r ih=>
  cases j with
  | zero=>
   simp at y;subst y;refine⟨λi=> ?_,by simp⟩;simp only[List.set_cons_zero,aget]
   grind
  | succ j=>
   simp only[List.map_cons,List.nodup_cons]at K;obtain⟨h1,h2⟩:=ih (by simpa using y) K.2;have J:n∈r.map (·.1):=List.mem_map.2 ⟨_,List.mem_of_getElem? (by simpa using y),rfl⟩;have O:p.1≠n:=λe=>K.1 (e▸J);refine⟨λi=> ?_,by grind⟩;simp only[List.set_cons_succ,aget,h1]
   grind
def MapI.put{k:IntKind}{es:Array MapEntry}{c:Nat}{m:List (Int×Value)}(h:MapI k es c m)(n:Int)(v:Value){res:Option (Nat×Value)}(hf:N4 k n es res):
  ∃y c' m',mapPut es c (.int k n) v res= .map y c'/\MapI k y c' m'/\(∀i,aget m' i=if i=n then some v else aget m i)/\m'.length<=m.length+1/\
   (aget m n=none->m'.length=m.length+1)/\(aget m n≠none->m'.length=m.length):=by
 obtain⟨K,h1,h2⟩:=h.find n;have:K=res:=by unfold N4 at h1 hf;rw[h1]at hf;exact Option.some.inj hf
 subst this;rcases h2 with ⟨rfl,O⟩|⟨j,u,rfl,O,h4,h5⟩
 .refine⟨_,_,m++[(n,v)],rfl,⟨?_,?_,?_,?_⟩,λi=> ?_,by simp,by simp,λh=>absurd O h⟩
  .simp[h.keys]
  .rw[List.map_append,List.nodup_append];refine⟨h.nodup,by simp,λa Y b T=> ?_⟩;simp at T;subst T;intro e;subst e;exact Pj.1 O Y
  .simp only[Array.toList_push,List.map_append,List.nodup_append];refine⟨h.born,by simp,λa Y b T=> ?_⟩;simp at T;obtain⟨e,he,rfl⟩:=List.mem_map.1 Y;have:=h.lt e he;omega
  .intro e he;simp only[Array.toList_push,List.mem_append,List.mem_singleton]at he;rcases he with he|rfl
   .have:=h.lt e he;omega
   .simp
  .by_cases J:i=n
   .subst J;rw[if_pos rfl,Ms O];simp[aget]
   .rw[if_neg J];cases hg:aget m i with
    | none=>rw[Ms hg];simp[aget,Ne.symm J]
    | some u=>exact Ry hg
 .obtain⟨g1,g2⟩:=oP (v:=v) h4 h.nodup;refine⟨_,_,m.set j (n,v),rfl,⟨?_,by rw[g2];exact h.nodup,?_,?_⟩,g1,by simp,(λh=>by grind),λ_=>by simp⟩
  .apply List.ext_getElem?;intro i;have hk:=congrArg (λl=>l[i]?) h.keys
   grind
  .have:(es.modify j λe=>{e with key:=.int k n,val:=v}).toList.map (·.born)=es.toList.map (·.born):=by
    apply List.ext_getElem?
    grind
   rw[this];exact h.born
  .intro e he;obtain⟨i,J,rfl⟩:=List.mem_iff_getElem.1 he;simp only[Array.getElem_toList,Array.getElem_modify];have aC:i<es.size:=by simpa using J
   split
   .exact h.lt es[i] (by simp)
   .exact h.lt es[i] (by simp)
def UW{k:IntKind}{n:Int}{v:Value}{b:Nat}{w:World}{K:World->Prop}{es:Array MapEntry}{c:Nat}{m:List (Int×Value)}
  (O:w.heap[b]? =some (.map es c))(h:MapI k es c m)
  (hK: ∀w' j y m',w'.heap[b]? =some (.map j y)->MapI k j y m'->(∀i,aget m' i=if i=n then some v else aget m i)->m'.length<=m.length+1->
   (aget m n=none->m'.length=m.length+1)->(aget m n≠none->m'.length=m.length)->Ext (K0 b) w w'->w'.heap.size=w.heap.size->K w'):XY k n v (some b) w K:=by
 obtain⟨res,h1,_⟩:=h.find n;refine⟨b,es,c,res,rfl,O,h1,?_⟩;obtain⟨j,y,m',h2,T,Y,h5,h6,h7⟩:=h.put n v h1;rw[h2];have J:=Ik O;exact hK _ j y m' (by simp[World.HW,J]) T Y h5 h6 h7 (Ext.HW w b _) (by simp[World.HW])
def JM{α β:Type}(f:α->β): ∀(l:List α) (j:Nat),(l.eraseIdx j).map f=(l.map f).eraseIdx j
 | [],j=>by simp
 | x::r,0=>by simp
 | x::r,j+1=>by simp[JM f r j]
def dZ{m:List (Int×Value)}{n:Int}{j:Nat}{u:Value}(y:m[j]? =some (n,u))(J:(m.map (·.1)).Nodup):
  (∀i,aget (m.eraseIdx j) i=if i=n then none else aget m i)/\((m.eraseIdx j).map (·.1)).Nodup:=by
 refine⟨?_,?_⟩
 .induction m generalizing j with
  | nil=>simp at y
  | cons p r ih=>
   simp only[List.map_cons,List.nodup_cons]at J;cases j with
   | zero=>
    simp at y;subst y;intro i;simp only[List.eraseIdx_cons_zero,aget];by_cases h:n=i
    .subst h;simp;exact Pj.2 J.1
    grind
   | succ j=>
    have v:n∈r.map (·.1):=List.mem_map.2 ⟨_,List.mem_of_getElem? (by simpa using y),rfl⟩;have K:p.1≠n:=λe=>J.1 (e▸v);intro i;simp only[List.eraseIdx_cons_succ,aget]
    grind
 grind
def MapI.del{k:IntKind}{es:Array MapEntry}{c:Nat}{m:List (Int×Value)}(h:MapI k es c m)(n:Int){res:Option (Nat×Value)}(hf:N4 k n es res):
  ∃v m',XX es c res= .map v c/\MapI k v c m'/\(∀i,aget m' i=if i=n then none else aget m i)/\m'.length<=m.length/\v.toList.Sublist es.toList/\
   (∀e∈es.toList,e.key≠ .int k n->e∈v.toList):=by
 obtain⟨y,h1,h2⟩:=h.find n;have:y=res:=by unfold N4 at h1 hf;rw[h1]at hf;exact Option.some.inj hf
 subst this;rcases h2 with ⟨rfl,K⟩|⟨j,u,rfl,K,O,h5⟩
 .refine⟨es,m,rfl,h,λi=> ?_,Nat.le_refl _,List.Sublist.refl _,λ_ h _=>h⟩
  grind
 .obtain⟨g1,g2⟩:=dZ O h.nodup;have he:(es.eraseIdxIfInBounds j).toList=es.toList.eraseIdx j:=by simp
  refine⟨_,m.eraseIdx j,rfl,⟨?_,g2,?_,?_⟩,g1,List.length_eraseIdx_le _ _,?_,?_⟩
  .rw[he,JM,JM,h.keys]
  .rw[he,JM];exact h.born.sublist (List.eraseIdx_sublist _ _)
  .intro e hm;rw[he]at hm;exact h.lt e (List.mem_of_mem_eraseIdx hm)
  .grind
  .intro e hm hk;rw[he,List.mem_eraseIdx_iff_getElem?];obtain⟨i,T⟩:=List.mem_iff_getElem?.1 hm;refine⟨i,?_,T⟩;intro J;subst J;have Y:=congrArg (λl=>l[i]?) h.keys
   grind
def QB{k:IntKind}{n:Int}{b:Nat}{w:World}{K:World->Prop}{es:Array MapEntry}{c:Nat}{m:List (Int×Value)}
  (y:w.heap[b]? =some (.map es c))(h:MapI k es c m)
  (hK: ∀w' j m',w'.heap[b]? =some (.map j c)->MapI k j c m'->(∀i,aget m' i=if i=n then none else aget m i)->m'.length<=m.length->j.toList.Sublist es.toList->
   (∀e∈es.toList,e.key≠ .int k n->e∈j.toList)->Ext (K0 b) w w'->w'.heap.size=w.heap.size->K w'):MDEL k n (some b) w K:=by
 obtain⟨res,h1,_⟩:=h.find n;refine⟨es,c,res,y,h1,?_⟩;obtain⟨j,m',h2,J,O,T,Y,h7⟩:=h.del n h1;rw[h2];have v:=Ik y;exact hK _ j m' (by simp[World.HW,v]) J O T Y h7 (Ext.HW w b _) (by simp[World.HW])
def MapI.Tm{k:IntKind}{es:Array MapEntry}{c:Nat}{m:List (Int×Value)}(h:MapI k es c m){e:MapEntry}(he:e∈es.toList):
  ∃n,e.key= .int k n/\aget m n=some e.val:=by
 obtain⟨i,v⟩:=List.mem_iff_getElem?.1 he;have j:=congrArg (λl=>l[i]?) h.keys;simp only[List.getElem?_map,v,Option.map_some]at j;cases hm:m[i]? with
 | none=>grind
 | some p=>
  rw[hm]at j;simp only[Option.map_some,Option.some.injEq,Prod.mk.injEq]at j;refine⟨p.1,j.1,?_⟩;have: ∀(m:List (Int×Value)) (i:Nat),(m.map (·.1)).Nodup->m[i]? =some p->aget m p.1=some p.2:=by
   intro m
   induction m with
   | nil=>grind
   | cons q r ih=>
    intro i J v;simp only[List.map_cons,List.nodup_cons]at J;cases i with
    | zero=>simp at v;subst v;simp[aget]
    | succ i=>
     have y:p.1∈r.map (·.1):=List.mem_map.2 ⟨_,List.mem_of_getElem? (by simpa using v),rfl⟩;have K:q.1≠p.1:=λe=>J.1 (e▸y);simp[aget,K,ih i J.2 (by grind)]
  rw[this m i h.nodup hm,j.2]
def MapI.Xi{k:IntKind}{es:Array MapEntry}{c:Nat}{m:List (Int×Value)}(h:MapI k es c m){n:Int}{v:Value}(J:aget m n=some v):
  ∃e∈es.toList,e.key= .int k n/\e.val=v:=by
 obtain⟨res,h1,h2⟩:=h.find n;rcases h2 with ⟨_,y⟩|⟨j,u,rfl,y,K,O⟩
 .grind
 .rw[y]at J;cases J;obtain⟨e,he,hk,T⟩:=NL k n es.toList 0 j _ h1
  grind
def Qm(s:Ac):Nat->Prop:=λk=> ∃a,s.base=some a/\k=a.block
structure Pr where
 holds:(Nat->Prop)->World->Prop
 loc: ∀{D:Nat->Prop} {w w':World} {S:Nat->Prop},holds D w->Ext S w w'->(∀k,D k-> ¬S k)->holds D w'
 lt: ∀{D:Nat->Prop} {w:World} {k:Nat},holds D w->D k->k<w.heap.size
def Mj:List Pr->(Nat->Prop)->World->Prop
 | [],D,_=> ∀k,¬D k
 | P::Ps,D,w=> ∃j v,P.holds j w/\Mj Ps v w/\(∀k,j k-> ¬v k)/\ ∀k,D k↔j k∨v k
def Sat(Ps:List Pr)(w:World):Prop:= ∃D,Mj Ps D w
def Mj.loc: ∀{Ps:List Pr} {D:Nat->Prop} {w w':World} {S:Nat->Prop},Mj Ps D w->Ext S w w'->(∀k,D k-> ¬S k)->Mj Ps D w'
 | [],_,_,_,_,h,_,_=>h
 | P::Ps,D,w,w',S,⟨D1,D2,h1,h2,hd,hD⟩,he,hS=>⟨D1,D2,P.loc h1 he λk hk=>hS k ((hD k).2 (.inl hk)),h2.loc he λk hk=>hS k ((hD k).2 (.inr hk)),hd,hD⟩
def Mj.lt: ∀{Ps:List Pr} {D:Nat->Prop} {w:World} {k:Nat},Mj Ps D w->D k->k<w.heap.size
 | [],_,_,_,h,hk=>(h _ hk).elim
 | P::Ps,D,w,k,⟨D1,D2,h1,h2,hd,j⟩,hk=>by
  rcases(j k).1 hk with h|h
  .exact P.lt h1 h
  .exact h2.lt h
def Mj.append: ∀{Ps K:List Pr} {D:Nat->Prop} {w:World},Mj (Ps++K) D w↔ ∃v j,Mj Ps v w/\Mj K j w/\(∀k,v k-> ¬j k)/\ ∀k,D k↔v k∨j k
 | [],K,D,w=>by
  constructor
  .intro h;exact⟨λ_=>False,D,λ_ f=>f,h,λ_ f=>f.elim,λk=>by simp⟩
  .rintro⟨v,j,h1,h2,_,O⟩;have:D=j:=by
    funext k;have:=O k;simp[h1 k]at this
    grind
   grind
 | P::Ps,K,D,w=>by
  constructor
  .rintro⟨v,j,h1,h2,hd,O⟩;obtain⟨y,J,g1,g2,Y,T⟩:=Mj.append.1 h2;refine⟨λk=>v k∨y k,J,⟨v,y,h1,g1,λk hk he=>hd k hk ((T k).2 (.inl he)),λk=>Iff.rfl⟩,g2,?_,?_⟩
   .grind
   grind
  .rintro⟨v,j,⟨y,J,h1,h2,hd,O⟩,g2,Y,T⟩;refine⟨y,λk=>J k∨j k,h1,Mj.append.2 ⟨J,j,h2,g2,λk hk=>Y k ((O k).2 (.inr hk)),λk=>Iff.rfl⟩,?_,?_⟩
   .grind
   grind
def Mj.perm{Ps K:List Pr}(h:Ps.Perm K): ∀{D:Nat->Prop} {w:World},Mj Ps D w->Mj K D w:=by
 induction h with
 | nil=>grind
 | cons P _ ih=>
  rintro D w ⟨j,y,h1,h2,v⟩;exact⟨j,y,h1,ih h2,v⟩
 | swap P Q l=>
  rintro D w ⟨j,y,h1,⟨O,J,v,Y,hd,hD⟩,T,gD⟩;refine⟨O,λk=>j k∨J k,v,⟨j,J,h1,Y,λk hk he=>T k hk ((hD k).2 (.inr he)),λk=>Iff.rfl⟩,?_,?_⟩
  .grind
  grind
 | trans _ _ ih1 ih2=>grind
def Sat.perm{Ps j:List Pr}{w:World}(h:Sat Ps w)(hp:Ps.Perm j):Sat j w:=let⟨D,h⟩:=h;⟨D,h.perm hp⟩
def DV{α:Type}: ∀{l:List α} {i:Nat} {x:α},l[i]? =some x->l.Perm (x::l.eraseIdx i)
 | [],i,x,h=>by simp at h
 | y::l,0,x,h=>by simp at h;subst h;exact .refl _
 | y::l,i+1,x,h=>by
  have:=DV (l:=l) (i:=i) (x:=x) (by grind);exact(this.cons y).trans (.swap x y _)
def Rz{α:Type}: ∀{l:List α} {i:Nat} {x:α},i<l.length->(x::l.eraseIdx i).Perm (l.set i x)
 | [],i,x,h=>by simp at h
 | y::l,0,x,h=>.refl _
 | y::l,i+1,x,h=>by
  have:=Rz (l:=l) (i:=i) (x:=x) (by simpa using h);exact(List.Perm.swap y x _).trans (this.cons y)
section
variable{Ps F:List Pr}{P P':Pr}{w w':World}
def Sat.front(i:Nat)(H:Sat Ps w)(j:Ps[i]? =some P):Sat (P::Ps.eraseIdx i) w:=H.perm (DV j)
def Sat.back(i:Nat)(H:Sat (P'::Ps.eraseIdx i) w)(j:i<Ps.length:=by simp):Sat (Ps.set i P') w:=H.perm (Rz j)
def Sat.nothing(H:Sat Ps w)(he:Ext AR w w'):Sat Ps w':=let⟨D,h⟩:=H;⟨D,h.loc he λ_ _ f=>f⟩
def Sat.drew(H:Sat Ps w):Sat Ps w.drew:=H.nothing (Ext.drew _ w)
def Sat.tail(H:Sat (P::F) w):Sat F w:=let⟨_,_,D2,_,h,_⟩:=H;⟨D2,h⟩
def Sat.head(H:Sat (P::F) w): ∃D,P.holds D w:=let⟨_,D1,_,h,_⟩:=H;⟨D1,h⟩
def Sat.step(H:Sat (P::F) w): ∃D,P.holds D w/\ ∀w' j P',Ext D w w'->P'.holds j w'->(∀k,j k->D k∨w.heap.size<=k)->Sat (P'::F) w':=by
 obtain⟨D,v,y,h1,h2,hd,T⟩:=H;refine⟨v,h1,λw' j P' he K O=>⟨_,j,y,K,h2.loc he λk hk h=>hd k h hk,λk hk h=> ?_,λk=>Iff.rfl⟩⟩;rcases O k hk with J|J
 .grind
 .have:=h2.lt h;omega
def Sat.new(H:Sat F w){D:Nat->Prop}(he:Ext AR w w')(v:P.holds D w')(y: ∀k,D k->w.heap.size<=k):Sat (P::F) w':=by
 obtain⟨j,h2⟩:=H;refine⟨_,D,j,v,h2.loc he λ_ _ f=>f,λk hk h=> ?_,λk=>Iff.rfl⟩;have h1:=y k hk;have:=h2.lt h;omega
end
def Old(w0:World):Pr where
 holds D w:=(∀k,D k↔k<w0.heap.size)/\Ext AR w0 w
 loc h he hS:=⟨h.1,h.2.trans he (λ_ _ f=>f) λi j hs=>hS i ((h.1 i).2 j) hs⟩
 lt h hk:=by have h1:=(h.1 _).1 hk;have:=h.2.size;omega
def Sat.start(w:World):Sat [Old w] w:=⟨_,λk=>k<w.heap.size,λ_=>False,⟨λ_=>Iff.rfl,Ext.refl _ _⟩,λ_ f=>f,λ_ _ f=>f,λ_=>Iff.rfl⟩
def Sat.PG{Ps:List Pr}{w w0:World}(i:Nat)(H:Sat Ps w)(j:Ps[i]? =some (Old w0)):Ext AR w0 w:=let⟨_,h⟩:=(H.front i j).head;h.2
def NR(j:List Pr):Pr where
 holds D w:=Mj j D w
 loc:=Mj.loc
 lt:=Mj.lt
def Ex{α:Type}(P:α->Pr):Pr where
 holds D w:= ∃x,(P x).holds D w
 loc h he hS:=let⟨x,h⟩:=h;⟨x,(P x).loc h he hS⟩
 lt h hk:=let⟨x,h⟩:=h;(P x).lt h hk
def Kk(p:Prop)(P:Pr):Pr where
 holds D w:=p/\P.holds D w
 loc h he hS:=⟨h.1,P.loc h.2 he hS⟩
 lt h hk:=P.lt h.2 hk
def Sat.star{J F:List Pr}{w:World}:Sat (NR J::F) w↔Sat (J++F) w:=by
 constructor
 .rintro⟨D,j,v,h1,h2,y⟩;exact⟨D,Mj.append.2 ⟨j,v,h1,h2,y⟩⟩
 .rintro⟨D,h⟩;obtain⟨j,v,h1,h2,y⟩:=Mj.append.1 h;exact⟨D,j,v,h1,h2,y⟩
def Sat.ex{α:Type}{P:α->Pr}{F:List Pr}{w:World}:Sat (Ex P::F) w↔ ∃x,Sat (P x::F) w:=by
 constructor
 .rintro⟨D,j,v,⟨x,h1⟩,h2,y⟩;exact⟨x,D,j,v,h1,h2,y⟩
 .rintro⟨x,D,j,v,h1,h2,y⟩;exact⟨D,j,v,⟨x,h1⟩,h2,y⟩
def Sat.where{p:Prop}{P:Pr}{F:List Pr}{w:World}:Sat (Kk p P::F) w↔p/\Sat (P::F) w:=by
 constructor
 .rintro⟨D,j,v,⟨x,h1⟩,h2,y⟩;exact⟨x,D,j,v,h1,h2,y⟩
 .rintro⟨x,D,j,v,h1,h2,y⟩;exact⟨D,j,v,⟨x,h1⟩,h2,y⟩
def Cells(b t:Nat)(vs:List Value):Pr where
 holds D w:=(∀k,D k↔k=b)/\b<w.heap.size/\ ∀j v,vs[j]? =some v->w.cell? ⟨b,j,none⟩=some v/\w.frozen? ⟨b,j,none⟩=false
 loc h he hS:=⟨h.1,Nat.lt_of_lt_of_le h.2.1 he.size,λj v y=>⟨he.cell (h.2.2 j v y).1 (hS _ ((h.1 _).2 rfl)),by
  rw[he.frozen (p:=⟨_,j,none⟩) h.2.1 (hS _ ((h.1 _).2 rfl))];grind⟩⟩
 lt h hk:=by have:=(h.1 _).1 hk;omega
section
variable{Ps F:List Pr}{w w':World}{b t:Nat}{vs:List Value}
def Sat.Aa(H:Sat (Cells b t vs::F) w){o:Nat}{v:Value}(j:vs[o]? =some v):w.cell? (Addr.mk b o none)=some v:=let⟨_,h⟩:=H.head;(h.2.2 o v j).1
def Sat.cell(H:Sat (Cells b t vs::F) w){o m:Nat}{v:Value}(j:vs[o+m]? =some v):w.cell? ((Addr.mk b o none).add m)=some v:=by
 rw[add_eq];exact H.Aa j
def Sat.tH(H:Sat (Cells b t vs::F) w){o:Nat}(j:o<vs.length):w.frozen? (Addr.mk b o none)=false:=let⟨_,h⟩:=H.head;(h.2.2 o _ (List.getElem?_eq_getElem j)).2
def UX{D:Nat->Prop}(y: ∀k,D k↔k=b)(h:w.heap[b]? =some (.cells ⟨vs⟩ t)):(Cells b t vs).holds D w:=
 ⟨y,Ik h,λj v J=>⟨by rw[AW h];grind,by simp[World.frozen?,h]⟩⟩
def AQ(H:Sat F w){K:Nat->World->Prop}(j: ∀b w',Sat (Cells b t vs::F) w'->Ext AR w w'->K b w'):AL (.cells ⟨vs⟩ t) w K:=
 BZ λw' v hs he=>j _ _ (H.new (P:=Cells w.heap.size t vs) (D:=λk=>k=w.heap.size) he (UX (λ_=>Iff.rfl) v) λk hk=>by omega) he
def Sat.stored(H:Sat (Cells b t vs::F) w){o:Nat}(K:o<vs.length)(v:Value):Sat (Cells b t (vs.set o v)::F) (w.setCell ⟨b,o,none⟩ v):=by
 obtain⟨D,h,hs⟩:=H.step;have y:=OX (v:=v) (h.2.2 o _ (List.getElem?_eq_getElem K)).1;refine hs _ D _ (y.ext.mono λi _ O=>(h.1 i).2 O) ⟨h.1,by rw[y.size];exact h.2.1,λj u J=> ?_⟩ λk hk=>.inl hk;rw[y.frozen];rw[List.getElem?_set]at J;by_cases e:o=j
 .subst e;rw[if_pos rfl,if_pos K]at J;cases J;exact⟨y.same,(h.2.2 o _ (List.getElem?_eq_getElem K)).2⟩
 .rw[if_neg e]at J;rw[y.other _ (by grind)];exact h.2.2 j u J
def AV(H:Sat (Cells b t vs::F) w){o m:Nat}{v:Value}(J:v.oneCell'=true)(j:o+m<vs.length){K:World->Prop}(y: ∀w',Sat (Cells b t (vs.set (o+m) v)::F) w'->K w'):
  stCells ((Addr.mk b o none).add m) 0 [v] w K:=by
 simp only[stCells,add_zero,add_eq];exact⟨⟨⟨_,H.Aa (List.getElem?_eq_getElem j)⟩,H.tH j,J⟩,y _ (H.stored j v)⟩
def DZ(H:Sat (Cells b t vs::F) w){o:Nat}{v:Value}(J:v.oneCell'=true)(y:o<vs.length){K:World->Prop}(j: ∀w',Sat (Cells b t (vs.set o v)::F) w'->K w'):
  stCells (Addr.mk b o none) 0 [v] w K:=by
 have:=AV H (m:=0) J y j;rwa[show(Addr.mk b o none).add 0=Addr.mk b o none from add_zero _]at this
def Xj: ∀(news:List Value) {vs:List Value} {w:World} (o i:Nat),Sat (Cells b t vs::F) w->o+i+news.length<=vs.length->(∀v∈news,v.oneCell'=true)-> ∀{K:World->Prop},
  (∀w',Sat (Cells b t (vs.take (o+i)++news++vs.drop (o+i+news.length))::F) w'->K w')->stCells (Addr.mk b o none) i news w K
 | [],vs,w,o,i,H,hl,ho,K,hK=>by
  refine hK w ?_;simpa using H
 | v::r,vs,w,o,i,H,hl,ho,K,hK=>by
  have j:o+i<vs.length:=by grind
  simp only[stCells,add_eq];refine⟨⟨⟨_,H.Aa (List.getElem?_eq_getElem j)⟩,H.tH j,ho v (by simp)⟩,?_⟩;refine Xj r o (i+1) (H.stored j v) (by grind) (λu hu=>ho u (by simp[hu])) λw' y=>hK w' ?_;have:(vs.set (o+i) v).take (o+(i+1))++r++(vs.set (o+i) v).drop (o+(i+1)+r.length)=vs.take (o+i)++(v::r)++vs.drop (o+i+(v::r).length):=by
   rw[show o+(i+1)=o+i+1 from by omega,List.take_set,List.take_succ_eq_append_getElem j,List.set_append_right _ _ (by simp;omega)];simp only[List.length_take,Nat.min_eq_left (Nat.le_of_lt j),Nat.sub_self,List.set_cons_zero,List.append_assoc,List.singleton_append,List.length_cons,List.cons_append];congr 2;rw[List.drop_set_of_lt (by omega),show o+i+1+r.length=o+i+(r.length+1)from by omega];simp
  grind
def Gm{news:List Value}(H:Sat (Cells b t vs::F) w)(O:news.length=vs.length)(y: ∀v∈news,v.oneCell'=true){K:World->Prop}
  (j: ∀w',Sat (Cells b t news::F) w'->K w'):stCells (Addr.mk b 0 none) 0 news w K:=by
 refine Xj news 0 0 H (by omega) y λw' J=>j w' ?_;have:List.drop news.length vs=[]:=List.drop_eq_nil_iff.2 (by omega)
 grind
end
def Row(t z:Nat)(s:Ac)(vs:List Value):Pr where
 holds D w:=(∀k,D k↔Qm s k)/\JX w 0 t z s vs
 loc h he hS:=⟨h.1,h.2.ext he λb v=>hS _ ((h.1 _).2 ⟨_,v,rfl⟩)⟩
 lt h hk:=by obtain⟨a,j,rfl⟩:=(h.1 _).1 hk;exact(h.2.lt j).2.1
section
variable{Ps F:List Pr}{w w':World}{t z:Nat}{s:Ac}{vs:List Value}
def Sat.own(H:Sat (Row t z s vs::F) w):JX w 0 t z s vs:=let⟨_,h⟩:=H.head;h.2
def Sat.EA(H:Sat (Row t z s vs::F) w):vs.length=s.len*z:=H.own.len
def JX.Gf{w:World}{B t z:Nat}{s:Ac}{vs:List Value}(h:JX w B t z s vs)(j:0<s.len): ∃b,s.base=some ⟨b,0,none⟩:=by
 rcases h.row with ⟨h1,h2⟩|⟨b,cs,h1,_⟩
 .have:=h.cap;omega
 grind
def JX.cell{w:World}{B t z:Nat}{s:Ac}{vs:List Value}(h:JX w B t z s vs){a:Addr}(y:s.base=some a){j:Nat}{v:Value}(J:vs[j]? =some v):w.cell? (a.add j)=some v:=by
 have:=h.rowAt;rw[y]at this;exact this.2 j v J
def Sat.tX(H:Sat (Row t z s vs::F) w){j:Nat}{v:Value}(O:vs[j]? =some v){K:Addr->Prop}(T: ∀a,s.base=some a->w.cell? (a.add j)=some v->K a):NC s.base K:=by
 have J:=H.own;have Y:j<vs.length:=(List.getElem?_eq_some_iff.1 O).1;have hl:0<s.len:=by
  rw[J.len]at Y
  grind
 obtain⟨b,y⟩:=J.Gf hl;rw[y];exact T _ y (J.cell y O)
def Sat.nil(H:Sat F w)(t z:Nat):Sat (Row t z ⟨none,0,0⟩ []::F) w:=
 H.new (P:=Row t z ⟨none,0,0⟩ []) (D:=Qm ⟨none,0,0⟩) (Ext.refl _ _) ⟨λ_=>Iff.rfl,JX.nil w 0 t z⟩ λk hk=>by obtain⟨a,j,_⟩:=hk;cases j
def Gq{bytes:Nat}{zs:Array Value}{x:Ac}{K:Ac->World->Prop}{news:List Value}(H:Sat (Row t z s vs::F) w)
  (hz:zs.size=z)(O:rowAt w x.base (x.len*z) news)(aA:news.length=x.len*z)(ho: ∀v∈news,v.oneCell'=true)
  (Y:(s.len+x.len)*bytes<=140737488355328)(T:s.len+x.len<=9223372036854775807)
  (hK: ∀s' w',Sat (Row t z s' (vs++news)::F) w'->s'.len=s.len+x.len->K s' w'):APP t z bytes zs s x w K:=by
 obtain⟨D,h,hs⟩:=H.step;refine Qg hz h.2 O aA ho (Nat.zero_le _) Y T λs' w' J hlen y j=>hK s' w' ?_ hlen;refine hs w' (Qm s') _ (y.mono λi _ hi=>(h.1 i).2 hi) ⟨λ_=>Iff.rfl,J⟩ ?_;rintro k ⟨a,ha,rfl⟩;rcases j with e|⟨b,e,Y⟩
 .exact .inl ((h.1 _).2 ⟨a,by grind,rfl⟩)
 .rw[e]at ha;cases ha;exact .inr Y
def GD{bytes:Nat}{zs:Array Value}{K:Ac->World->Prop}{news:List Value}{b:Nat}(H:Sat (Cells b t news::Row t z s vs::F) w)
  (hz:zs.size=z)(T:news.length=z)(Y: ∀v∈news,v.oneCell'=true)
  (O:(s.len+1)*bytes<=140737488355328)(y:s.len+1<=9223372036854775807)
  (J: ∀s' w',Sat (Row t z s' (vs++news)::F) w'->s'.len=s.len+1->K s' w'):APP t z bytes zs s ⟨some (Addr.mk b 0 none),1,1⟩ w K:=by
 refine Gq H.tail hz (x:=⟨some (Addr.mk b 0 none),1,1⟩) ⟨by grind,λj v hj=> ?_⟩ (by grind) Y O y J;exact H.cell (by grind)
def Sat.KN(H:Sat (Row t z s vs::F) w):rowAt w s.base (s.len*z) vs:=H.own.rowAt
def Il(H:Sat (Row t z s vs::F) w){j:Nat}{v:Value}(ho:v.oneCell'=true)(hj:j<vs.length){a:Addr}(T:s.base=some a){K:World->Prop}
  (hK: ∀w',Sat (Row t z s (vs.set j v)::F) w'->K w'):stCells (a.add j) 0 [v] w K:=by
 obtain⟨D,h,hs⟩:=H.step;have y:=h.2;rcases y.row with ⟨h1,_⟩|⟨b,cs,h1,h2,J,h4,Y⟩
 .grind
 .rw[h1]at T;cases T;have hl:=y.len;have O:j<cs.size:=by
   have:s.len*z<=s.cap*z:=Nat.mul_le_mul_right _ y.cap;omega
  simp only[stCells,add_zero,add_eq,Nat.zero_add];refine⟨⟨⟨_,(by rw[AW J];exact Array.getElem?_eq_getElem O)⟩,by simp[World.frozen?,J],ho⟩,hK _ ?_⟩;refine hs _ D _ ((Ext.setCell w ⟨b,j,none⟩ v).mono λi _ hi=>(h.1 i).2 ⟨_,h1,hi⟩) ⟨h.1,?_⟩ λk hk=>.inl hk;refine⟨by grind,y.cap,y.top,.inr ⟨b,_,h1,h2,MM J,by grind,?_⟩⟩;rw[Array.toList_setIfInBounds,List.take_set,Y]
end
def AU{σ:Type}{first:(σ->World->Prop)->Prop}{rest:σ->(Nat->Value)->World->Prop}(h:first λs w=> ∀j,rest s j w):An σ first rest:=
 ⟨_,h,λs j w h=>h j⟩
@[simp] theorem oQ{T E:Prop}:CND true T E↔T:=Iff.rfl
@[simp] theorem CND_false{T E:Prop}:CND false T E↔E:=Iff.rfl
def AS{b:Bool}{T E:Prop}(j:b=true)(h:T):CND b T E:=by subst j;exact h
def AO{b:Bool}{T E:Prop}(j:b=false)(h:E):CND b T E:=by subst j;exact h
def BI{a b:Int}{T E:Prop}(h1:a=b->T)(h2:a≠b->E):CND (a==b) T E:=by
 by_cases h:a=b
 .rw[show(a==b)=true from by grind];exact h1 h
 .rw[show(a==b)=false from by grind];exact h2 h
def Ca{a b:Int}{T E:Prop}(h1:a≠b->T)(h2:a=b->E):CND (a !=b) T E:=by
 by_cases h:a=b
 .rw[show(a !=b)=false from by grind];exact h2 h
 .rw[show(a !=b)=true from by grind];exact h1 h
def Qn{b:Bool}{T E:Prop}(h:CND b E T):CND (!b) T E:=by cases b<;>exact h
structure Rg(it mb since:Nat)(a b:Int)(m0:List (Int×Value))(w:World)(seen:Array Nat)(es:Array MapEntry)(m:List (Int×Value)):Prop where
 iter: ∃last,w.heap[it]? =some (.mapIter (some mb) since seen last)/\(seen.isEmpty=true∨last=since)
 map:w.heap[mb]? =some (.map es since)
 ok:MapI .u64 es since m
 out: ∀c,¬(a<=c/\c<b)->aget m c=aget m0 c
 sub: ∀c v,aget m c=some v->aget m0 c=some v
 done: ∀e∈es.toList,seen.contains e.born=true-> ∀n,e.key= .int .u64 n-> ¬(a<=n/\n<b)
def K1{es:Array MapEntry}{seen:Array Nat}{e:MapEntry}:e∈leftOf es seen↔e∈es.toList/\seen.contains e.born=false:=by
 simp[leftOf,Array.mem_filter]
def Ly(es:Array MapEntry)(seen:Array Nat):Nat:=(es.toList.filter λe=> !seen.contains e.born).length
def filter_lt{α:Type}{p q:α->Bool}: ∀{l:List α},(∀x∈l,q x=true->p x=true)->(∃x∈l,p x=true/\q x=false)->(l.filter q).length<(l.filter p).length
 | [],_,⟨x,j,_⟩=>by cases j
 | y::r,h,⟨x,j,h1,h2⟩=>by
  have hle: ∀{l:List α},(∀x∈l,q x=true->p x=true)->(l.filter q).length<=(l.filter p).length:=by
   intro l
   induction l with
   | nil=>grind
   | cons z s ih=>grind
  rcases List.mem_cons.1 j with rfl|v
  .grind
  .have:=filter_lt (λz hz=>h z (List.mem_cons_of_mem _ hz)) ⟨x,v,h1,h2⟩
   grind
def Mt{α β:Type}{f:α->β}: ∀{l:List α},(l.map f).Nodup-> ∀{x y:α},x∈l->y∈l->f x=f y->x=y
 | [],_,x,y,J,_,_=>by cases J
 | z::r,h,x,y,J,K,he=>by
  simp only[List.map_cons,List.nodup_cons]at h;rcases List.mem_cons.1 J with rfl|j<;>rcases List.mem_cons.1 K with rfl|v
  .rfl
  .exact absurd (he▸List.mem_map.2 ⟨y,v,rfl⟩) h.1
  .exact absurd (he▸List.mem_map.2 ⟨x,j,rfl⟩) h.1
  .exact Mt h.2 j v he
def range_del{it mb since:Nat}{a b:Int}{m0:List (Int×Value)}{w0:World}{K:World->Prop}{getm:(Option Nat->World->Prop)->World->Prop}
  (aT: ∀w K',Ext (λk=>k=it∨k=mb) w0 w->K' (some mb) w->getm K' w)
  {seen0:Array Nat}{es0:Array MapEntry}{m1:List (Int×Value)}(h0:Rg it mb since a b m0 w0 seen0 es0 m1)(aX:it≠mb)(dB:it<w0.heap.size)(bV:mb<w0.heap.size)
  (hK: ∀w' Y m',Ext (λk=>k=it∨k=mb) w0 w'->w'.heap.size=w0.heap.size->w'.heap[mb]? =some (.map Y since)->MapI .u64 Y since m'->
   (∀c,aget m' c=if a<=c/\c<b then none else aget m0 c)->K w'):
  A9 (Unit) (()) w0 λdC _ bD O=>
     An (Bool×Unit) (λaM=>
      dS it bD (λbE=>
       aM (false,()) bE
      ) λbY bZ bF=>
       aM (true,()) bF
     ) λoR _ aD=>
      An (Bool×Unit) (λa1=>
       CND (oR.1) (
        a1 (oR.1,()) aD
       ) (
        K aD
       )
      ) λxN _ aE=>
       yN it aE λbC b0 bN=>
       xL .u64 bC λaK=>
       An (Bool×Unit) (λaN=>
        CND (decide ((aK:Int)≥a)) (
         aN (decide ((aK:Int)<b),()) aE
        ) (
         aN (false,()) aE
        )
       ) λdD _ J=>
        CND (dD.1) (
         getm (λbH J=>
         MDEL .u64 aK bH J λbG=>
         O (()) bG) J
        ) (
         O (()) J
        ):=by
 refine AJ (λ_ w=>(∃seen es m,Rg it mb since a b m0 w seen es m)/\Ext (λk=>k=it∨k=mb) w0 w/\w.heap.size=w0.heap.size)
  (λ_ w=>match w.heap[it]?,w.heap[mb]? with|some (.mapIter _ _ seen _),some (.map es _)=>Ly es seen|_,_=>0) ⟨⟨_,_,_,h0⟩,Ext.refl _ _,rfl⟩ ?_
 rintro _ _ w ⟨⟨seen,es,m,h⟩,hw,bX⟩;obtain⟨last,y,hl⟩:=h.iter;have a8:(match w.heap[it]?,w.heap[mb]? with|some (.mapIter _ _ seen _),some (.map es _)=>Ly es seen|_,_=>0:Nat)=Ly es seen:=by rw[y,h.map]
 simp only[a8];refine Aj (λst w'=>(st.1=false/\(leftOf es seen).isEmpty=true/\(∃j,Rg it mb since a b m0 w' j es m/\j=seen)/\Ext (λk=>k=it∨k=mb) w0 w'/\w'.heap.size=w0.heap.size)∨
   (st.1=true/\ ∃e,e∈es.toList/\seen.contains e.born=false/\w'.heap[it]? =some (.mapIter (some mb) since (seen.push e.born) since)/\w'.heap[mb]? =some (.map es since)/\Ext (λk=>k=it∨k=mb) w0 w'/\w'.heap.size=w0.heap.size)) ?_ ?_
 .refine⟨some mb,since,seen,last,y,es,since,h.map,?_,?_,?_⟩
  .rcases hl with hl|rfl
   .simp[hl]
   .by_cases he:es.isEmpty=true
    .simp[he]
    .have:es.all (λx=>decide (x.born≥last))=false:=by
      have bM:0<es.size:=Nat.pos_of_ne_zero λe=>he (by grind);have hm:es[0]∈es.toList:=by simp
      have:=h.ok.lt _ hm
      grind
     simp[this]
  .intro w' aC aR;left;have T:Ext AR w w':=by rcases aC with rfl|rfl;exact Ext.refl _ _;exact Ext.drew _ _
   have a9:w'.heap.size=w.heap.size:=by rcases aC with rfl|rfl<;>rfl
   refine⟨rfl,?_,⟨seen,⟨⟨last,T.obj y (λf=>f),hl⟩,T.obj h.map (λf=>f),h.ok,h.out,h.sub,h.done⟩,rfl⟩,hw.trans' T.any,by omega⟩;have:(leftOf es seen).filter (λx=>decide (x.born<since))=leftOf es seen:=by
    apply Array.filter_eq_self.2;intro e he;have h1:=(K1.1 he).1;exact decide_eq_true (h.ok.lt e h1)
   grind
  .intro w' e aC he;right;have T:Ext AR w w':=by rcases aC with rfl|rfl;exact Ext.refl _ _;exact Ext.drew _ _
   have a9:w'.heap.size=w.heap.size:=by rcases aC with rfl|rfl<;>rfl
   obtain⟨h1,h2⟩:=K1.1 he;refine⟨rfl,e,h1,h2,?_,?_,(hw.trans' T.any).trans (Ext.HW w' it _) (λ_ _ h=>h) (λi _ e=>.inl e),?_⟩
   .have a7:it<w'.heap.size:=by omega
    simp[World.HW,a7]
   .have:=(Ext.HW w' it (.mapIter (some mb) since (seen.push e.born) since)).obj (T.obj h.map λf=>f) (λe:mb=it=>aX e.symm);exact this
   .simp[World.HW];omega
 .rintro⟨bt,u⟩ _ aD hJ;simp only at hJ⊢;refine Aj (λst w'=>w'=aD/\bt=true) ?_ ?_
  .refine AP (λht=>⟨rfl,ht⟩) (λhf=> ?_);rcases hJ with ⟨_,aR,⟨j,hR,bA⟩,hE,hS⟩|⟨ht,_⟩
   .subst bA;refine hK aD es m hE hS hR.map hR.ok λc=> ?_;split
    .rename_i hc;cases hg:aget m c with
     | none=>rfl
     | some v=>
      exfalso;obtain⟨e,he,hk,hv⟩:=h.ok.Xi hg;have hs:j.contains e.born=true:=by
       cases hsc:j.contains e.born with
       | true=>rfl
       | false=>
        have:e∈leftOf es j:=K1.2 ⟨he,hsc⟩
        grind
      exact h.done e he hs c hk hc
    .rename_i hc;exact h.out c hc
   .rw[ht]at hf;cases hf
  .rintro⟨_,u⟩ _ aE ⟨rfl,a5⟩;rcases hJ with ⟨hf,_⟩|⟨_,e,he,bW,aA,aB,hE,hS⟩
   .rw[a5]at hf;cases hf
   .obtain⟨n,aV,bT⟩:=h.ok.Tm he;have aJ:es.find? (λx:MapEntry=>x.born==e.born)=some e:=by
     rw[<-Array.find?_toList];have hb:=h.ok.born;have: ∀l:List MapEntry,(l.map (·.born)).Nodup->e∈l->l.find? (λx:MapEntry=>x.born==e.born)=some e:=by
      intro l
      induction l with
      | nil=>grind
      | cons x r ih=>grind
     grind
    refine⟨mb,since,since,seen.push e.born,es,since,e.born,e,⟨aA,aB⟩,by simp,rfl,aJ,?_⟩;rw[aV];show unV (.int .u64) (.int .u64 n) _;show sameK .u64 .u64 _;show An _ _ _;have bJ:Ly es (seen.push e.born)<Ly es seen:=by
     unfold Ly;refine filter_lt (λx _ hx=> ?_) ⟨e,he,by grind,by simp⟩
     grind
    refine Aj (λst w'=>w'=aE/\(st.1=true↔a<=n/\n<b)) ?_ ?_
    .refine AB (λh1=>⟨rfl,?_⟩) (λh1=>⟨rfl,?_⟩)
     .grind
     grind
    .rintro⟨bP,u⟩ _ J ⟨rfl,aP⟩;simp only at aP⊢;have hR:Rg it mb since a b m0 J seen es m->True:=λ_=>trivial;refine AP (λht=> ?_) (λhf=> ?_)
     .refine aT J _ hE ?_;refine QB aB h.ok λw' Y m' aO aW aS bU aI a6 aG bL=> ?_;have aH:w'.heap[it]? =some (.mapIter (some mb) since (seen.push e.born) since):=aG.obj aA (λe2:it=mb=>aX e2);refine⟨⟨⟨seen.push e.born,Y,m',⟨since,aH,.inr rfl⟩,aO,aW,?_,?_,?_⟩,hE.trans aG (λ_ _ h=>h) (λi _ e=>.inr e),by omega⟩,?_⟩
      .intro c hc;rw[aS,if_neg,h.out c hc]
       grind
      .intro c v aF;rw[aS]at aF;split at aF
       .cases aF
       .exact h.sub c v aF
      .intro x hx hs k hk;have aY:=aI.subset hx;by_cases hxb:x.born=e.born
       .-- the entry that was taken out
        obtain⟨k',aU,bS⟩:=aW.Tm hx;rw[hk]at aU;cases aU;have bB:x=e:=by
         have h1:=Mt h.ok.born aY he hxb;exact h1
        grind
       .refine h.done x aY ?_ k hk
        grind
      .simp only[aH,aO];have:Ly Y (seen.push e.born)<=Ly es (seen.push e.born):=(aI.filter _).length_le;omega
     .have bK: ¬(a<=n/\n<b):=λh=>by grind
      refine⟨⟨⟨seen.push e.born,es,m,⟨since,aA,.inr rfl⟩,aB,h.ok,h.out,h.sub,?_⟩,hE,hS⟩,by grind⟩;intro x hx hs k hk;simp at hs;rcases hs with hs|hs
      .exact h.done x hx (by grind) k hk
      .have bB:x=e:=Mt h.ok.born hx he hs
       grind
end Go.Sh

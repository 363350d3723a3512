/- What pieces of a program do to memory: blocks, rows, maps, interval lists, resources that lie apart. No further condition. -/
import Derived.Test.YtbkjmfgdoceogaaGreatDoorSh
import Derived.Below
set_option linter.all false
namespace Go.Sh
open Go.RowKit (Below)
structure Ext(S:Nat->Prop)(w w':World):Prop where
 os:w'.os=w.os
 tape:w'.tape=w.tape
 output:w'.output=w.output
 size:w.heap.size<=w'.heap.size
 block: ∀k,k<w.heap.size-> ¬S k->w'.heap[k]? =w.heap[k]?
def AK:Nat->Prop:=fun _=>False
def Gr(b:Nat):Nat->Prop:=fun k=>k=b
theorem Ext.refl(S:Nat->Prop)(w:World):Ext S w w:=⟨rfl,rfl,rfl,Nat.le_refl _,fun _ _ _=>rfl⟩
theorem Ext.drew(S:Nat->Prop)(w:World):Ext S w w.drew:=⟨rfl,rfl,rfl,Nat.le_refl _,fun _ _ _=>rfl⟩
theorem Ext.trans{S T U:Nat->Prop}{a b c:World}(h:Ext S a b)(k:Ext T b c)(j: ∀i,i<a.heap.size->S i->U i)(v: ∀i,i<a.heap.size->T i->U i):Ext U a c:=
 ⟨k.os.trans h.os,k.tape.trans h.tape,k.output.trans h.output,Nat.le_trans h.size k.size,fun i d hu=>
  (k.block i (Nat.lt_of_lt_of_le d h.size) fun t=>hu (v i d t)).trans (h.block i d fun s=>hu (j i d s))⟩
theorem Ext.trans'{S:Nat->Prop}{a b c:World}(h:Ext S a b)(k:Ext S b c):Ext S a c:=h.trans k (fun _ _ s=>s) (fun _ _ s=>s)
theorem Ext.mono{S T:Nat->Prop}{a b:World}(h:Ext S a b)(hs: ∀i,i<a.heap.size->S i->T i):Ext T a b:=
 ⟨h.os,h.tape,h.output,h.size,fun i d j=>h.block i d fun s=>j (hs i d s)⟩
theorem Ext.any{S:Nat->Prop}{a b:World}(h:Ext AK a b):Ext S a b:=h.mono fun _ _ f=>f.elim
theorem Ext.alloc(S:Nat->Prop)(w:World)(o:Obj):Ext S w (w.alloc o):=
 ⟨rfl,rfl,rfl,by simp,fun k d _=>RowKit.Below.heap_alloc w o k d⟩
theorem Ext.setCell(w:World)(p:Addr)(v:Value):Ext (Gr p.block) w (w.setCell p v):=
 ⟨rfl,rfl,rfl,by simp[World.setCell],fun k d hs=>RowKit.Below.heap_setCell w p v k hs⟩
theorem Ext.Gm(w:World)(b:Nat)(o:Obj):Ext (Gr b) w (World.Gm w b o):=
 ⟨rfl,rfl,rfl,by simp[World.Gm],fun k d hs=>by
  have:k≠b:=hs;simp[World.Gm,Array.getElem?_setIfInBounds_ne (Ne.symm this)]⟩
theorem Ext.cell{S:Nat->Prop}{w w':World}(h:Ext S w w'){p:Addr}{v:Value}(d:w.cell? p=some v)(hs: ¬S p.block):w'.cell? p=some v:=by
 have j:=World.block_lt_of_cell? w p d;rw[<-d];exact World.cell?_of_block (h.block p.block j hs)
theorem Ext.frozen{S:Nat->Prop}{w w':World}(h:Ext S w w'){p:Addr}(d:p.block<w.heap.size)(hs: ¬S p.block):w'.frozen? p=w.frozen? p:=
 World.frozen?_of_block (h.block p.block d hs)
theorem Ext.obj{S:Nat->Prop}{w w':World}(h:Ext S w w'){b:Nat}{o:Obj}(d:w.heap[b]? =some o)(hs: ¬S b):w'.heap[b]? =some o:=by
 have j:b<w.heap.size:=(Array.getElem?_eq_some_iff.1 d).1;rw[h.block b j hs,d]
theorem Ext.below{S:Nat->Prop}{w w':World}(h:Ext S w w'){B:Nat}(v:B<=w.heap.size)(d: ∀i,S i->B<=i):Below B w w':=
 ⟨h.os,h.tape,h.output,h.size,fun k j=>h.block k (by omega) fun s=>by have:=d k s;omega⟩
theorem Ff{w:World}{b:Nat}{o:Obj}(h:w.heap[b]? =some o):b<w.heap.size:=(Array.getElem?_eq_some_iff.1 h).1
theorem AO{w:World}{b:Nat}{cs:Array Value}{t:TypeId}{f:Nat×Nat}(h:w.heap[b]? =some (.cells cs t f))(j:Nat):w.cell? ⟨b,j,none⟩=cs[j]? :=by
 simp[World.cell?,h]
theorem add_eq(b o n:Nat):(Addr.mk b o none).add n=⟨b,o+n,none⟩:=by
 unfold Addr.add;split<;>simp_all
theorem add_add(p:Addr)(a b:Nat):(p.add a).add b=p.add (a+b):=by
 unfold Addr.add;by_cases ha:a=0
 ·subst ha;simp
 ·by_cases hb:b=0
  ·subst hb;simp
  ·simp[ha,hb,Nat.add_assoc]
theorem add_zero(p:Addr):p.add 0=p:=by simp[Addr.add]
theorem PU(p:Addr)(n:Nat):(p.add n).block=p.block:=by unfold Addr.add;split<;>rfl
theorem A7{o:Obj}{w:World}{K:Nat->World->Prop}
  (h: ∀w',w'.heap[w.heap.size]? =some o->w'.heap.size=w.heap.size+1->Ext AK w w'->K w.heap.size w'):AL o w K:=
 h (w.alloc o) (heap_alloc_new w o) (by simp) (Ext.alloc _ w o)
structure JZ(p:Addr)(v:Value)(w w':World):Prop where
 ext:Ext (Gr p.block) w w'
 same:w'.cell? p=some v
 other: ∀q:Addr,q≠p->w'.cell? q=w.cell? q
 frozen: ∀q:Addr,w'.frozen? q=w.frozen? q
 size:w'.heap.size=w.heap.size
theorem Ja{w:World}{p:Addr}{u v:Value}(h:w.cell? p=some u):JZ p v w (w.setCell p v):=
 ⟨Ext.setCell w p v,World.cell?_setCell_same w p v h,fun q d=>World.cell?_setCell_other w p q v (Ne.symm d),fun q=>World.frozen?_setCell w p q v,by simp⟩
theorem IP{p:Addr}{v u:Value}{w:World}{K:World->Prop}(h:w.cell? p=some u)(hf:w.frozen? p=false)(d:v.oneCell'=true)
  (j: ∀w',JZ p v w w'->K w'):stCells p 0 [v] w K:=by
 simp only[stCells,add_zero];exact⟨⟨⟨u,h⟩,hf,d⟩,j _ (Ja h)⟩
theorem Hz{w:World}{b j:Nat}{cs:Array Value}{t:TypeId}{f:Nat×Nat}{v:Value}(h:w.heap[b]? =some (.cells cs t f)):
  (w.setCell ⟨b,j,none⟩ v).heap[b]? =some (.cells (cs.setIfInBounds j v) t f):=by
 simp[World.setCell,Array.getElem?_modify,h]
theorem Fg{t:TypeId}: ∀(vs:List Value) (b o i:Nat) (cs:Array Value) (w:World) (K:World->Prop),w.heap[b]? =some (.cells cs t)->o+i+vs.length<=cs.size->(∀v∈vs,v.oneCell'=true)->
  (∀w',Ext (Gr b) w w'->w'.heap.size=w.heap.size->w'.heap[b]? =some (.cells (cs.toList.take (o+i)++vs++cs.toList.drop (o+i+vs.length)).toArray t)->K w')->
  stCells ⟨b,o,none⟩ i vs w K
 | [],b,o,i,cs,w,K,h,hl,ho,hK=>by
  refine hK w (Ext.refl _ _) rfl ?_;rw[h];simp
 | v::r,b,o,i,cs,w,K,h,hl,ho,hK=>by
  have C:o+i<cs.size:=by simp at hl;omega
  simp only[stCells,add_eq];refine⟨⟨⟨cs[o+i],by rw[AO h];exact Array.getElem?_eq_getElem C⟩,by simp[World.frozen?,h],ho v (by simp)⟩,?_⟩;have J:=Hz (j:=o+i) (v:=v) h;refine Fg r b o (i+1) _ _ K J (by simp at hl⊢;omega) (fun u hu=>ho u (by simp[hu])) fun w' he hs N=> ?_;refine hK w' ((Ext.setCell w ⟨b,o+i,none⟩ v).trans' he) (by rw[hs];simp) ?_;rw[N];congr 3;have d:o+i<cs.toList.length:=by simpa using C
  simp only[Array.toList_setIfInBounds];rw[show o+(i+1)=o+i+1 from by omega];rw[List.take_set,List.take_succ_eq_append_getElem d,List.set_append_right _ _ (by simp;omega)];simp only[List.length_take,Nat.min_eq_left (Nat.le_of_lt d),Nat.sub_self,List.set_cons_zero,List.append_assoc,List.singleton_append,List.length_cons];congr 2;rw[List.drop_set_of_lt (by omega)];rw[show o+i+1+r.length=o+i+(r.length+1)from by omega]
theorem Vk{S:Nat->Prop}{w w':World}{b:Option Addr}{n:Nat}{l:List Value}(h:rowAt w b n l)(he:Ext S w w')(hs: ∀a,b=some a->l≠ []-> ¬S a.block):rowAt w' b n l:=by
 cases b with
 | none=>exact h
 | some a=>
  refine⟨h.1,fun j v d=>he.cell (h.2 j v d) ?_⟩;rw[PU];exact hs a rfl (by intro e;subst e;simp at d)
structure Fs(w:World)(B t z:Nat)(s:AZ)(vs:List Value):Prop where
 len:vs.length=s.len*z
 cap:s.len<=s.cap
 top:s.cap<9223372036854775808
 row:(s.base=none/\s.cap=0)∨ ∃b cs,s.base=some ⟨b,0,none⟩/\B<=b/\w.heap[b]? =some (.cells cs t)/\cs.size=s.cap*z/\cs.toList.take (s.len*z)=vs
theorem Fs.nil(w:World)(B t z:Nat):Fs w B t z ⟨none,0,0⟩ []:=⟨by simp,Nat.le_refl _,by decide,.inl ⟨rfl,rfl⟩⟩
theorem Fs.rowAt{w:World}{B t z:Nat}{s:AZ}{vs:List Value}(h:Fs w B t z s vs):rowAt w s.base (s.len*z) vs:=by
 rcases h.row with ⟨h1,N⟩|⟨b,cs,h1,N,K,O,J⟩
 ·have:s.len=0:=by have:=h.cap;omega
  have C:=h.len;rw[this]at C;rw[h1];exact List.eq_nil_of_length_eq_zero (by simpa using C)
 ·rw[h1];refine⟨h.len,fun j v d=> ?_⟩;rw[add_eq,Nat.zero_add,AO K];rw[<-J,List.getElem?_take]at d;split at d
  ·simpa using d
  ·cases d
theorem Fs.ext{w w':World}{B t z:Nat}{s:AZ}{vs:List Value}{S:Nat->Prop}(h:Fs w B t z s vs)(he:Ext S w w')(hs: ∀b,s.base=some ⟨b,0,none⟩-> ¬S b):Fs w' B t z s vs:=by
 refine⟨h.len,h.cap,h.top,?_⟩;rcases h.row with h1|⟨b,cs,h1,j,d,v⟩
 ·exact .inl h1
 ·exact .inr ⟨b,cs,h1,j,he.obj d (hs b h1),v⟩
theorem Fs.lower{w:World}{B B' t z:Nat}{s:AZ}{vs:List Value}(h:Fs w B t z s vs)(C:B'<=B):Fs w B' t z s vs:=by
 refine⟨h.len,h.cap,h.top,?_⟩;rcases h.row with h1|⟨b,cs,h1,v,d,j⟩
 ·exact .inl h1
 ·exact .inr ⟨b,cs,h1,by omega,d,j⟩
theorem Fs.lt{w:World}{B t z:Nat}{s:AZ}{vs:List Value}(h:Fs w B t z s vs){a:Addr}(d:s.base=some a):B<=a.block/\a.block<w.heap.size/\a.off=0/\a.spot=none:=by
 rcases h.row with ⟨h1,_⟩|⟨b,cs,h1,v,j,C⟩
 ·rw[h1]at d;cases d
 ·rw[h1]at d;cases d;exact⟨v,Ff j,rfl,rfl⟩
theorem LO{e z bytes:Nat}{zs:Array Value}{s x:AZ}{w:World}{K:AZ->World->Prop}{B:Nat}{vs news:List Value}
  (hz:zs.size=z)(d:Fs w B e z s vs)(J:rowAt w x.base (x.len*z) news)(j:news.length=x.len*z)(ho: ∀v∈news,v.oneCell'=true)(hB:B<=w.heap.size)
  (hb:(s.len+x.len)*bytes<=140737488355328)(aA:s.len+x.len<=9223372036854775807)
  (hK: ∀s' w',Fs w' B e z s' (vs++news)->s'.len=s.len+x.len->Ext (fun k=> ∃a,s.base=some a/\k=a.block) w w'->
   (s'.base=s.base∨ ∃b,s'.base=some ⟨b,0,none⟩/\w.heap.size<=b)->K s' w'):APP e z bytes zs s x w K:=by
 refine⟨news,J,fun C=> ?_,fun T=>⟨hb,aA,vs,d.rowAt,fun cap O N=> ?_⟩⟩
 ·rcases d.row with ⟨h1,h2⟩|⟨b,cs,h1,h2,h3,h4,h5⟩
  ·have hx:x.len=0:=by omega
   have hs:s.len=0:=by omega
   rw[h1];have hn:news=[]:=List.eq_nil_of_length_eq_zero (by rw[j,hx];simp);have hv:vs=[]:=List.eq_nil_of_length_eq_zero (by rw[d.len,hs];simp);subst hn;subst hv;refine hK _ w ⟨by simp[hs,hx],by simpa using C,d.top,.inl ⟨rfl,h2⟩⟩ rfl (Ext.refl _ _) (.inl h1.symm)
  ·rw[h1];simp only[add_eq,Nat.zero_add];have hle:s.len*z+news.length<=cs.size:=by
    rw[j,h4,<-Nat.add_mul];exact Nat.mul_le_mul_right _ C
   refine Fg news b (s.len*z) 0 cs w _ h3 (by simpa using hle) ho fun w' he aJ Y=> ?_;refine hK _ w' ⟨by simp[d.len,j,Nat.add_mul],C,d.top,.inr ⟨b,_,rfl,h2,Y,?_,?_⟩⟩ rfl (he.mono fun i _ hi=>⟨_,h1,hi⟩) (.inl h1.symm)
   ·simp only[Nat.add_zero,List.size_toArray,List.length_append,List.length_take,List.length_drop,Array.length_toList];omega
   ·simp only[Nat.add_zero];rw[h5,List.append_assoc,<-List.append_assoc,Nat.add_mul,<-j,<-d.len,<-List.length_append];exact List.take_left
 ·refine hK _ _ ⟨by simp[d.len,j,Nat.add_mul],O,N,.inr ⟨w.heap.size,_,rfl,hB,heap_alloc_new w.drew _,?_,?_⟩⟩ rfl ((Ext.drew _ w).trans' (Ext.alloc _ w.drew _)) (.inr ⟨_,rfl,Nat.le_refl _⟩)
  ·simp only[Array.size_append,List.size_toArray,Builtin.zeroCells,Array.size_map,Array.size_range,d.len,j,hz];rw[<-Nat.add_mul,<-Nat.add_mul];congr 1;omega
  ·simp only[Array.toList_append,Nat.add_mul];rw[<-j,<-d.len,<-List.length_append];exact List.take_left
theorem QT{w w':World}{B t z n:Nat}{cells:List Value}(h:w'.heap[w.heap.size]? =some (.cells ⟨cells⟩ t))(d:cells.length=n*z)(v:B<=w.heap.size)(j:n<9223372036854775808):
  Fs w' B t z ⟨some ⟨w.heap.size,0,none⟩,n,n⟩ cells:=
 ⟨d,Nat.le_refl _,j,.inr ⟨_,_,rfl,v,h,by simpa using d,by rw[<-d];simp⟩⟩
theorem Jb(a:Option Addr)(c z:Nat):Fe a c 0 z=a:=by
 unfold Fe;split
 ·rfl
 ·cases a<;>simp[add_zero]
theorem Iu{w:World}{b:Option Addr}{n m:Nat}{l:List Value}(h:rowAt w b n l)(hm:m<=n)(C:l.length=n):rowAt w b m (l.take m):=by
 cases b with
 | none=>have:l=[]:=h;subst this;exact List.take_nil
 | some a=>
  refine⟨by rw[List.length_take,C];omega,fun j v d=>h.2 j v ?_⟩;rw[List.getElem?_take]at d;split at d
  ·exact d
  ·cases d
theorem Ha{w:World}{b:Option Addr}{n len cap k z:Nat}{l:List Value}(h:rowAt w b n l)(K:n=len*z)(O:k<=len)(N:len<=cap)(J:l.length=n):
  rowAt w (Fe b cap k z) ((len-k)*z) (l.drop (k*z)):=by
 have hlen:(l.drop (k*z)).length=(len-k)*z:=by rw[List.length_drop,J,K,Nat.sub_mul]
 unfold Fe;split
 ·rename_i hck;have:len-k=0:=by omega
  rw[this]at hlen⊢;have d:l.drop (k*z)=[]:=List.eq_nil_of_length_eq_zero (by simpa using hlen);rw[d];cases b with
  | none=>rfl
  | some a=>exact⟨by simp,by simp⟩
 ·cases b with
  | none=>have:l=[]:=h;subst this;exact List.drop_nil
  | some a=>
   refine⟨hlen,fun j v C=> ?_⟩;rw[add_add];rw[List.getElem?_drop]at C;exact h.2 _ v C
theorem AM{σ:Type}{s0:σ}{w0:World}{body:σ->(Nat->Value)->World->(σ->World->Prop)->Prop}(I:σ->World->Prop)(μ:σ->World->Nat)(h0:I s0 w0)
  (h: ∀s j w,I s w->body s j w fun s' w'=>I s' w'/\μ s' w'<μ s w):Be σ s0 w0 body:=⟨I,μ,h0,h⟩
theorem Ak{σ:Type}{first:(σ->World->Prop)->Prop}{rest:σ->(Nat->Value)->World->Prop}(J:σ->World->Prop)(h1:first J)(d: ∀s j w,J s w->rest s j w):Av σ first rest:=⟨J,h1,d⟩
theorem AR{b:Bool}{T E:Prop}(h1:b=true->T)(d:b=false->E):CND b T E:=Ui.2 ⟨h1,d⟩
theorem AE{p:Prop}[Decidable p]{T E:Prop}(h1:p->T)(d: ¬p->E):CND (decide p) T E:=
 Ui.2 ⟨fun h=>h1 (of_decide_eq_true h),fun h=>d (of_decide_eq_false h)⟩
theorem AY{α:Type}{e:α}{K:α->Prop}(h: ∀x,x=e->K x):Gl e K:=h e rfl
theorem NU(n:Int):u64 n=n %18446744073709551616:=by simp[u64,IntKind.wrap,IntKind.bits,IntKind.signed]
theorem AG{n:Int}(h0:0<=n:=by omega)(h1:n<18446744073709551616:=by omega):u64 n=n:=by rw[NU];omega
theorem AN{n:Int}(h0: -9223372036854775808<=n:=by omega)(h1:n<9223372036854775808:=by omega):i64 n=n:=IntWalk.i64_in n (by omega)
theorem NV(a b:Int):KX a b=min a b:=by unfold KX;omega
theorem LP(a b:Int):HL a b=max a b:=by unfold HL;omega
end Go.Sh
set_option linter.all false
namespace Go.Sh
abbrev Iv:=List (Int×Int)
def Ok:Iv->Prop
 | []=>True
 | p::r=>0<=p.1/\p.1<p.2/\p.2<18446744073709551616/\(∀q∈r,p.2<q.1)/\Ok r
def mem(l:Iv)(n:Int):Prop:= ∃p∈l,p.1<=n/\n<p.2
def posn:Iv->Int->Nat
 | [],_=>0
 | p::r,x=>if p.2<=x then posn r x+1 else 0
def CK:Iv->Int
 | []=>0
 | p::r=>(p.2-p.1)+CK r
def Jc(p:Int×Int)(a b:Int):Int:=max 0 (min p.2 b-max p.1 a)
def cnt:Iv->Int->Int->Int
 | [],_,_=>0
 | p::r,a,b=>Jc p a b+cnt r a b
def LQ(p:Int×Int)(a b:Int):Iv:=(if p.1<a then [(p.1,min p.2 a)]else [])++(if b<p.2 then [(max p.1 b,p.2)]else [])
def B6:Iv->Int->Int->Iv
 | [],_,_=>[]
 | p::r,a,b=>LQ p a b++B6 r a b
def addHi(l:Iv)(i:Nat)(b:Int):Int×Nat:=match l[i]? with
 | some q=>if q.1=b then(q.2,i+1)else(b,i)
 | none=>(b,i)
def addLo(l:Iv)(i:Nat)(a:Int):Int×Nat:=match i with
 | 0=>(a,0)
 | i+1=>match l[i]? with
  | some q=>if q.2=a then(q.1,i)else(a,i+1)
  | none=>(a,i+1)
def NK(l:Iv)(a b:Int):Iv:=
 l.take (addLo l (posn l a) a).2++[((addLo l (posn l a) a).1,(addHi l (posn l a) b).1)]++l.drop (addHi l (posn l a) b).2
def Bk(l:Iv)(a b:Int):Iv:=NK (B6 l a b) a b
theorem IA: ∀(l:Iv) (x:Int),posn l x<=l.length
 | [],_=>Nat.le_refl _
 | p::r,x=>by
  unfold posn;split
  ·have:=IA r x;simp;omega
  ·simp
theorem Jd: ∀(l:Iv) (x:Int) (i:Nat) (p:Int×Int),i<posn l x->l[i]? =some p->p.2<=x
 | [],x,i,p,h,_=>by simp[posn]at h
 | q::r,x,i,p,h,hp=>by
  unfold posn at h;split at h
  ·rename_i hq;cases i with
   | zero=>simp at hp;subst hp;exact hq
   | succ i=>exact Jd r x i p (by omega) (by simpa using hp)
  ·omega
theorem QU: ∀(l:Iv) (x:Int) (p:Int×Int),l[posn l x]? =some p->x<p.2
 | [],x,p,h=>by simp at h
 | q::r,x,p,h=>by
  unfold posn at h;split at h
  ·exact QU r x p (by simpa using h)
  ·simp at h;subst h;omega
theorem Ok.tail{p:Int×Int}{r:Iv}(h:Ok (p::r)):Ok r:=h.2.2.2.2
theorem Ok.get: ∀{l:Iv},Ok l-> ∀{i:Nat} {p:Int×Int},l[i]? =some p->0<=p.1/\p.1<p.2/\p.2<18446744073709551616
 | [],_,i,p,h=>by simp at h
 | q::r,h,0,p,hp=>by simp at hp;subst hp;exact⟨h.1,h.2.1,h.2.2.1⟩
 | q::r,h,i+1,p,hp=>Ok.get h.tail (by simpa using hp)
theorem Ok.mem: ∀{l:Iv},Ok l-> ∀{p:Int×Int},p∈l->0<=p.1/\p.1<p.2/\p.2<18446744073709551616
 | [],_,p,h=>by cases h
 | q::r,h,p,hp=>by
  rcases List.mem_cons.1 hp with rfl|hp
  ·exact⟨h.1,h.2.1,h.2.2.1⟩
  ·exact Ok.mem h.tail hp
theorem Ok.lt: ∀{l:Iv},Ok l-> ∀{i j:Nat} {p q:Int×Int},i<j->l[i]? =some p->l[j]? =some q->p.2<q.1
 | [],_,i,j,p,q,_,h,_=>by simp at h
 | r::l,h,0,j+1,p,q,_,hp,hq=>by
  simp at hp;subst hp;exact h.2.2.2.1 q (List.mem_of_getElem? (by simpa using hq))
 | r::l,h,i+1,j+1,p,q,hij,hp,hq=>Ok.lt (l:=l) (i:=i) (j:=j) h.tail (by omega) (by simpa using hp) (by simpa using hq)
 | _::_,_,_,0,_,_,hij,_,_=>by omega
theorem Hb{l:Iv}(h:Ok l)(x:Int){i:Nat}{p:Int×Int}(C:posn l x<=i)(hp:l[i]? =some p):x<p.2:=by
 rcases Nat.lt_or_ge (posn l x) i with d|v
 ·have j:posn l x<l.length:=by have:=(List.getElem?_eq_some_iff.1 hp).1;omega
  have h1:=QU l x _ (List.getElem?_eq_getElem j);have J:=h.lt d (List.getElem?_eq_getElem j) hp;have K:=h.get hp;omega
 ·have:i=posn l x:=by omega
  subst this;exact QU l x p hp
theorem Ar(n:Int): ¬mem [] n:=by rintro⟨p,hp,_⟩;cases hp
theorem mem_cons{p:Int×Int}{r:Iv}{n:Int}:mem (p::r) n↔(p.1<=n/\n<p.2)∨mem r n:=by
 constructor
 ·rintro⟨q,d,h⟩;rcases List.mem_cons.1 d with rfl|d
  ·exact .inl h
  ·exact .inr ⟨q,d,h⟩
 ·rintro(h|⟨q,d,h⟩)
  ·exact⟨p,by simp,h⟩
  ·exact⟨q,by simp[d],h⟩
theorem mem_append{l m:Iv}{n:Int}:mem (l++m) n↔mem l n∨mem m n:=by
 induction l with
 | nil=>simp[Ar]
 | cons p r ih=>simp[mem_cons,ih,or_assoc]
theorem XC{p:Int×Int}{a b n:Int}(j:a<b):mem (LQ p a b) n↔(p.1<=n/\n<p.2)/\ ¬(a<=n/\n<b):=by
 unfold LQ;rw[mem_append];have h1:mem (if p.1<a then [(p.1,min p.2 a)]else []) n↔p.1<a/\p.1<=n/\n<min p.2 a:=by
  split<;>rename_i h<;>simp[mem_cons,Ar,h]
 have d:mem (if b<p.2 then [(max p.1 b,p.2)]else []) n↔b<p.2/\max p.1 b<=n/\n<p.2:=by
  split<;>rename_i h<;>simp[mem_cons,Ar,h]
 rw[h1,d];omega
theorem B7{l:Iv}{a b n:Int}(j:a<b):mem (B6 l a b) n↔mem l n/\ ¬(a<=n/\n<b):=by
 induction l with
 | nil=>simp[B6,Ar]
 | cons p r ih=>
  simp only[B6,mem_append,mem_cons,XC j,ih];constructor
  ·rintro(⟨h1,d⟩|⟨h1,d⟩)
   ·exact⟨.inl h1,d⟩
   ·exact⟨.inr h1,d⟩
  ·rintro⟨h1|h1,d⟩
   ·exact .inl ⟨h1,d⟩
   ·exact .inr ⟨h1,d⟩
theorem DL: ∀{l m:Iv},Ok (l++m)↔Ok l/\Ok m/\ ∀p∈l,∀q∈m,p.2<q.1
 | [],m=>by simp[Ok]
 | p::r,m=>by
  simp only[List.cons_append,Ok,DL (l:=r) (m:=m),List.mem_append,List.mem_cons];constructor
  ·rintro⟨h1,N,O,C,K,T,J⟩;refine⟨⟨h1,N,O,fun q d=>C q (.inl d),K⟩,T,?_⟩;rintro q (rfl|d) v j
   ·exact C v (.inr j)
   ·exact J q d v j
  ·rintro⟨⟨h1,N,O,C,K⟩,T,J⟩;refine⟨h1,N,O,?_,K,T,fun q d v j=>J q (.inr d) v j⟩;rintro q (d|d)
   ·exact C q d
   ·exact J p (.inl rfl) q d
theorem Mk{p q:Int×Int}{a b:Int}(d:q∈LQ p a b)(hp:p.1<p.2)(j:a<b):p.1<=q.1/\q.2<=p.2/\q.1<q.2:=by
 unfold LQ at d;rcases List.mem_append.1 d with h|h
 ·split at h
  ·simp at h;subst h;simp only;omega
  ·cases h
 ·split at h
  ·simp at h;subst h;simp only;omega
  ·cases h
theorem Je{l:Iv}{a b:Int}{q:Int×Int}(h:Ok l)(v:a<b)(d:q∈B6 l a b): ∃p∈l,p.1<=q.1/\q.2<=p.2/\q.1<q.2:=by
 induction l with
 | nil=>cases d
 | cons p r ih=>
  rcases List.mem_append.1 d with d|d
  ·exact⟨p,by simp,Mk d h.2.1 v⟩
  ·obtain⟨C,j,J⟩:=ih h.tail d;exact⟨C,by simp[j],J⟩
theorem Yy{p:Int×Int}{a b:Int}(h0:0<=p.1)(h1:p.1<p.2)(j:p.2<18446744073709551616)(d:a<b):Ok (LQ p a b):=by
 unfold LQ;split<;>split<;>simp[Ok]<;>omega
theorem EK{l:Iv}{a b:Int}(h:Ok l)(d:a<b):Ok (B6 l a b):=by
 induction l with
 | nil=>trivial
 | cons p r ih=>
  simp only[B6,DL];refine⟨Yy h.1 h.2.1 h.2.2.1 d,ih h.tail,fun q C K j=> ?_⟩;have h1:=Mk C h.2.1 d;obtain⟨J,v,O⟩:=Je h.tail d j;have N:=h.2.2.2.1 J v;omega
theorem Iw(l m:Iv):CK (l++m)=CK l+CK m:=by
 induction l with
 | nil=>simp[CK]
 | cons p r ih=>simp[CK,ih];omega
theorem XD{p:Int×Int}{a b:Int}(hp:p.1<p.2)(d:a<b):CK (LQ p a b)=p.2-p.1-Jc p a b:=by
 unfold LQ Jc;rw[Iw];split<;>split<;>simp[CK]<;>omega
theorem N3{l:Iv}{a b:Int}(h:Ok l)(d:a<b):CK (B6 l a b)=CK l-cnt l a b:=by
 induction l with
 | nil=>simp[B6,CK,cnt]
 | cons p r ih=>
  simp only[B6,Iw,CK,cnt,ih h.tail,XD h.2.1 d];omega
theorem GY{l:Iv}(h:Ok l):0<=CK l:=by
 induction l with
 | nil=>simp[CK]
 | cons p r ih=>have:=ih h.tail;have:=h.2.1;simp only[CK];omega
theorem XE: ∀{l:Iv} (h:Ok l) (B:Int),0<=B->B<18446744073709551616->(∀p∈l,B<=p.1)->B+CK l<18446744073709551616
 | [],_,B,h0,h1,_=>by simp only[CK];omega
 | p::r,h,B,h0,h1,hB=>by
  have j:=hB p (by simp);have:=XE h.tail p.2 (by have:=h.1;have:=h.2.1;omega) h.2.2.1 (fun q d=>by have:=h.2.2.2.1 q d;omega);simp only[CK];omega
theorem QW{l:Iv}(h:Ok l):CK l<18446744073709551616:=by
 have:=XE h 0 (by omega) (by omega) (fun p hp=>(h.mem hp).1);omega
theorem B1(l:Iv)(a b:Int):0<=cnt l a b:=by
 induction l with
 | nil=>simp[cnt]
 | cons p r ih=>simp only[cnt,Jc];omega
theorem N4(l m:Iv)(a b:Int):cnt (l++m) a b=cnt l a b+cnt m a b:=by
 induction l with
 | nil=>simp[cnt]
 | cons p r ih=>simp[cnt,ih];omega
theorem Ml: ∀{l:Iv} (h:Ok l) {a b:Int},a<=b-> ∀c:Int,a<=c->c<=b->(∀p∈l,c<=p.1)->cnt l a b<=b-c
 | [],_,a,b,hab,c,_,hc,_=>by simp[cnt];omega
 | p::r,h,a,b,hab,c,hac,hcb,hB=>by
  have h1:=hB p (by simp);simp only[cnt,Jc];rcases Int.lt_or_le b p.2 with v|v
  ·have:cnt r a b=0:=by
    have: ∀l:Iv,(∀q∈l,b<=q.1)->cnt l a b=0:=by
     intro l
     induction l with
     | nil=>intro _;rfl
     | cons q s ih=>
      intro d;have:=d q (by simp);have:=ih fun C j=>d C (by simp[j]);simp only[cnt,Jc];omega
    exact this r fun q d=>by have:=h.2.2.2.1 q d;omega
   omega
  ·have:=Ml h.tail hab p.2 (by have:=h.2.1;omega) v (fun q d=>by have:=h.2.2.2.1 q d;omega);have:=h.2.1;omega
theorem DY: ∀{l:Iv} (h:Ok l) {a b:Int},a<=b->cnt l a b<=b-a
 | [],_,a,b,hab=>by simp[cnt];omega
 | p::r,h,a,b,hab=>by
  have hp:=h.2.1;simp only[cnt,Jc];have hz:(∀q∈r,b<=q.1)->cnt r a b=0:=by
   intro J;have: ∀l:Iv,(∀q∈l,b<=q.1)->cnt l a b=0:=by
    intro l
    induction l with
    | nil=>intro _;rfl
    | cons q s ih=>
     intro d;have:=d q (by simp);have:=ih fun C j=>d C (by simp[j]);simp only[cnt,Jc];omega
   exact this r J
  rcases Int.lt_or_le p.2 a with h1|h1
  ·have:=DY h.tail hab;omega
  ·rcases Int.lt_or_le b p.2 with v|v
   ·have:=hz fun q d=>by have:=h.2.2.2.1 q d;omega
    omega
   ·have:=Ml h.tail hab p.2 h1 v (fun q d=>by have:=h.2.2.2.1 q d;omega);omega
theorem NL{l:Iv}{a b:Int}(h: ∀p∈l,p.2<=a):cnt l a b=0:=by
 induction l with
 | nil=>rfl
 | cons q s ih=>
  have:=h q (by simp);have:=ih fun j d=>h j (by simp[d]);simp only[cnt,Jc];omega
theorem N5{l:Iv}{a b:Int}(h: ∀p∈l,b<=p.1):cnt l a b=0:=by
 induction l with
 | nil=>rfl
 | cons q s ih=>
  have:=h q (by simp);have:=ih fun j d=>h j (by simp[d]);simp only[cnt,Jc];omega
theorem Jf(l m:Iv)(a b:Int):B6 (l++m) a b=B6 l a b++B6 m a b:=by
 induction l with
 | nil=>rfl
 | cons p r ih=>simp[B6,ih]
theorem Rh{l:Iv}{a b:Int}(j:a<b)(h: ∀p∈l,p.1<p.2/\p.2<=a):B6 l a b=l:=by
 induction l with
 | nil=>rfl
 | cons p r ih=>
  have hp:=h p (by simp);simp only[B6,ih fun q d=>h q (by simp[d])];unfold LQ;rw[if_pos (by omega),if_neg (by omega)];have:min p.2 a=p.2:=by omega
  rw[this];rfl
theorem TP{l:Iv}{a b:Int}(j:a<b)(h: ∀p∈l,p.1<p.2/\b<=p.1):B6 l a b=l:=by
 induction l with
 | nil=>rfl
 | cons p r ih=>
  have hp:=h p (by simp);simp only[B6,ih fun q d=>h q (by simp[d])];unfold LQ;rw[if_neg (by omega),if_pos (by omega)];have:max p.1 b=p.1:=by omega
  rw[this];rfl
theorem LR{l:Iv}{a:Int}: ∀p∈l.take (posn l a),p.2<=a:=by
 intro p hp;obtain⟨i,d,rfl⟩:=List.mem_iff_getElem.1 hp;simp only[List.length_take]at d;rw[List.getElem_take];exact Jd l a i _ (by omega) (List.getElem?_eq_getElem (by omega))
theorem TQ{l:Iv}(h:Ok l){a b:Int}(v:a<b){k:Nat}(hk:posn l a<=k)(C: ∀p,l[k]? =some p->b<=p.1):
  B6 l a b=l.take (posn l a)++B6 ((l.take k).drop (posn l a)) a b++l.drop k:=by
 have h1:l=l.take (posn l a)++(l.take k).drop (posn l a)++l.drop k:=by
  have J:l.take k=(l.take k).take (posn l a)++(l.take k).drop (posn l a):=(List.take_append_drop _ _).symm;rw[List.take_take,Nat.min_eq_left hk]at J;rw[<-J,List.take_append_drop]
 have N:B6 (l.take (posn l a)) a b=l.take (posn l a):=Rh v fun p hp=>⟨(h.mem (List.mem_of_mem_take hp)).2.1,LR p hp⟩;have K:B6 (l.drop k) a b=l.drop k:=by
  refine TP v fun p hp=>⟨(h.mem (List.mem_of_mem_drop hp)).2.1,?_⟩;obtain⟨i,O,rfl⟩:=List.mem_iff_getElem.1 hp;rw[List.getElem_drop];simp only[List.length_drop]at O;have d:k<l.length:=by omega
  have Y:=C _ (List.getElem?_eq_getElem d);rcases Nat.eq_zero_or_pos i with rfl|T
  ·simpa using Y
  ·have h5:=h.lt (i:=k) (j:=k+i) (by omega) (List.getElem?_eq_getElem d) (List.getElem?_eq_getElem (by omega));have h6:=h.get (List.getElem?_eq_getElem d);omega
 conv=>lhs;rw[h1]
 rw[Jf,Jf,N,K]
def Clear(l:Iv)(a b:Int):Prop:= ∀p∈l,p.2<=a∨b<=p.1
theorem N6{l:Iv}{a b:Int}(h:Ok l)(d:a<b):Clear (B6 l a b) a b:=by
 intro q j;have hm:mem (B6 l a b) q.1:=⟨q,j,by omega,((EK h d).mem j).2.1⟩;have h1:=(B7 d).1 hm;have K:=(EK h d).mem j;rcases Int.lt_or_le q.1 a with C|J
 ·left;rcases Int.lt_or_le a q.2 with v|v
  ·have:mem (B6 l a b) a:=⟨q,j,by omega,v⟩;have:=((B7 d).1 this).2;omega
  ·exact v
 ·right;omega
theorem Vl(l:Iv)(i:Nat)(n:Int):mem l n↔mem (l.take i) n∨mem (l.drop i) n:=by
 rw[<-mem_append,List.take_append_drop]
theorem Vm{l:Iv}(h:Ok l){a b:Int}(j:Clear l a b): ∀p∈l.drop (posn l a),b<=p.1:=by
 intro p hp;obtain⟨i,d,rfl⟩:=List.mem_iff_getElem.1 hp;rw[List.getElem_drop];simp only[List.length_drop]at d;have h1:=Hb h a (i:=posn l a+i) (by omega) (List.getElem?_eq_getElem (by omega));rcases j _ (List.getElem_mem (l:=l) (n:=posn l a+i) (by omega))with h2|h2<;>omega
theorem PV{l:Iv}{a b:Int}(h:Ok l)(aZ:a<b)(h0:0<=a)(hb:b<18446744073709551616)(hc:Clear l a b):
  Ok (NK l a b)/\(∀n,mem (NK l a b) n↔mem l n∨(a<=n/\n<b))/\CK (NK l a b)=CK l+(b-a):=by
 have a3:=IA l a;obtain⟨i,hi⟩: ∃i,i=posn l a:=⟨_,rfl⟩;have aE: ∀p∈l.take i,p.2<=a:=by rw[hi];exact LR
 have aH: ∀p∈l.drop i,b<=p.1:=by rw[hi];exact Vm h hc
 have Y:l=l.take i++l.drop i:=(List.take_append_drop i l).symm;have aG:=h;rw[Y,DL]at aG;obtain⟨K,O,a1⟩:=aG;have key: ∀(L M R N:Iv) (x y:Int),l.take i=L++M->l.drop i=N++R->x<=a->b<=y->0<=x->y<18446744073709551616->
   (∀p∈L,p.2<x)->(∀p∈R,y<p.1)->(∀n,(x<=n/\n<y)↔mem M n∨(a<=n/\n<b)∨mem N n)->y-x=CK M+(b-a)+CK N->
   NK l a b=L++[(x,y)]++R->Ok (NK l a b)/\(∀n,mem (NK l a b) n↔mem l n∨(a<=n/\n<b))/\CK (NK l a b)=CK l+(b-a):=by
  intro L M R N x y h1 C hx hy aN aO hl hr aI aU he;rw[he];rw[h1]at K;rw[C]at O;rw[DL]at K O;refine⟨?_,fun n=> ?_,?_⟩
  ·rw[DL,DL];refine⟨⟨K.1,?_,?_⟩,O.2.1,?_⟩
   ·simp only[Ok];refine⟨aN,by omega,aO,by simp,trivial⟩
   ·intro p hp q v;simp at v;subst v;exact hl p hp
   ·intro p hp q v;rcases List.mem_append.1 hp with hp|hp
    ·have:=hl p hp;have:=hr q v;omega
    ·simp at hp;subst hp;exact hr q v
  ·rw[mem_append,mem_append,Vl l i n,h1,C,mem_append,mem_append];simp only[mem_cons,Ar,or_false];rw[aI n];constructor
   ·rintro((h|h|h|h)|h)
    ·exact .inl (.inl (.inl h))
    ·exact .inl (.inl (.inr h))
    ·exact .inr h
    ·exact .inl (.inr (.inl h))
    ·exact .inl (.inr (.inr h))
   ·rintro(((h|h)|(h|h))|h)
    ·exact .inl (.inl h)
    ·exact .inl (.inr (.inl h))
    ·exact .inl (.inr (.inr (.inr h)))
    ·exact .inr h
    ·exact .inl (.inr (.inr (.inl h)))
  ·have e1:=Iw (l.take i) (l.drop i);rw[List.take_append_drop]at e1;rw[e1,h1,C];simp only[Iw,CK];omega
 have aQ:(∃q R,l.drop i=q::R/\q.1=b/\addHi l i b=(q.2,i+1)/\l.drop (i+1)=R)∨((∀p∈l.drop i,b<p.1)/\addHi l i b=(b,i)):=by
  unfold addHi;rcases Nat.lt_or_ge i l.length with J|aD
  ·have hg:=List.getElem?_eq_getElem J;rw[hg];have hd:l.drop i=l[i]::l.drop (i+1):=List.drop_eq_getElem_cons J;by_cases v:l[i].1=b
   ·exact .inl ⟨_,_,hd,v,by simp[v],rfl⟩
   ·refine .inr ⟨?_,by simp[v]⟩;intro p hp;rw[hd]at hp;have aM:b<=l[i].1:=aH _ (by rw[hd];exact List.mem_cons_self);rcases List.mem_cons.1 hp with rfl|hp
    ·omega
    ·have C:=O;rw[hd]at C;have:=C.2.2.2.1 p hp;have:=C.2.1;omega
  ·rw[List.getElem?_eq_none aD];refine .inr ⟨?_,rfl⟩;rw[List.drop_eq_nil_of_le aD];simp
 have aL:(∃q L,l.take i=L++[q]/\q.2=a/\addLo l i a=(q.1,i-1)/\l.take (i-1)=L)∨((∀p∈l.take i,p.2<a)/\addLo l i a=(a,i)):=by
  unfold addLo;cases i with
  | zero=>exact .inr ⟨by simp,rfl⟩
  | succ j=>
   have J:j<l.length:=by omega
   have hg:=List.getElem?_eq_getElem J;simp only[hg];have ht:l.take (j+1)=l.take j++[l[j]]:=List.take_succ_eq_append_getElem J;by_cases v:l[j].2=a
   ·exact .inl ⟨_,_,ht,v,by simp[v],rfl⟩
   ·refine .inr ⟨?_,by simp[v]⟩;intro p hp;have aM:l[j].2<=a:=aE _ (by rw[ht];exact List.mem_append_right _ List.mem_cons_self);rw[ht]at hp;rcases List.mem_append.1 hp with hp|hp
    ·have C:=K;rw[ht,DL]at C;have:=C.2.2 p hp l[j] (by simp);have:=C.2.1.2.1;omega
    ·simp at hp;subst hp;omega
 have d:NK l a b=l.take (addLo l i a).2++[((addLo l i a).1,(addHi l i b).1)]++l.drop (addHi l i b).2:=by rw[hi];rfl
 rcases aL with ⟨q,L,h1,C,h3,h4⟩|⟨h1,h3⟩<;>rcases aQ with ⟨q',R,T,h6,h7,h8⟩|⟨T,h7⟩
 ·rw[h3,h7]at d;simp only[h4,h8]at d;have v:q∈l.take i:=by rw[h1];simp
  have aA:q'∈l.drop i:=by rw[T];simp
  have g1:=K.mem v;have g2:=O.mem aA;refine key L [q] R [q'] q.1 q'.2 h1 T (by omega) (by omega) (by omega) (by omega) ?_ ?_ ?_ ?_ d
  ·rw[h1,DL]at K;intro p hp;exact K.2.2 p hp q (by simp)
  ·rw[T]at O;exact O.2.2.2.1
  ·intro n;simp only[mem_cons,Ar,or_false];omega
  ·simp only[CK];omega
 ·rw[h3,h7]at d;simp only[h4]at d;have v:q∈l.take i:=by rw[h1];simp
  have g1:=K.mem v;refine key L [q] (l.drop i) [] q.1 b h1 rfl (by omega) (by omega) (by omega) hb ?_ T ?_ ?_ d
  ·rw[h1,DL]at K;intro p hp;exact K.2.2 p hp q (by simp)
  ·intro n;simp only[mem_cons,Ar,or_false];omega
  ·simp only[CK];omega
 ·rw[h3,h7]at d;simp only[h8]at d;have aA:q'∈l.drop i:=by rw[T];simp
  have g2:=O.mem aA;refine key (l.take i) [] R [q'] a q'.2 (by simp) T (by omega) (by omega) h0 (by omega) h1 ?_ ?_ ?_ d
  ·rw[T]at O;exact O.2.2.2.1
  ·intro n;simp only[mem_cons,Ar,or_false,false_or];omega
  ·simp only[CK];omega
 ·rw[h3,h7]at d;refine key (l.take i) [] (l.drop i) [] a b (by simp) rfl (by omega) (by omega) h0 hb h1 T ?_ ?_ d
  ·intro n;simp only[Ar,or_false,false_or]
  ·simp only[CK];omega
theorem CQ{l:Iv}{a b:Int}(h:Ok l)(d:a<b)(h0:0<=a)(j:b<18446744073709551616):
  Ok (Bk l a b)/\(∀n,mem (Bk l a b) n↔mem l n∨(a<=n/\n<b))/\CK (Bk l a b)=CK l-cnt l a b+(b-a):=by
 obtain⟨h1,C,v⟩:=PV (EK h d) d h0 j (N6 h d);refine⟨h1,fun n=> ?_,by rw[Bk,v,N3 h d]⟩;rw[Bk,C,B7 d];constructor
 ·rintro(⟨h,_⟩|h)
  ·exact .inl h
  ·exact .inr h
 ·rintro(h|h)
  ·by_cases hn:a<=n/\n<b
   ·exact .inr hn
   ·exact .inl ⟨h,hn⟩
  ·exact .inr h
end Go.Sh
set_option linter.all false
set_option maxRecDepth 4000
namespace Go.Sh
theorem N7{α:Type}{l:List α}{k:Nat}{x:α}(h:l[k]? =some x):l.drop k=x::l.drop (k+1):=by
 obtain⟨d,rfl⟩:=List.getElem?_eq_some_iff.1 h;exact List.drop_eq_getElem_cons d
theorem XF{p:Int×Int}{a m b:Int}(hp:p.1<p.2)(h1:a<=m)(d:m<=b):Jc p a b=Jc p a m+Jc p m b:=by
 unfold Jc;omega
theorem IB: ∀{l:Iv},(∀p∈l,p.1<p.2)-> ∀{a m b:Int},a<=m->m<=b->cnt l a b=cnt l a m+cnt l m b
 | [],_,a,m,b,_,_=>rfl
 | p::r,h,a,m,b,h1,h2=>by
  simp only[cnt];rw[IB (fun q d=>h q (List.mem_cons_of_mem _ d)) h1 h2,XF (h p List.mem_cons_self) h1 h2];omega
theorem NW: ∀{l:Iv},(∀p∈l,p.1<p.2)-> ∀{a:Int},0<cnt l a (a+1)↔mem l a
 | [],_,a=>by simp[cnt,mem]
 | p::r,h,a=>by
  have j:=NW (l:=r) (fun q d=>h q (List.mem_cons_of_mem _ d)) (a:=a);have h0:=B1 r a (a+1);have hp:=h p List.mem_cons_self;rw[mem_cons,<-j];simp only[cnt];unfold Jc;omega
theorem Ci{l:Iv}(h:Ok l){a b:Int}(J:a<=b):cnt l a b=b-a↔ ∀n,a<=n->n<b->mem l n:=by
 have v: ∀p∈l,p.1<p.2:=fun p hp=>(h.mem hp).2.1;obtain⟨k,Y⟩: ∃k:Nat,b=a+k:=⟨(b-a).toNat,by omega⟩;subst Y
 induction k with
 | zero=>
  have h1:=DY h (a:=a) (b:=a+(0:Nat)) J;have K:=B1 l a (a+(0:Nat));constructor
  ·intro _ n h1 K;omega
  ·intro _;omega
 | succ k C=>
  have C:=C (by omega);have e:=IB v (a:=a) (m:=a+(k:Nat)) (b:=a+((k+1:Nat):Int)) (by omega) (by omega);have h1:=DY h (a:=a) (b:=a+(k:Nat)) (by omega);have K:=DY h (a:=a+(k:Nat)) (b:=a+(k:Nat)+1) (by omega);have j:=NW v (a:=a+(k:Nat));have T:a+((k+1:Nat):Int)=a+(k:Nat)+1:=by omega
  rw[T]at e⊢;constructor
  ·intro he n N O;by_cases hn:n=a+(k:Nat)
   ·subst hn;exact j.1 (by omega)
   ·exact C.1 (by omega) n N (by omega)
  ·intro d;have:=C.2 fun n h1 K=>d n h1 (by omega);have:=j.2 (d _ (by omega) (by omega));omega
end Go.Sh
set_option linter.all false
namespace Go.Sh
theorem Ok.TR{l:Iv}(h:Ok l): ∀p∈l,p.1<p.2:=fun p hp=>(h.mem hp).2.1
theorem CU{l:Iv}(h:Ok l){a b:Int}(C:a<=b):cnt l a b=0↔ ∀n,a<=n->n<b-> ¬mem l n:=by
 obtain⟨k,T⟩: ∃k:Nat,b=a+k:=⟨(b-a).toNat,by omega⟩;subst T
 induction k with
 | zero=>
  have h1:=DY h (a:=a) (b:=a+(0:Nat)) C;have J:=B1 l a (a+(0:Nat));exact⟨fun _ n h1 J=>by omega,fun _=>by omega⟩
 | succ k v=>
  have v:=v (by omega);have e:=IB h.TR (a:=a) (m:=a+(k:Nat)) (b:=a+((k+1:Nat):Int)) (by omega) (by omega);have h1:=B1 l a (a+(k:Nat));have J:=B1 l (a+(k:Nat)) (a+(k:Nat)+1);have j:=NW h.TR (a:=a+(k:Nat));have O:a+((k+1:Nat):Int)=a+(k:Nat)+1:=by omega
  rw[O]at e⊢;constructor
  ·intro he n K N hm;by_cases hn:n=a+(k:Nat)
   ·subst hn;have:=j.2 hm;omega
   ·exact v.1 (by omega) n K (by omega) hm
  ·intro d;have:=v.2 fun n h1 J=>d n h1 (by omega);have: ¬0<cnt l (a+(k:Nat)) (a+(k:Nat)+1):=fun hp=>d _ (by omega) (by omega) (j.1 hp);omega
theorem Bo{l:Iv}(h:Ok l){a b:Int}(d:a<b)(h0:0<=a)(j:b<18446744073709551616)(n:Int):mem (Bk l a b) n↔mem l n∨(a<=n/\n<b):=
 (CQ h d h0 j).2.1 n
theorem LS{l:Iv}(h:Ok l){n:Int}(hm:mem l n):0<=n:=by
 obtain⟨p,hp,h1,d⟩:=hm;have:=(h.mem hp).1;omega
theorem NX{l:Iv}(h:Ok l): ∀{a b:Int},a<b->(∀n,a<=n->n<b->mem l n)-> ∃q∈l,q.1<=a/\b<=q.2:=by
 induction l with
 | nil=>intro a b d hm;exact absurd (hm a (Int.le_refl _) d) (Ar _)
 | cons p r ih=>
  intro a b d hm;by_cases h1:p.1<=a/\a<p.2
  ·by_cases h2:b<=p.2
   ·exact⟨p,List.mem_cons_self,h1.1,h2⟩
   ·have j:=hm p.2 (by omega) (by omega);rcases mem_cons.1 j with v|⟨q,j,v,N⟩
    ·omega
    ·have:=h.2.2.2.1 q j;omega
  ·have K: ∀n,a<=n->n<b->mem r n:=by
    intro n J C;rcases mem_cons.1 (hm n J C)with v|v
    ·exfalso;have O:=hm a (Int.le_refl _) d;rcases mem_cons.1 O with N|⟨q,j,N,T⟩
     ·exact h1 N
     ·have:=h.2.2.2.1 q j;omega
    ·exact v
   obtain⟨q,j,v⟩:=ih h.tail d K;exact⟨q,List.mem_cons_of_mem _ j,v⟩
theorem XG: ∀{l m:Iv},Ok l->Ok m->(∀n,mem l n↔mem m n)->l=m
 | [],[],_,_,_=>rfl
 | [],q::m,_,hm,h=>absurd ((h q.1).2 (mem_cons.2 (.inl ⟨by omega,hm.2.1⟩))) (Ar _)
 | p::l,[],j,_,h=>absurd ((h p.1).1 (mem_cons.2 (.inl ⟨by omega,j.2.1⟩))) (Ar _)
 | p::l,q::m,j,hm,h=>by
  have first: ∀{p q:Int×Int} {l m:Iv},Ok (p::l)->Ok (q::m)->(∀n,mem (p::l) n->mem (q::m) n)->q.1<=p.1/\(p.1<=q.1->p.2<=q.2):=by
   intro p q l m j hm h;constructor
   ·rcases mem_cons.1 (h p.1 (mem_cons.2 (.inl ⟨by omega,j.2.1⟩)))with h1|⟨r,d,h1,v⟩
    ·exact h1.1
    ·have:=hm.2.2.2.1 r d;have:=hm.2.1;omega
   ·intro hle;obtain⟨r,d,h1,v⟩:=NX hm (a:=p.1) (b:=p.2) j.2.1 fun n h1 v=>h n (mem_cons.2 (.inl ⟨h1,v⟩));rcases List.mem_cons.1 d with rfl|d
    ·exact v
    ·have:=hm.2.2.2.1 r d;have:=hm.2.1;omega
  have h1:=first j hm fun n=>(h n).1
  have v:=first hm j fun n=>(h n).2
  have O:p.1=q.1:=by omega
  have T:p.2=q.2:=by have:=h1.2 (by omega);have:=v.2 (by omega);omega
  have e:p=q:=Prod.ext O T;subst e;rw[XG j.tail hm.tail];intro n;have K:=h n;rw[mem_cons,mem_cons]at K;constructor
  ·rintro⟨r,d,J,N⟩;rcases K.1 (.inr ⟨r,d,J,N⟩)with C|C
   ·have:=j.2.2.2.1 r d;omega
   ·exact C
  ·rintro⟨r,d,J,N⟩;rcases K.2 (.inr ⟨r,d,J,N⟩)with C|C
   ·have:=hm.2.2.2.1 r d;omega
   ·exact C
theorem F9{l:Iv}(h:Ok l){a k:Int}(j:a<=k):(mem l k->cnt l a (k+1)=cnt l a k+1)/\(¬mem l k->cnt l a (k+1)=cnt l a k):=by
 have h1:=IB (Ok.TR h) j (show k<=k+1 by omega);have d:=NW (Ok.TR h) (a:=k);have v:=DY h (show k<=k+1 by omega);have C:=B1 l k (k+1);constructor
 ·intro hm;have:=d.2 hm;omega
 ·intro hm;have: ¬0<cnt l k (k+1):=fun e=>hm (d.1 e);omega
theorem IC: ∀{l:Iv},(∀p∈l,p.1<p.2)-> ∀{a b:Int},(∀n,mem l n->a<=n/\n<b)->cnt l a b=CK l
 | [],_,a,b,_=>rfl
 | p::r,h,a,b,hin=>by
  have hp:=h p List.mem_cons_self;have h1:=hin p.1 (mem_cons.2 (.inl ⟨by omega,hp⟩));have C:=hin (p.2-1) (mem_cons.2 (.inl ⟨by omega,by omega⟩));have v:=IC (l:=r) (fun q d=>h q (List.mem_cons_of_mem _ d)) (a:=a) (b:=b) fun n j=>hin n (mem_cons.2 (.inr j));simp only[cnt,CK,Jc,v];omega
end Go.Sh
set_option linter.all false
namespace Go.Sh
def aget:List (Int×Value)->Int->Option Value
 | [],_=>none
 | p::r,n=>if p.1=n then some p.2 else aget r n
structure MapI(k:IntKind)(es:Array MapEntry)(clock:Nat)(m:List (Int×Value)):Prop where
 keys:es.toList.map (fun e=>(e.key,e.val))=m.map (fun p=>(Value.int k p.1,p.2))
 nodup:(m.map (·.1)).Nodup
 born:(es.toList.map (·.born)).Nodup
 lt: ∀e∈es.toList,e.born<clock
theorem MapI.empty(k:IntKind):MapI k #[] 0 []:=⟨rfl,by simp,by simp,by simp⟩
theorem Ri(k:IntKind)(a b:Int):Instr.sameNow (.int k) (.int k a) (.int k b)=some (a==b):=by simp[Instr.sameNow]
theorem LU(k:IntKind)(n:Int): ∀(es:List MapEntry) (m:List (Int×Value)) (i:Nat),es.map (fun e=>(e.key,e.val))=m.map (fun p=>(Value.int k p.1,p.2))->
  ∃res,Instr.findNow (.int k) (.int k n) es i=some res/\
   ((res=none/\aget m n=none)∨ ∃j v,res=some (i+j,v)/\aget m n=some v/\m[j]? =some (n,v)/\j<es.length)
 | [],[],i,_=>⟨none,rfl,.inl ⟨rfl,rfl⟩⟩
 | [],_::_,i,h=>by simp at h
 | _::_,[],i,h=>by simp at h
 | e::r,p::m,i,h=>by
  simp only[List.map_cons,List.cons.injEq,Prod.mk.injEq]at h;obtain⟨⟨T,O⟩,K⟩:=h;simp only[Instr.findNow,T,Ri];by_cases hn:n=p.1
  ·subst hn;simp only[beq_self_eq_true];refine⟨_,rfl,.inr ⟨0,p.2,by simp[O],by simp[aget],by simp,by simp⟩⟩
  ·have:(n==p.1)=false:=by simp[hn]
   simp only[this];obtain⟨res,h1,N⟩:=LU k n r m (i+1) K;refine⟨res,h1,?_⟩;rcases N with ⟨d,C⟩|⟨j,v,d,C,J,Y⟩
   ·exact .inl ⟨d,by simp[aget,Ne.symm hn,C]⟩
   ·refine .inr ⟨j+1,v,by rw[d];congr 2;omega,by simp[aget,Ne.symm hn,C],by simpa using J,by simp;omega⟩
theorem MapI.find{k:IntKind}{es:Array MapEntry}{c:Nat}{m:List (Int×Value)}(h:MapI k es c m)(n:Int):
  ∃res,JD k n es res/\((res=none/\aget m n=none)∨ ∃j v,res=some (j,v)/\aget m n=some v/\m[j]? =some (n,v)/\j<es.size):=by
 obtain⟨res,h1,d⟩:=LU k n es.toList m 0 h.keys;refine⟨res,h1,?_⟩;rcases d with d|⟨j,v,J,N,C,K⟩
 ·exact .inl d
 ·exact .inr ⟨j,v,by simpa using J,N,C,by simpa using K⟩
theorem PW{k:IntKind}{n:Int}{b:Nat}{w:World}{z:Value}{K:Value->Bool->Array MapEntry->Prop}{es:Array MapEntry}{c:Nat}{m:List (Int×Value)}
  (J:w.heap[b]? =some (.map es c))(h:MapI k es c m)(d:K ((aget m n).getD z) (aget m n).isSome es):mP k n (some b) w z K:=by
 obtain⟨res,h1,N⟩:=h.find n;refine⟨es,res,⟨c,J⟩,h1,?_⟩;rcases N with ⟨rfl,C⟩|⟨j,v,rfl,C,_⟩
 ·rw[C]at d;exact d
 ·rw[C]at d;exact d
theorem IZ{m:List (Int×Value)}{n:Int}{q:List (Int×Value)}(h:aget m n=none):aget (m++q) n=aget q n:=by
 induction m with
 | nil=>rfl
 | cons p r ih=>
  simp only[aget]at h;split at h
  ·cases h
  ·rename_i hp;simp[aget,hp,ih h]
theorem Kf{m:List (Int×Value)}{n:Int}:aget m n=none↔n∉m.map (·.1):=by
 induction m with
 | nil=>simp[aget]
 | cons p r ih=>
  simp only[aget,List.map_cons,List.mem_cons,not_or];split
  ·rename_i h;simp[h]
  ·rename_i h;rw[ih];exact⟨fun d=>⟨fun e=>h e.symm,d⟩,fun d=>d.2⟩
theorem MO{m q:List (Int×Value)}{n:Int}{v:Value}(h:aget m n=some v):aget (m++q) n=some v:=by
 induction m with
 | nil=>cases h
 | cons p r ih=>
  simp only[aget]at h;by_cases hp:p.1=n
  ·rw[if_pos hp]at h;simp[aget,hp,h]
  ·rw[if_neg hp]at h;simp[aget,hp,ih h]
theorem XH{m:List (Int×Value)}{n:Int}{v:Value}{j:Nat}{u:Value}(d:m[j]? =some (n,u))(J:(m.map (·.1)).Nodup):
  (∀i,aget (m.set j (n,v)) i=if i=n then some v else aget m i)/\(m.set j (n,v)).map (·.1)=m.map (·.1):=by
 induction m generalizing j with
 | nil=>simp at d
 | cons p r ih=>
  cases j with
  | zero=>
   simp at d;subst d;refine⟨fun i=> ?_,by simp⟩;simp only[List.set_cons_zero,aget];by_cases h:n=i
   ·simp[h]
   ·simp[h,Ne.symm h]
  | succ j=>
   simp only[List.map_cons,List.nodup_cons]at J;obtain⟨h1,N⟩:=ih (by simpa using d) J.2;have C:n∈r.map (·.1):=List.mem_map.2 ⟨_,List.mem_of_getElem? (by simpa using d),rfl⟩;have K:p.1≠n:=fun e=>J.1 (e▸C);refine⟨fun i=> ?_,by simp only[List.set_cons_succ,List.map_cons,N]⟩;simp only[List.set_cons_succ,aget,h1];by_cases h:p.1=i
   ·simp only[h,if_true];rw[if_neg];intro e;exact K (h.trans e)
   ·simp[h]
theorem MapI.put{k:IntKind}{es:Array MapEntry}{c:Nat}{m:List (Int×Value)}(h:MapI k es c m)(n:Int)(v:Value){res:Option (Nat×Value)}(hf:JD k n es res):
  ∃K c' m',mapPut es c (.int k n) v res= .map K c'/\MapI k K c' m'/\(∀i,aget m' i=if i=n then some v else aget m i)/\m'.length<=m.length+1/\
   (aget m n=none->m'.length=m.length+1)/\(aget m n≠none->m'.length=m.length):=by
 obtain⟨C,h1,h2⟩:=h.find n;have:C=res:=by unfold JD at h1 hf;rw[h1]at hf;exact Option.some.inj hf
 subst this;rcases h2 with ⟨rfl,d⟩|⟨j,u,rfl,d,Y,h5⟩
 ·refine⟨_,_,m++[(n,v)],rfl,⟨?_,?_,?_,?_⟩,fun i=> ?_,by simp,by simp,fun h=>absurd d h⟩
  ·simp[h.keys]
  ·rw[List.map_append,List.nodup_append];refine⟨h.nodup,by simp,fun a O b N=> ?_⟩;simp at N;subst N;intro e;subst e;exact Kf.1 d O
  ·simp only[Array.toList_push,List.map_append,List.nodup_append];refine⟨h.born,by simp,fun a O b N=> ?_⟩;simp at N;obtain⟨e,he,rfl⟩:=List.mem_map.1 O;have:=h.lt e he;omega
  ·intro e he;simp only[Array.toList_push,List.mem_append,List.mem_singleton]at he;rcases he with he|rfl
   ·have:=h.lt e he;omega
   ·simp
  ·by_cases J:i=n
   ·subst J;rw[if_pos rfl,IZ d];simp[aget]
   ·rw[if_neg J];cases hg:aget m i with
    | none=>rw[IZ hg];simp[aget,Ne.symm J]
    | some u=>exact MO hg
 ·obtain⟨g1,g2⟩:=XH (v:=v) Y h.nodup;refine⟨_,_,m.set j (n,v),rfl,⟨?_,by rw[g2];exact h.nodup,?_,?_⟩,g1,by simp,(fun h=>by rw[d]at h;cases h),fun _=>by simp⟩
  ·apply List.ext_getElem?;intro i;have hk:=congrArg (fun l=>l[i]?) h.keys;simp only[List.getElem?_map,Array.getElem?_toList]at hk⊢;simp only[Array.getElem?_modify,List.getElem?_set];by_cases hij:j=i
   ·subst hij;have T:j<m.length:=by have:=(List.getElem?_eq_some_iff.1 Y).1;exact this
    simp[Array.getElem?_eq_getElem h5,T]
   ·simp only[hij,if_false];exact hk
  ·have:(es.modify j fun e=>{e with key:=.int k n,val:=v}).toList.map (·.born)=es.toList.map (·.born):=by
    apply List.ext_getElem?;intro i;simp only[List.getElem?_map,Array.getElem?_toList,Array.getElem?_modify];split
    ·cases es[i]? <;>simp
    ·rfl
   rw[this];exact h.born
  ·intro e he;obtain⟨i,J,rfl⟩:=List.mem_iff_getElem.1 he;simp only[Array.getElem_toList,Array.getElem_modify];have aE:i<es.size:=by simpa using J
   split
   ·exact h.lt es[i] (by simp)
   ·exact h.lt es[i] (by simp)
theorem N8{k:IntKind}{n:Int}{v:Value}{b:Nat}{w:World}{K:World->Prop}{es:Array MapEntry}{c:Nat}{m:List (Int×Value)}
  (J:w.heap[b]? =some (.map es c))(h:MapI k es c m)
  (O: ∀w' d j m',w'.heap[b]? =some (.map d j)->MapI k d j m'->(∀i,aget m' i=if i=n then some v else aget m i)->m'.length<=m.length+1->
   (aget m n=none->m'.length=m.length+1)->(aget m n≠none->m'.length=m.length)->Ext (Gr b) w w'->w'.heap.size=w.heap.size->K w'):QK k n v (some b) w K:=by
 obtain⟨res,h1,_⟩:=h.find n;refine⟨b,es,c,res,rfl,J,h1,?_⟩;obtain⟨d,j,m',Y,T,h4,N,h6,h7⟩:=h.put n v h1;rw[Y];have C:=Ff J;exact O _ d j m' (by simp[World.Gm,C]) T h4 N h6 h7 (Ext.Gm w b _) (by simp[World.Gm])
theorem Fh{α β:Type}(f:α->β): ∀(l:List α) (j:Nat),(l.eraseIdx j).map f=(l.map f).eraseIdx j
 | [],j=>by simp
 | x::r,0=>by simp
 | x::r,j+1=>by simp[Fh f r j]
theorem TS{m:List (Int×Value)}{n:Int}{j:Nat}{u:Value}(v:m[j]? =some (n,u))(d:(m.map (·.1)).Nodup):
  (∀i,aget (m.eraseIdx j) i=if i=n then none else aget m i)/\((m.eraseIdx j).map (·.1)).Nodup:=by
 refine⟨?_,?_⟩
 ·induction m generalizing j with
  | nil=>simp at v
  | cons p r ih=>
   simp only[List.map_cons,List.nodup_cons]at d;cases j with
   | zero=>
    simp at v;subst v;intro i;simp only[List.eraseIdx_cons_zero,aget];by_cases h:n=i
    ·subst h;simp;exact Kf.2 d.1
    ·simp[h,Ne.symm h]
   | succ j=>
    have C:n∈r.map (·.1):=List.mem_map.2 ⟨_,List.mem_of_getElem? (by simpa using v),rfl⟩;have J:p.1≠n:=fun e=>d.1 (e▸C);intro i;simp only[List.eraseIdx_cons_succ,aget];rw[ih (by simpa using v) d.2 i];by_cases h:p.1=i
    ·simp only[h,if_true];rw[if_neg];intro e;exact J (h.trans e)
    ·simp[h]
 ·rw[Fh];exact d.sublist (List.eraseIdx_sublist _ _)
theorem MapI.del{k:IntKind}{es:Array MapEntry}{c:Nat}{m:List (Int×Value)}(h:MapI k es c m)(n:Int){res:Option (Nat×Value)}(hf:JD k n es res):
  ∃d m',QJ es c res= .map d c/\MapI k d c m'/\(∀i,aget m' i=if i=n then none else aget m i)/\m'.length<=m.length/\d.toList.Sublist es.toList/\
   (∀e∈es.toList,e.key≠ .int k n->e∈d.toList):=by
 obtain⟨v,h1,T⟩:=h.find n;have:v=res:=by unfold JD at h1 hf;rw[h1]at hf;exact Option.some.inj hf
 subst this;rcases T with ⟨rfl,K⟩|⟨j,u,rfl,K,N,h5⟩
 ·refine⟨es,m,rfl,h,fun i=> ?_,Nat.le_refl _,List.Sublist.refl _,fun _ h _=>h⟩;by_cases C:i=n
  ·subst C;simp[K]
  ·simp[C]
 ·obtain⟨g1,O⟩:=TS N h.nodup;have he:(es.eraseIdxIfInBounds j).toList=es.toList.eraseIdx j:=by simp
  refine⟨_,m.eraseIdx j,rfl,⟨?_,O,?_,?_⟩,g1,List.length_eraseIdx_le _ _,?_,?_⟩
  ·rw[he,Fh,Fh,h.keys]
  ·rw[he,Fh];exact h.born.sublist (List.eraseIdx_sublist _ _)
  ·intro e hm;rw[he]at hm;exact h.lt e (List.mem_of_mem_eraseIdx hm)
  ·rw[he];exact List.eraseIdx_sublist _ _
  ·intro e hm Y;rw[he,List.mem_eraseIdx_iff_getElem?];obtain⟨i,C⟩:=List.mem_iff_getElem?.1 hm;refine⟨i,?_,C⟩;intro e2;subst e2;have J:=congrArg (fun l=>l[i]?) h.keys;simp only[List.getElem?_map,C,N,Option.map_some,Option.some.injEq,Prod.mk.injEq]at J;exact Y J.1
theorem Kx{k:IntKind}{n:Int}{b:Nat}{w:World}{K:World->Prop}{es:Array MapEntry}{c:Nat}{m:List (Int×Value)}
  (v:w.heap[b]? =some (.map es c))(h:MapI k es c m)
  (J: ∀w' d m',w'.heap[b]? =some (.map d c)->MapI k d c m'->(∀i,aget m' i=if i=n then none else aget m i)->m'.length<=m.length->d.toList.Sublist es.toList->
   (∀e∈es.toList,e.key≠ .int k n->e∈d.toList)->Ext (Gr b) w w'->w'.heap.size=w.heap.size->K w'):MDEL k n (some b) w K:=by
 obtain⟨res,h1,_⟩:=h.find n;refine⟨es,c,res,v,h1,?_⟩;obtain⟨d,m',O,N,Y,C,T,h7⟩:=h.del n h1;rw[O];have j:=Ff v;exact J _ d m' (by simp[World.Gm,j]) N Y C T h7 (Ext.Gm w b _) (by simp[World.Gm])
theorem MapI.Ul{k:IntKind}{es:Array MapEntry}{c:Nat}{m:List (Int×Value)}(h:MapI k es c m){e:MapEntry}(he:e∈es.toList):
  ∃n,e.key= .int k n/\aget m n=some e.val:=by
 obtain⟨i,j⟩:=List.mem_iff_getElem?.1 he;have d:=congrArg (fun l=>l[i]?) h.keys;simp only[List.getElem?_map,j,Option.map_some]at d;cases hm:m[i]? with
 | none=>rw[hm]at d;cases d
 | some p=>
  rw[hm]at d;simp only[Option.map_some,Option.some.injEq,Prod.mk.injEq]at d;refine⟨p.1,d.1,?_⟩;have: ∀(m:List (Int×Value)) (i:Nat),(m.map (·.1)).Nodup->m[i]? =some p->aget m p.1=some p.2:=by
   intro m
   induction m with
   | nil=>intro i _ h;simp at h
   | cons q r ih=>
    intro i C j;simp only[List.map_cons,List.nodup_cons]at C;cases i with
    | zero=>simp at j;subst j;simp[aget]
    | succ i=>
     have v:p.1∈r.map (·.1):=List.mem_map.2 ⟨_,List.mem_of_getElem? (by simpa using j),rfl⟩;have J:q.1≠p.1:=fun e=>C.1 (e▸v);simp[aget,J,ih i C.2 (by simpa using j)]
  rw[this m i h.nodup hm,d.2]
theorem MapI.Yz{k:IntKind}{es:Array MapEntry}{c:Nat}{m:List (Int×Value)}(h:MapI k es c m){n:Int}{v:Value}(d:aget m n=some v):
  ∃e∈es.toList,e.key= .int k n/\e.val=v:=by
 obtain⟨res,h1,J⟩:=h.find n;rcases J with ⟨_,C⟩|⟨j,u,rfl,C,T,O⟩
 ·rw[C]at d;cases d
 ·rw[C]at d;cases d;obtain⟨e,he,N,K⟩:=Ip k n es.toList 0 j _ h1;exact⟨e,List.mem_of_getElem? (by simpa using he),N,K⟩
end Go.Sh
set_option linter.all false
namespace Go.Sh
def LW(s:AZ):Nat->Prop:=fun k=> ∃a,s.base=some a/\k=a.block
structure Pr where
 holds:(Nat->Prop)->World->Prop
 loc: ∀{D:Nat->Prop} {w w':World} {S:Nat->Prop},holds D w->Ext S w w'->(∀k,D k-> ¬S k)->holds D w'
 lt: ∀{D:Nat->Prop} {w:World} {k:Nat},holds D w->D k->k<w.heap.size
def IQ:List Pr->(Nat->Prop)->World->Prop
 | [],D,_=> ∀k,¬D k
 | P::Ps,D,w=> ∃d j,P.holds d w/\IQ Ps j w/\(∀k,d k-> ¬j k)/\ ∀k,D k↔d k∨j k
def Sat(Ps:List Pr)(w:World):Prop:= ∃D,IQ Ps D w
theorem IQ.loc: ∀{Ps:List Pr} {D:Nat->Prop} {w w':World} {S:Nat->Prop},IQ Ps D w->Ext S w w'->(∀k,D k-> ¬S k)->IQ Ps D w'
 | [],_,_,_,_,h,_,_=>h
 | P::Ps,D,w,w',S,⟨D1,D2,h1,h2,hd,hD⟩,he,hS=>⟨D1,D2,P.loc h1 he fun k d=>hS k ((hD k).2 (.inl d)),h2.loc he fun k d=>hS k ((hD k).2 (.inr d)),hd,hD⟩
theorem IQ.lt: ∀{Ps:List Pr} {D:Nat->Prop} {w:World} {k:Nat},IQ Ps D w->D k->k<w.heap.size
 | [],_,_,_,h,d=>(h _ d).elim
 | P::Ps,D,w,k,⟨D1,D2,h1,h2,hd,j⟩,d=>by
  rcases(j k).1 d with h|h
  ·exact P.lt h1 h
  ·exact h2.lt h
theorem IQ.append: ∀{Ps Y:List Pr} {D:Nat->Prop} {w:World},IQ (Ps++Y) D w↔ ∃v j,IQ Ps v w/\IQ Y j w/\(∀k,v k-> ¬j k)/\ ∀k,D k↔v k∨j k
 | [],Y,D,w=>by
  constructor
  ·intro h;exact⟨fun _=>False,D,fun _ f=>f,h,fun _ f=>f.elim,fun k=>by simp⟩
  ·rintro⟨v,j,h1,K,_,C⟩;have:D=j:=by
    funext k;have:=C k;simp[h1 k]at this;exact propext this
   subst this;exact K
 | P::Ps,Y,D,w=>by
  constructor
  ·rintro⟨v,j,h1,K,hd,C⟩;obtain⟨T,N,g1,g2,O,J⟩:=IQ.append.1 K;refine⟨fun k=>v k∨T k,N,⟨v,T,h1,g1,fun k d he=>hd k d ((J k).2 (.inl he)),fun k=>Iff.rfl⟩,g2,?_,?_⟩
   ·rintro k (d|d) he
    ·exact hd k d ((J k).2 (.inr he))
    ·exact O k d he
   ·intro k;rw[C k,J k,or_assoc]
  ·rintro⟨v,j,⟨T,N,h1,K,hd,C⟩,g2,O,J⟩;refine⟨T,fun k=>N k∨j k,h1,IQ.append.2 ⟨N,j,K,g2,fun k d=>O k ((C k).2 (.inr d)),fun k=>Iff.rfl⟩,?_,?_⟩
   ·rintro k d (he|he)
    ·exact hd k d he
    ·exact O k ((C k).2 (.inl d)) he
   ·intro k;rw[J k,C k,or_assoc]
theorem IQ.perm{Ps O:List Pr}(h:Ps.Perm O): ∀{D:Nat->Prop} {w:World},IQ Ps D w->IQ O D w:=by
 induction h with
 | nil=>exact fun h=>h
 | cons P _ ih=>
  rintro D w ⟨d,J,h1,Y,v⟩;exact⟨d,J,h1,ih Y,v⟩
 | swap P Q l=>
  rintro D w ⟨d,J,h1,⟨D3,K,v,h4,hd,C⟩,N,T⟩;refine⟨D3,fun k=>d k∨K k,v,⟨d,K,h1,h4,fun k j he=>N k j ((C k).2 (.inr he)),fun k=>Iff.rfl⟩,?_,?_⟩
  ·rintro k j (he|he)
   ·exact N k he ((C k).2 (.inl j))
   ·exact hd k j he
  ·intro k;rw[T k,C k];constructor
   ·rintro(h|h|h)
    ·exact .inr (.inl h)
    ·exact .inl h
    ·exact .inr (.inr h)
   ·rintro(h|h|h)
    ·exact .inr (.inl h)
    ·exact .inl h
    ·exact .inr (.inr h)
 | trans _ _ ih1 ih2=>exact fun h=>ih2 (ih1 h)
theorem Sat.perm{Ps d:List Pr}{w:World}(h:Sat Ps w)(hp:Ps.Perm d):Sat d w:=let⟨D,h⟩:=h;⟨D,h.perm hp⟩
theorem DD{α:Type}: ∀{l:List α} {i:Nat} {x:α},l[i]? =some x->l.Perm (x::l.eraseIdx i)
 | [],i,x,h=>by simp at h
 | y::l,0,x,h=>by simp at h;subst h;exact .refl _
 | y::l,i+1,x,h=>by
  have:=DD (l:=l) (i:=i) (x:=x) (by simpa using h);exact(this.cons y).trans (.swap x y _)
theorem MP{α:Type}: ∀{l:List α} {i:Nat} {x:α},i<l.length->(x::l.eraseIdx i).Perm (l.set i x)
 | [],i,x,h=>by simp at h
 | y::l,0,x,h=>.refl _
 | y::l,i+1,x,h=>by
  have:=MP (l:=l) (i:=i) (x:=x) (by simpa using h);exact(List.Perm.swap y x _).trans (this.cons y)
section
variable{Ps F:List Pr}{P P':Pr}{w w':World}
theorem Sat.front(i:Nat)(H:Sat Ps w)(d:Ps[i]? =some P):Sat (P::Ps.eraseIdx i) w:=H.perm (DD d)
theorem Sat.back(i:Nat)(H:Sat (P'::Ps.eraseIdx i) w)(d:i<Ps.length:=by simp):Sat (Ps.set i P') w:=H.perm (MP d)
theorem Sat.nothing(H:Sat Ps w)(he:Ext AK w w'):Sat Ps w':=let⟨D,h⟩:=H;⟨D,h.loc he fun _ _ f=>f⟩
theorem Sat.drew(H:Sat Ps w):Sat Ps w.drew:=H.nothing (Ext.drew _ w)
theorem Sat.tail(H:Sat (P::F) w):Sat F w:=let⟨_,_,D2,_,h,_⟩:=H;⟨D2,h⟩
theorem Sat.head(H:Sat (P::F) w): ∃D,P.holds D w:=let⟨_,D1,_,h,_⟩:=H;⟨D1,h⟩
theorem Sat.step(H:Sat (P::F) w): ∃D,P.holds D w/\ ∀w' d P',Ext D w w'->P'.holds d w'->(∀k,d k->D k∨w.heap.size<=k)->Sat (P'::F) w':=by
 obtain⟨D,T,K,h1,C,J,Y⟩:=H;refine⟨T,h1,fun w' d P' he O N=>⟨_,d,K,O,C.loc he fun k j h=>J k h j,fun k j h=> ?_,fun k=>Iff.rfl⟩⟩;rcases N k j with v|v
 ·exact J k v h
 ·have:=C.lt h;omega
theorem Sat.new(H:Sat F w){D:Nat->Prop}(he:Ext AK w w')(v:P.holds D w')(j: ∀k,D k->w.heap.size<=k):Sat (P::F) w':=by
 obtain⟨C,d⟩:=H;refine⟨_,D,C,v,d.loc he fun _ _ f=>f,fun k J h=> ?_,fun k=>Iff.rfl⟩;have h1:=j k J;have:=d.lt h;omega
end
def Old(w0:World):Pr where
 holds D w:=(∀k,D k↔k<w0.heap.size)/\Ext AK w0 w
 loc h he hS:=⟨h.1,h.2.trans he (fun _ _ f=>f) fun i d hs=>hS i ((h.1 i).2 d) hs⟩
 lt h hk:=by have h1:=(h.1 _).1 hk;have:=h.2.size;omega
theorem Sat.start(w:World):Sat [Old w] w:=⟨_,fun k=>k<w.heap.size,fun _=>False,⟨fun _=>Iff.rfl,Ext.refl _ _⟩,fun _ f=>f,fun _ _ f=>f,fun _=>Iff.rfl⟩
theorem Sat.JT{Ps:List Pr}{w w0:World}(i:Nat)(H:Sat Ps w)(d:Ps[i]? =some (Old w0)):Ext AK w0 w:=let⟨_,h⟩:=(H.front i d).head;h.2
def N9(d:List Pr):Pr where
 holds D w:=IQ d D w
 loc:=IQ.loc
 lt:=IQ.lt
def Ex{α:Type}(P:α->Pr):Pr where
 holds D w:= ∃x,(P x).holds D w
 loc h he hS:=let⟨x,h⟩:=h;⟨x,(P x).loc h he hS⟩
 lt h hk:=let⟨x,h⟩:=h;(P x).lt h hk
def ID(p:Prop)(P:Pr):Pr where
 holds D w:=p/\P.holds D w
 loc h he hS:=⟨h.1,P.loc h.2 he hS⟩
 lt h hk:=P.lt h.2 hk
theorem Sat.star{J F:List Pr}{w:World}:Sat (N9 J::F) w↔Sat (J++F) w:=by
 constructor
 ·rintro⟨D,j,v,h1,d,C⟩;exact⟨D,IQ.append.2 ⟨j,v,h1,d,C⟩⟩
 ·rintro⟨D,h⟩;obtain⟨j,v,h1,d,C⟩:=IQ.append.1 h;exact⟨D,j,v,h1,d,C⟩
theorem Sat.ex{α:Type}{P:α->Pr}{F:List Pr}{w:World}:Sat (Ex P::F) w↔ ∃x,Sat (P x::F) w:=by
 constructor
 ·rintro⟨D,d,j,⟨x,h1⟩,C,v⟩;exact⟨x,D,d,j,h1,C,v⟩
 ·rintro⟨x,D,d,j,h1,C,v⟩;exact⟨D,d,j,⟨x,h1⟩,C,v⟩
theorem Sat.where{p:Prop}{P:Pr}{F:List Pr}{w:World}:Sat (ID p P::F) w↔p/\Sat (P::F) w:=by
 constructor
 ·rintro⟨D,j,v,⟨x,h1⟩,d,C⟩;exact⟨x,D,j,v,h1,d,C⟩
 ·rintro⟨x,D,j,v,h1,d,C⟩;exact⟨D,j,v,⟨x,h1⟩,d,C⟩
def Cells(b t:Nat)(vs:List Value):Pr where
 holds D w:=(∀k,D k↔k=b)/\b<w.heap.size/\ ∀j v,vs[j]? =some v->w.cell? ⟨b,j,none⟩=some v/\w.frozen? ⟨b,j,none⟩=false
 loc h he hS:=⟨h.1,Nat.lt_of_lt_of_le h.2.1 he.size,fun j v d=>⟨he.cell (h.2.2 j v d).1 (hS _ ((h.1 _).2 rfl)),by
  rw[he.frozen (p:=⟨_,j,none⟩) h.2.1 (hS _ ((h.1 _).2 rfl))];exact(h.2.2 j v d).2⟩⟩
 lt h hk:=by have:=(h.1 _).1 hk;subst this;exact h.2.1
section
variable{Ps F:List Pr}{w w':World}{b t:Nat}{vs:List Value}
theorem Sat.BI(H:Sat (Cells b t vs::F) w){o:Nat}{v:Value}(d:vs[o]? =some v):w.cell? (Addr.mk b o none)=some v:=let⟨_,h⟩:=H.head;(h.2.2 o v d).1
theorem Sat.cell(H:Sat (Cells b t vs::F) w){o m:Nat}{v:Value}(d:vs[o+m]? =some v):w.cell? ((Addr.mk b o none).add m)=some v:=by
 rw[add_eq];exact H.BI d
theorem Sat.Yr(H:Sat (Cells b t vs::F) w){o:Nat}(d:o<vs.length):w.frozen? (Addr.mk b o none)=false:=let⟨_,h⟩:=H.head;(h.2.2 o _ (List.getElem?_eq_getElem d)).2
theorem OA{D:Nat->Prop}(C: ∀k,D k↔k=b)(h:w.heap[b]? =some (.cells ⟨vs⟩ t)):(Cells b t vs).holds D w:=
 ⟨C,Ff h,fun j v d=>⟨by rw[AO h];simpa using d,by simp[World.frozen?,h]⟩⟩
theorem Am(H:Sat F w){K:Nat->World->Prop}(d: ∀b w',Sat (Cells b t vs::F) w'->Ext AK w w'->K b w'):AL (.cells ⟨vs⟩ t) w K:=
 A7 fun w' j hs he=>d _ _ (H.new (P:=Cells w.heap.size t vs) (D:=fun k=>k=w.heap.size) he (OA (fun _=>Iff.rfl) j) fun k v=>by omega) he
theorem Sat.stored(H:Sat (Cells b t vs::F) w){o:Nat}(J:o<vs.length)(v:Value):Sat (Cells b t (vs.set o v)::F) (w.setCell ⟨b,o,none⟩ v):=by
 obtain⟨D,h,hs⟩:=H.step;have d:=Ja (v:=v) (h.2.2 o _ (List.getElem?_eq_getElem J)).1;refine hs _ D _ (d.ext.mono fun i _ N=>(h.1 i).2 N) ⟨h.1,by rw[d.size];exact h.2.1,fun j u C=> ?_⟩ fun k O=>.inl O;rw[d.frozen];rw[List.getElem?_set]at C;by_cases e:o=j
 ·subst e;rw[if_pos rfl,if_pos J]at C;cases C;exact⟨d.same,(h.2.2 o _ (List.getElem?_eq_getElem J)).2⟩
 ·rw[if_neg e]at C;rw[d.other _ (by intro K;injection K with _ K;exact e K.symm)];exact h.2.2 j u C
theorem Aj(H:Sat (Cells b t vs::F) w){o m:Nat}{v:Value}(j:v.oneCell'=true)(d:o+m<vs.length){K:World->Prop}(C: ∀w',Sat (Cells b t (vs.set (o+m) v)::F) w'->K w'):
  stCells ((Addr.mk b o none).add m) 0 [v] w K:=by
 simp only[stCells,add_zero,add_eq];exact⟨⟨⟨_,H.BI (List.getElem?_eq_getElem d)⟩,H.Yr d,j⟩,C _ (H.stored d v)⟩
theorem Gs(H:Sat (Cells b t vs::F) w){o:Nat}{v:Value}(d:v.oneCell'=true)(j:o<vs.length){K:World->Prop}(C: ∀w',Sat (Cells b t (vs.set o v)::F) w'->K w'):
  stCells (Addr.mk b o none) 0 [v] w K:=by
 have:=Aj H (m:=0) d j C;rwa[show(Addr.mk b o none).add 0=Addr.mk b o none from add_zero _]at this
theorem Um: ∀(news:List Value) {vs:List Value} {w:World} (o i:Nat),Sat (Cells b t vs::F) w->o+i+news.length<=vs.length->(∀v∈news,v.oneCell'=true)-> ∀{K:World->Prop},
  (∀w',Sat (Cells b t (vs.take (o+i)++news++vs.drop (o+i+news.length))::F) w'->K w')->stCells (Addr.mk b o none) i news w K
 | [],vs,w,o,i,H,hl,ho,K,hK=>by
  refine hK w ?_;simpa using H
 | v::r,vs,w,o,i,H,hl,ho,K,hK=>by
  have d:o+i<vs.length:=by simp at hl;omega
  simp only[stCells,add_eq];refine⟨⟨⟨_,H.BI (List.getElem?_eq_getElem d)⟩,H.Yr d,ho v (by simp)⟩,?_⟩;refine Um r o (i+1) (H.stored d v) (by simp at hl⊢;omega) (fun u hu=>ho u (by simp[hu])) fun w' j=>hK w' ?_;have:(vs.set (o+i) v).take (o+(i+1))++r++(vs.set (o+i) v).drop (o+(i+1)+r.length)=vs.take (o+i)++(v::r)++vs.drop (o+i+(v::r).length):=by
   rw[show o+(i+1)=o+i+1 from by omega,List.take_set,List.take_succ_eq_append_getElem d,List.set_append_right _ _ (by simp;omega)];simp only[List.length_take,Nat.min_eq_left (Nat.le_of_lt d),Nat.sub_self,List.set_cons_zero,List.append_assoc,List.singleton_append,List.length_cons,List.cons_append];congr 2;rw[List.drop_set_of_lt (by omega),show o+i+1+r.length=o+i+(r.length+1)from by omega];simp
  rw[<-this];exact j
theorem Jg{news:List Value}(H:Sat (Cells b t vs::F) w)(J:news.length=vs.length)(d: ∀v∈news,v.oneCell'=true){K:World->Prop}
  (j: ∀w',Sat (Cells b t news::F) w'->K w'):stCells (Addr.mk b 0 none) 0 news w K:=by
 refine Um news 0 0 H (by omega) d fun w' C=>j w' ?_;have:List.drop news.length vs=[]:=List.drop_eq_nil_iff.2 (by omega);simpa[this]using C
end
def Row(t z:Nat)(s:AZ)(vs:List Value):Pr where
 holds D w:=(∀k,D k↔LW s k)/\Fs w 0 t z s vs
 loc h he hS:=⟨h.1,h.2.ext he fun b j=>hS _ ((h.1 _).2 ⟨_,j,rfl⟩)⟩
 lt h hk:=by obtain⟨a,d,rfl⟩:=(h.1 _).1 hk;exact(h.2.lt d).2.1
section
variable{Ps F:List Pr}{w w':World}{t z:Nat}{s:AZ}{vs:List Value}
theorem Sat.own(H:Sat (Row t z s vs::F) w):Fs w 0 t z s vs:=let⟨_,h⟩:=H.head;h.2
theorem Sat.GA(H:Sat (Row t z s vs::F) w):vs.length=s.len*z:=H.own.len
theorem Fs.HM{w:World}{B t z:Nat}{s:AZ}{vs:List Value}(h:Fs w B t z s vs)(d:0<s.len): ∃b,s.base=some ⟨b,0,none⟩:=by
 rcases h.row with ⟨h1,j⟩|⟨b,cs,h1,_⟩
 ·have:=h.cap;omega
 ·exact⟨b,h1⟩
theorem Fs.cell{w:World}{B t z:Nat}{s:AZ}{vs:List Value}(h:Fs w B t z s vs){a:Addr}(d:s.base=some a){j:Nat}{v:Value}(C:vs[j]? =some v):w.cell? (a.add j)=some v:=by
 have:=h.rowAt;rw[d]at this;exact this.2 j v C
theorem Sat.nil(H:Sat F w)(t z:Nat):Sat (Row t z ⟨none,0,0⟩ []::F) w:=
 H.new (P:=Row t z ⟨none,0,0⟩ []) (D:=LW ⟨none,0,0⟩) (Ext.refl _ _) ⟨fun _=>Iff.rfl,Fs.nil w 0 t z⟩ fun k d=>by obtain⟨a,j,_⟩:=d;cases j
theorem FD{bytes:Nat}{zs:Array Value}{x:AZ}{K:AZ->World->Prop}{news:List Value}(H:Sat (Row t z s vs::F) w)
  (hz:zs.size=z)(j:rowAt w x.base (x.len*z) news)(O:news.length=x.len*z)(ho: ∀v∈news,v.oneCell'=true)
  (T:(s.len+x.len)*bytes<=140737488355328)(N:s.len+x.len<=9223372036854775807)
  (hK: ∀s' w',Sat (Row t z s' (vs++news)::F) w'->s'.len=s.len+x.len->K s' w'):APP t z bytes zs s x w K:=by
 obtain⟨D,h,hs⟩:=H.step;refine LO hz h.2 j O ho (Nat.zero_le _) T N fun s' w' C hlen J d=>hK s' w' ?_ hlen;refine hs w' (LW s') _ (J.mono fun i _ hi=>(h.1 i).2 hi) ⟨fun _=>Iff.rfl,C⟩ ?_;rintro k ⟨a,Y,rfl⟩;rcases d with e|⟨b,e,T⟩
 ·exact .inl ((h.1 _).2 ⟨a,by rw[<-e];exact Y,rfl⟩)
 ·rw[e]at Y;cases Y;exact .inr T
theorem IE{bytes:Nat}{zs:Array Value}{K:AZ->World->Prop}{news:List Value}{b:Nat}(H:Sat (Cells b t news::Row t z s vs::F) w)
  (hz:zs.size=z)(d:news.length=z)(J: ∀v∈news,v.oneCell'=true)
  (O:(s.len+1)*bytes<=140737488355328)(C:s.len+1<=9223372036854775807)
  (N: ∀s' w',Sat (Row t z s' (vs++news)::F) w'->s'.len=s.len+1->K s' w'):APP t z bytes zs s ⟨some (Addr.mk b 0 none),1,1⟩ w K:=by
 refine FD H.tail hz (x:=⟨some (Addr.mk b 0 none),1,1⟩) ⟨by simpa using d,fun j v T=> ?_⟩ (by simpa using d) J O C N;exact H.cell (by simpa using T)
theorem Sat.Ky(H:Sat (Row t z s vs::F) w):rowAt w s.base (s.len*z) vs:=H.own.rowAt
theorem Hc(H:Sat (Row t z s vs::F) w){j:Nat}{v:Value}(Y:v.oneCell'=true)(hj:j<vs.length){a:Addr}(C:s.base=some a){K:World->Prop}
  (hK: ∀w',Sat (Row t z s (vs.set j v)::F) w'->K w'):stCells (a.add j) 0 [v] w K:=by
 obtain⟨D,h,hs⟩:=H.step;have d:=h.2;rcases d.row with ⟨h1,_⟩|⟨b,cs,h1,h2,N,h4,T⟩
 ·rw[h1]at C;cases C
 ·rw[h1]at C;cases C;have O:=d.len;have J:j<cs.size:=by
   have:s.len*z<=s.cap*z:=Nat.mul_le_mul_right _ d.cap;omega
  simp only[stCells,add_zero,add_eq,Nat.zero_add];refine⟨⟨⟨_,(by rw[AO N];exact Array.getElem?_eq_getElem J)⟩,by simp[World.frozen?,N],Y⟩,hK _ ?_⟩;refine hs _ D _ ((Ext.setCell w ⟨b,j,none⟩ v).mono fun i _ hi=>(h.1 i).2 ⟨_,h1,hi⟩) ⟨h.1,?_⟩ fun k hk=>.inl hk;refine⟨by simpa using O,d.cap,d.top,.inr ⟨b,_,h1,h2,Hz N,by simpa using h4,?_⟩⟩;rw[Array.toList_setIfInBounds,List.take_set,T]
end
theorem Ax{σ:Type}{first:(σ->World->Prop)->Prop}{rest:σ->(Nat->Value)->World->Prop}(h:first fun s w=> ∀j,rest s j w):Av σ first rest:=
 ⟨_,h,fun s j w h=>h j⟩
@[simp] theorem jC{T E:Prop}:CND true T E↔T:=Iff.rfl
@[simp] theorem iN{T E:Prop}:CND false T E↔E:=Iff.rfl
theorem Ao{b:Bool}{T E:Prop}(d:b=true)(h:T):CND b T E:=by subst d;exact h
theorem Ab{b:Bool}{T E:Prop}(d:b=false)(h:E):CND b T E:=by subst d;exact h
theorem CO{a b:Int}{T E:Prop}(h1:a=b->T)(d:a≠b->E):CND (a==b) T E:=by
 by_cases h:a=b
 ·rw[show(a==b)=true from by simpa using h];exact h1 h
 ·rw[show(a==b)=false from by simpa using h];exact d h
theorem DE{a b:Int}{T E:Prop}(h1:a≠b->T)(d:a=b->E):CND (a !=b) T E:=by
 by_cases h:a=b
 ·rw[show(a !=b)=false from by simpa using h];exact d h
 ·rw[show(a !=b)=true from by simpa using h];exact h1 h
theorem LX{b:Bool}{T E:Prop}(h:CND b E T):CND (!b) T E:=by cases b<;>exact h
end Go.Sh
set_option linter.all false
namespace Go.Sh
structure Rg(it mb since:Nat)(a b:Int)(m0:List (Int×Value))(w:World)(seen:Array Nat)(es:Array MapEntry)(m:List (Int×Value)):Prop where
 iter: ∃last,w.heap[it]? =some (.mapIter (some mb) since seen last)/\(seen.isEmpty=true∨last=since)
 map:w.heap[mb]? =some (.map es since)
 ok:MapI .u64 es since m
 out: ∀c,¬(a<=c/\c<b)->aget m c=aget m0 c
 sub: ∀c v,aget m c=some v->aget m0 c=some v
 done: ∀e∈es.toList,seen.contains e.born=true-> ∀n,e.key= .int .u64 n-> ¬(a<=n/\n<b)
theorem Kz{es:Array MapEntry}{seen:Array Nat}{e:MapEntry}:e∈leftOf es seen↔e∈es.toList/\seen.contains e.born=false:=by
 simp[leftOf,Array.mem_filter]
def Mm(es:Array MapEntry)(seen:Array Nat):Nat:=(es.toList.filter fun e=> !seen.contains e.born).length
theorem filter_lt{α:Type}{p q:α->Bool}: ∀{l:List α},(∀x∈l,q x=true->p x=true)->(∃x∈l,p x=true/\q x=false)->(l.filter q).length<(l.filter p).length
 | [],_,⟨x,d,_⟩=>by cases d
 | y::r,h,⟨x,d,h1,h2⟩=>by
  have hle: ∀{l:List α},(∀x∈l,q x=true->p x=true)->(l.filter q).length<=(l.filter p).length:=by
   intro l
   induction l with
   | nil=>intro _;simp
   | cons z s ih=>
    intro hz;have:=ih fun x d=>hz x (List.mem_cons_of_mem _ d);have j:=hz z List.mem_cons_self;simp only[List.filter_cons];cases hq:q z
    ·simp only[Bool.false_eq_true,if_false];split
     ·simp;omega
     ·exact this
    ·simp only[j hq,if_true];simp;omega
  rcases List.mem_cons.1 d with rfl|v
  ·have:=hle fun z hz=>h z (List.mem_cons_of_mem _ hz);simp only[List.filter_cons,h1,h2,if_true,Bool.false_eq_true,if_false];simp;omega
  ·have:=filter_lt (fun z hz=>h z (List.mem_cons_of_mem _ hz)) ⟨x,v,h1,h2⟩;have C:=h y List.mem_cons_self;simp only[List.filter_cons];cases hq:q y
   ·simp only[Bool.false_eq_true,if_false];split
    ·simp;omega
    ·exact this
   ·simp only[C hq,if_true];simp;omega
theorem MQ{α β:Type}{f:α->β}: ∀{l:List α},(l.map f).Nodup-> ∀{x y:α},x∈l->y∈l->f x=f y->x=y
 | [],_,x,y,v,_,_=>by cases v
 | z::r,h,x,y,v,C,he=>by
  simp only[List.map_cons,List.nodup_cons]at h;rcases List.mem_cons.1 v with rfl|j<;>rcases List.mem_cons.1 C with rfl|d
  ·rfl
  ·exact absurd (he▸List.mem_map.2 ⟨y,d,rfl⟩) h.1
  ·exact absurd (he▸List.mem_map.2 ⟨x,j,rfl⟩) h.1
  ·exact MQ h.2 j d he
theorem range_del{it mb since:Nat}{a b:Int}{m0:List (Int×Value)}{w0:World}{K:World->Prop}{getm:(Option Nat->World->Prop)->World->Prop}
  (a5: ∀w K',Ext (fun k=>k=it∨k=mb) w0 w->K' (some mb) w->getm K' w)
  {seen0:Array Nat}{es0:Array MapEntry}{m1:List (Int×Value)}(h0:Rg it mb since a b m0 w0 seen0 es0 m1)(a2:it≠mb)(bW:it<w0.heap.size)(b1:mb<w0.heap.size)
  (hK: ∀w' aF m',Ext (fun k=>k=it∨k=mb) w0 w'->w'.heap.size=w0.heap.size->w'.heap[mb]? =some (.map aF since)->MapI .u64 aF since m'->
   (∀c,aget m' c=if a<=c/\c<b then none else aget m0 c)->K w'):
  Be (Unit) (()) w0 fun bU _ a8 J=>
     Av (Bool×Unit) (fun aV=>
      Ve it a8 (fun bK=>
       aV (false,()) bK
      ) fun b8 b3 bJ=>
       aV (true,()) bJ
     ) fun a3 _ aA=>
      Av (Bool×Unit) (fun bB=>
       CND (a3.1) (
        bB (a3.1,()) aA
       ) (
        K aA
       )
      ) fun bZ _ aE=>
       iK it aE fun bN bY bX=>
       RQ .u64 bN fun aM=>
       Av (Bool×Unit) (fun aY=>
        CND (decide ((aM:Int)≥a)) (
         aY (decide ((aM:Int)<b),()) aE
        ) (
         aY (false,()) aE
        )
       ) fun bP _ C=>
        CND (bP.1) (
         getm (fun bL C=>
         MDEL .u64 aM bL C fun a9=>
         J (()) a9) C
        ) (
         J (()) C
        ):=by
 refine AM (fun _ w=>(∃seen es m,Rg it mb since a b m0 w seen es m)/\Ext (fun k=>k=it∨k=mb) w0 w/\w.heap.size=w0.heap.size)
  (fun _ w=>match w.heap[it]?,w.heap[mb]? with|some (.mapIter _ _ seen _),some (.map es _)=>Mm es seen|_,_=>0) ⟨⟨_,_,_,h0⟩,Ext.refl _ _,rfl⟩ ?_
 rintro _ _ w ⟨⟨seen,es,m,h⟩,hw,b0⟩;obtain⟨last,j,hl⟩:=h.iter;have bI:(match w.heap[it]?,w.heap[mb]? with|some (.mapIter _ _ seen _),some (.map es _)=>Mm es seen|_,_=>0:Nat)=Mm es seen:=by rw[j,h.map]
 simp only[bI];refine Ak (fun st w'=>(st.1=false/\(leftOf es seen).isEmpty=true/\(∃d,Rg it mb since a b m0 w' d es m/\d=seen)/\Ext (fun k=>k=it∨k=mb) w0 w'/\w'.heap.size=w0.heap.size)∨
   (st.1=true/\ ∃e,e∈es.toList/\seen.contains e.born=false/\w'.heap[it]? =some (.mapIter (some mb) since (seen.push e.born) since)/\w'.heap[mb]? =some (.map es since)/\Ext (fun k=>k=it∨k=mb) w0 w'/\w'.heap.size=w0.heap.size)) ?_ ?_
 ·refine⟨some mb,since,seen,last,j,es,since,h.map,?_,?_,?_⟩
  ·rcases hl with hl|rfl
   ·simp[hl]
   ·by_cases he:es.isEmpty=true
    ·simp[he]
    ·have:es.all (fun x=>decide (x.born≥last))=false:=by
      have aR:0<es.size:=Nat.pos_of_ne_zero fun e=>he (by simpa[Array.isEmpty]using e);have hm:es[0]∈es.toList:=by simp
      have:=h.ok.lt _ hm;rw[Bool.eq_false_iff];intro aW;have:=(Array.all_eq_true_iff_forall_mem.1 aW) es[0] (Array.getElem_mem aR);simp at this;omega
     simp[this]
  ·intro w' aC O;left;have Y:Ext AK w w':=by rcases aC with rfl|rfl;exact Ext.refl _ _;exact Ext.drew _ _
   have bC:w'.heap.size=w.heap.size:=by rcases aC with rfl|rfl<;>rfl
   refine⟨rfl,?_,⟨seen,⟨⟨last,Y.obj j (fun f=>f),hl⟩,Y.obj h.map (fun f=>f),h.ok,h.out,h.sub,h.done⟩,rfl⟩,hw.trans' Y.any,by omega⟩;have:(leftOf es seen).filter (fun x=>decide (x.born<since))=leftOf es seen:=by
    apply Array.filter_eq_self.2;intro e he;have h1:=(Kz.1 he).1;exact decide_eq_true (h.ok.lt e h1)
   rw[this]at O;exact O
  ·intro w' e aC he;right;have Y:Ext AK w w':=by rcases aC with rfl|rfl;exact Ext.refl _ _;exact Ext.drew _ _
   have bC:w'.heap.size=w.heap.size:=by rcases aC with rfl|rfl<;>rfl
   obtain⟨h1,h2⟩:=Kz.1 he;refine⟨rfl,e,h1,h2,?_,?_,(hw.trans' Y.any).trans (Ext.Gm w' it _) (fun _ _ h=>h) (fun i _ e=>.inl e),?_⟩
   ·have bR:it<w'.heap.size:=by omega
    simp[World.Gm,bR]
   ·have:=(Ext.Gm w' it (.mapIter (some mb) since (seen.push e.born) since)).obj (Y.obj h.map fun f=>f) (fun e:mb=it=>a2 e.symm);exact this
   ·simp[World.Gm];omega
 ·rintro⟨bt,u⟩ _ aA hJ;simp only at hJ⊢;refine Ak (fun st w'=>w'=aA/\bt=true) ?_ ?_
  ·refine AR (fun ht=>⟨rfl,ht⟩) (fun hf=> ?_);rcases hJ with ⟨_,O,⟨d,hR,bE⟩,hE,hS⟩|⟨ht,_⟩
   ·subst bE;refine hK aA es m hE hS hR.map hR.ok fun c=> ?_;split
    ·rename_i hc;cases hg:aget m c with
     | none=>rfl
     | some v=>
      exfalso;obtain⟨e,he,hk,hv⟩:=h.ok.Yz hg;have hs:d.contains e.born=true:=by
       cases hsc:d.contains e.born with
       | true=>rfl
       | false=>
        have:e∈leftOf es d:=Kz.2 ⟨he,hsc⟩;have h0:leftOf es d= #[]:=by simpa[Array.isEmpty_iff]using O
        rw[h0]at this;cases this with|mk h=>cases h
      exact h.done e he hs c hk hc
    ·rename_i hc;exact h.out c hc
   ·rw[ht]at hf;cases hf
  ·rintro⟨_,u⟩ _ aE ⟨rfl,bO⟩;rcases hJ with ⟨hf,_⟩|⟨_,e,he,bQ,N,T,hE,hS⟩
   ·rw[bO]at hf;cases hf
   ·obtain⟨n,aB,b2⟩:=h.ok.Ul he;have aO:es.find? (fun x:MapEntry=>x.born==e.born)=some e:=by
     rw[<-Array.find?_toList];have hb:=h.ok.born;have: ∀l:List MapEntry,(l.map (·.born)).Nodup->e∈l->l.find? (fun x:MapEntry=>x.born==e.born)=some e:=by
      intro l
      induction l with
      | nil=>intro _ h;cases h
      | cons x r ih=>
       intro hn hm;simp only[List.map_cons,List.nodup_cons]at hn;rcases List.mem_cons.1 hm with rfl|hm
       ·simp[List.find?_cons]
       ·have:x.born≠e.born:=fun e2=>hn.1 (e2▸List.mem_map.2 ⟨e,hm,rfl⟩);have hb:(x.born==e.born)=false:=by simp[this]
        simp only[List.find?_cons,hb];exact ih hn.2 hm
     exact this es.toList hb he
    refine⟨mb,since,since,seen.push e.born,es,since,e.born,e,⟨N,T⟩,by simp,rfl,aO,?_⟩;rw[aB];show unV (.int .u64) (.int .u64 n) _;show sameK .u64 .u64 _;show Av _ _ _;have a4:Mm es (seen.push e.born)<Mm es seen:=by
     unfold Mm;refine filter_lt (fun x _ hx=> ?_) ⟨e,he,by rw[bQ];rfl,by simp⟩;simp at hx⊢;exact hx.1
    refine Ak (fun st w'=>w'=aE/\(st.1=true↔a<=n/\n<b)) ?_ ?_
    ·refine AE (fun h1=>⟨rfl,?_⟩) (fun h1=>⟨rfl,?_⟩)
     ·simp only[decide_eq_true_iff];omega
     ·simp only[Bool.false_eq_true,false_iff];omega
    ·rintro⟨b4,u⟩ _ C ⟨rfl,aD⟩;simp only at aD⊢;have hR:Rg it mb since a b m0 C seen es m->True:=fun _=>trivial;refine AR (fun ht=> ?_) (fun hf=> ?_)
     ·refine a5 C _ hE ?_;refine Kx T h.ok fun w' aF m' aT aS aP b5 aI bA aL bT=> ?_;have aJ:w'.heap[it]? =some (.mapIter (some mb) since (seen.push e.born) since):=aL.obj N (fun e2:it=mb=>a2 e2);refine⟨⟨⟨seen.push e.born,aF,m',⟨since,aJ,.inr rfl⟩,aT,aS,?_,?_,?_⟩,hE.trans aL (fun _ _ h=>h) (fun i _ e=>.inr e),by omega⟩,?_⟩
      ·intro c hc;rw[aP,if_neg,h.out c hc];intro e2;subst e2;exact hc (aD.1 ht)
      ·intro c v aH;rw[aP]at aH;split at aH
       ·cases aH
       ·exact h.sub c v aH
      ·intro x hx hs k hk;have a6:=aI.subset hx;by_cases hxb:x.born=e.born
       ·-- the entry that was taken out
        obtain⟨k',a1,aX⟩:=aS.Ul hx;rw[hk]at a1;cases a1;have aN:x=e:=by
         have h1:=MQ h.ok.born a6 he hxb;exact h1
        subst aN;rw[aB]at hk;cases hk;rw[aP]at aX;simp at aX
       ·refine h.done x a6 ?_ k hk;simp at hs;rcases hs with hs|hs
        ·simpa using hs
        ·exact absurd hs hxb
      ·simp only[aJ,aT];have:Mm aF (seen.push e.born)<=Mm es (seen.push e.born):=(aI.filter _).length_le;omega
     ·have aU: ¬(a<=n/\n<b):=fun h=>by rw[aD.2 h]at hf;cases hf
      refine⟨⟨⟨seen.push e.born,es,m,⟨since,N,.inr rfl⟩,T,h.ok,h.out,h.sub,?_⟩,hE,hS⟩,by simp only[N,T];exact a4⟩;intro x hx hs k hk;simp at hs;rcases hs with hs|hs
      ·exact h.done x hx (by simpa using hs) k hk
      ·have aN:x=e:=MQ h.ok.born hx he hs;subst aN;rw[aB]at hk;cases hk;exact aU
end Go.Sh

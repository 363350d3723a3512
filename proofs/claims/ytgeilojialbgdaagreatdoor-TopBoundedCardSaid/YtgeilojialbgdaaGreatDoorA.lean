/- What a law's arguments are, read once for all. No further condition. -/
import Derived.Test.YtgeilojialbgdaaGreatDoorM
import Derived.WalkKit
import Derived.ProofKit
import Derived.OpenShut
import Derived.ChangeOld
import Derived.Below
import Derived.Carry
import Derived.DataReads
import Derived.Test.YtgeilojialbgdaaGreatDoorSh
import Derived.Lib.TrailingZeros
set_option linter.all false
set_option maxRecDepth 50000
set_option maxHeartbeats 1000000
namespace Go.Sh
open Go.ChangeShapes Go.WideShapes Go.ChangeAt Go.RowKit
inductive AT where
 | int (k:IntKind)|bool|sl (e:AT)|nil|cons (f r:AT)
def AT.size:AT->Nat
 | .int _=>1| .bool=>1| .sl _=>1| .nil=>0| .cons f r=>f.size+r.size
def V5(w:World):AT->List Value->Prop
 | .int k,cs=> ∃n,cs=[.int k n]/\(Lit.int k n).wf=true
 | .bool,cs=> ∃b,cs=[.bool b]
 | .sl e,cs=> ∃s:AY,cs=[.slice s.base s.len s.cap]/\s.len<=s.cap/\s.cap<=maxLen/\
   ∀j,j<s.len-> ∃x l,s.base=some x/\l.length=e.size/\(∀i v,l[i]? =some v->w.cell? (x.add (j*e.size+i))=some v)/\V5 w e l
 | .nil,cs=>cs=[]
 | .cons f r,cs=> ∃a b,cs=a++b/\V5 w f a/\V5 w r b
def shapeF(P:Program)(sh:TypeId->Option AT):List Field->Nat->Option AT
 | [],_=>some .nil
 | f::r,off=>match Nat.beq f.offset off with
  | true=>match sh f.type with
   | some a=>match Nat.beq a.size (P.cellsOf f.type)with
    | true=>match shapeF P sh r (off+a.size)with
     | some b=>some (.cons a b)
     | none=>none
    | false=>none
   | none=>none
  | false=>none
def shapeP(P:Program):Nat->TypeId->Option AT
 | 0,_=>none
 | n+1,t=>match P.underlying t with
  | some .bool=>some .bool
  | some (.int k)=>some (.int k)
  | some (.slice e)=>match shapeP P n e with
   | some a=>match Nat.beq a.size (P.cellsOf e)with
    | true=>some (.sl a)
    | false=>none
   | none=>none
  | some (.struct fs)=>match shapeF P (shapeP P n) fs.toList 0 with
   | some a=>match Nat.beq a.size (P.cellsOf t)with
    | true=>some a
    | false=>none
   | none=>none
  | _=>none
section
variable{H:Type}{enc:TypeId×Value->H}{P:Program}{w:World}{base:Nat}{sp:Nat->Bool}{held:Bool}
def lI{w:World}{base:Nat}{a:Addr}{n:Nat}{l:List Value}(h:w.cells? base a n=some l):l.length=n/\ ∀i v,l[i]? =some v->w.cell? (a.add i)=some v:=by
 unfold World.cells? at h;split at h
 .have key: ∀(m:Nat) (k:Nat) (l:List Value),((List.range' k m).mapM λi=>w.cell? (a.add i))=some l->l.length=m/\ ∀i v,l[i]? =some v->w.cell? (a.add (k+i))=some v:=by
   intro m
   induction m with
   | zero=>grind
   | succ m ih=>
    intro k l h;rw[List.range'_succ,List.mapM_cons]at h;cases hx:w.cell? (a.add k)with
    | none=>grind
    | some y=>
     cases hl:(List.range' (k+1) m).mapM λi=>w.cell? (a.add i)with
     | none=>grind
     | some ys=>grind
  rw[List.range_eq_range']at h
  grind
 .cases h
def Qv{sh:TypeId->Option AT}{tr:TypeId->List Value->Prop}(u: ∀t a cs,sh t=some a->tr t cs->V5 w a cs):
  ∀(v:List Field) (off:Nat) (a:AT) (cs:List Value),shapeF P sh v off=some a->cs.length=off+a.size->(∀f∈v,tr f.type ((cs.drop f.offset).take (P.cellsOf f.type)))->V5 w a (cs.drop off)
 | [],off,a,cs,h,hl,_=>by
  simp only[shapeF,Option.some.injEq]at h;subst h;show cs.drop off=[];rw[List.drop_eq_nil_iff];simp[AT.size]at hl;omega
 | f::r,off,a,cs,h,hl,ht=>by
  unfold shapeF at h;split at h
  .rename_i e;have e:=Nat.eq_of_beq_eq_true e;split at h
   .rename_i a1 ha1;split at h
    .rename_i j;have j:=Nat.eq_of_beq_eq_true j;split at h
     .rename_i b hb;cases h;have h1:=u _ _ _ ha1 (ht f (by simp));have J:=Qv u r (off+a1.size) b cs hb (by simp[AT.size]at hl;omega) (λg K=>ht g (by simp[K]));refine⟨_,_,?_,h1,J⟩;rw[e,<-j,<-List.drop_drop];exact(List.take_append_drop _ _).symm
     .cases h
    .cases h
   .cases h
  .cases h
def NH: ∀(n:Nat) (t:TypeId) (a:AT) (cs:List Value),shapeP P n t=some a->(∃m x,DataW.trod enc P w base sp held m t cs=some x)->V5 w a cs
 | 0,_,_,_,h,_=>by simp[shapeP]at h
 | n+1,t,a,cs,h,⟨m,x,O⟩=>by
  unfold shapeP at h;split at h
  .rename_i hu;cases h;obtain⟨b,T,_⟩:=DataW.trod_bool hu O;exact⟨b,T⟩
  .rename_i k hu;cases h;obtain⟨z,T,_,hw⟩:=DataW.trod_int hu O;exact⟨z,T,hw⟩
  .rename_i e hu;split at h
   .rename_i a1 ha1;split at h
    .rename_i u;have u:=Nat.eq_of_beq_eq_true u;cases h;rcases DataW.trod_slice hu O with ⟨h1,_⟩|⟨p,len,cap,elems,rest,m',_,aA,_,_,aC,Y,aG,J,_⟩
     .exact⟨⟨none,0,0⟩,h1,Nat.le_refl _,Nat.zero_le _,λj K=>by cases K⟩
     .refine⟨⟨some p,len,cap⟩,aA,aC,Y,λj K=> ?_⟩;have K:j<len:=K;have hy:=J j K;rw[List.getElem?_eq_getElem (by omega)]at hy;cases hl:w.cells? base (p.add (j*P.cellsOf e)) (P.cellsOf e)with
      | none=>grind
      | some l=>
       rw[hl]at hy;obtain⟨g1,g2⟩:=lI hl;refine⟨p,l,rfl,by omega,λi v hv=> ?_,NH n e a1 l ha1 ⟨m',_,hy⟩⟩;have:=g2 i v hv;rw[u,<-add_add];exact this
    .cases h
   .cases h
  .rename_i fs hu;split at h
   .rename_i a1 ha1;split at h
    .rename_i u;have u:=Nat.eq_of_beq_eq_true u;cases h;obtain⟨xs,m',_,_,hlen,aI,hf⟩:=DataW.trod_struct hu O;have:=Qv (P:=P) (sh:=shapeP P n) (tr:=λt cs=> ∃m x,DataW.trod enc P w base sp held m t cs=some x)
      (λt a cs h1 h2=>NH n t a cs h1 h2) fs.toList 0 a cs ha1 (by omega) (λf aB=>by
       obtain⟨i,hi⟩:=List.mem_iff_getElem?.1 aB
       grind)
     grind
    .cases h
   .cases h
  .cases h
def ArgV(w:World):AT->Value->Prop
 | .int k,v=> ∃n,v= .int k n/\(Lit.int k n).wf=true
 | .bool,v=> ∃b,v= .bool b
 | .sl e,v=> ∃s:AY,v= .slice s.base s.len s.cap/\V5 w (.sl e) [.slice s.base s.len s.cap]
 | a,v=> ∃l,v= .agg ⟨l⟩/\V5 w a l
def pA(w:World):List AT->List Value->Prop
 | [],vs=>vs=[]
 | a::r,vs=> ∃v s,vs=v::s/\ArgV w a v/\pA w r s
def shapesP(P:Program):List TypeId->Option (List AT)
 | []=>some []
 | t::r=>match shapeP P 9 t with
  | some a=>match shapesP P r with
   | some l=>some (a::l)
   | none=>none
  | none=>none
def ZV{sh:TypeId->Option AT}: ∀{e:List Field} {off:Nat} {a:AT},shapeF P sh e off=some a->a= .nil∨ ∃f r,a= .cons f r
 | [],_,_,h=>by simp[shapeF]at h;grind
 | f::r,off,a,h=>by
  unfold shapeF at h
  grind
def arg_of{r:Reach}{b0:Nat}{n:Nat}{t:TypeId}{a:AT}{v:Value}{d:DataW H}{ps:List MemPlace}(j:shapeP P n t=some a)(u:Value.okWide P w r b0 t v)
  (hd:DataW.Trod enc P w base sp held t v d ps):ArgV w a v:=by
 obtain⟨m,hm⟩:=hd;have hS:=NH n t a v.cells.toList j ⟨m,_,hm⟩;cases n with
 | zero=>simp[shapeP]at j
 | succ n=>
 unfold shapeP at j;split at j
 .rename_i hu;cases j;obtain⟨b,rfl⟩:=okWide_bool hu u;exact⟨b,rfl⟩
 .rename_i k hu;cases j;obtain⟨z,rfl⟩:=okWide_int hu u;obtain⟨T,h1,K⟩:=hS;simp[Value.cells]at h1;subst h1;exact⟨z,rfl,K⟩
 .rename_i e hu;obtain⟨x,l,c,rfl⟩:=okWide_slice hu u;split at j
  .split at j
   .cases j;exact⟨⟨x,l,c⟩,rfl,hS⟩
   .cases j
  .cases j
 .rename_i fs hu;obtain⟨cs,rfl,O⟩:=okWide_struct hu u;split at j
  .rename_i a1 J;split at j
   .cases j;have:V5 w a cs.toList:=hS;rcases ZV J with rfl|⟨f,r,rfl⟩
    .exact⟨cs.toList,rfl,this⟩
    .exact⟨cs.toList,rfl,this⟩
   .cases j
  .cases j
 .cases j
def iT{r:Reach}{b0:Nat}: ∀{ts:List TypeId} {shs:List AT} {vs:List Value} {e:List (DataW H)} {p:List MemPlace},shapesP P ts=some shs->
  (∀(j:Nat) t v,ts[j]? =some t->vs[j]? =some v->Value.okWide P w r b0 t v)->DataW.TrodAll enc P w base sp held ts vs e p->pA w shs vs
 | [],shs,vs,e,p,hs,_,h=>by
  simp[shapesP]at hs;subst hs;cases vs with
  | nil=>rfl
  | cons v vs=>cases e<;>simp[DataW.TrodAll]at h
 | t::ts,shs,vs,e,p,hs,hval,h=>by
  unfold shapesP at hs;split at hs
  .rename_i a ha;split at hs
   .rename_i l hl;cases hs;cases vs with
    | nil=>cases e<;>simp[DataW.TrodAll]at h
    | cons v vs=>
     cases e with
     | nil=>simp[DataW.TrodAll]at h
     | cons d e=>
      obtain⟨p1,T,h1,u,_⟩:=h;exact⟨v,vs,rfl,arg_of ha (hval 0 t v rfl rfl) h1,iT hl (λj t' J K O=>hval (j+1) t' J (by grind) (by grind)) u⟩
   .cases hs
  .cases hs
def OH(P:Program):List TypeId->Bool
 | []=>true
 | t::r=>match P.readableRec t with
  | true=>match Nat.ble (t+1) P.types.size with
   | true=>OH P r
   | false=>false
  | false=>false
def Pd(u:laidOutB P=true){W W':World}(j:Below W.heap.size W W'): ∀{ts:List TypeId} {vs:List Value} {a:List (DataW H)} {p:List MemPlace},OH P ts=true->
  DataW.TrodAll enc P W 0 (λ_=>true) true ts vs a p->DataW.TrodAll enc P W' 0 (λb=>decide (b<W.heap.size)) true ts vs a p
 | [],vs,a,p,_,h=>by
  cases vs<;>cases a<;>simp[DataW.TrodAll]at h⊢ <;>exact h
 | t::ts,vs,a,p,hr,h=>by
  unfold OH at hr;split at hr
  .rename_i h1;split at hr
   .rename_i e;have e:=Nat.le_of_ble_eq_true e;cases vs with
    | nil=>cases a<;>simp[DataW.TrodAll]at h
    | cons v vs=>
     cases a with
     | nil=>simp[DataW.TrodAll]at h
     | cons d a=>
      obtain⟨p1,O,k1,J,K⟩:=h;exact⟨p1,O,Below.trod u h1 e k1 j (by obtain⟨m,hm⟩:=k1;exact DataW.trod_lt m _ _ _ hm),Pd u j hr J,K⟩
   .cases hr
  .cases hr
def So: ∀{ts:List TypeId} {vs:List Value} {a:List (DataW H)} {p:List MemPlace},DataW.TrodAll enc P w base sp held ts vs a p->a.length=ts.length
 | [],vs,a,p,h=>by cases vs<;>cases a<;>simp[DataW.TrodAll]at h⊢
 | t::ts,vs,a,p,h=>by
  cases vs with
  | nil=>cases a<;>simp[DataW.TrodAll]at h
  | cons v vs=>
   cases a with
   | nil=>simp[DataW.TrodAll]at h
   | cons d a=>
    obtain⟨p1,u,k1,e,j⟩:=h;simp[So e]
end
def ZW:AT->Type
 | .int _=>Int| .bool=>Bool| .sl _=>AY| .nil=>Unit| .cons f r=>ZW f×ZW r
def ZW.oO:(a:AT)->ZW a
 | .int _=>(0:Int)| .bool=>false| .sl _=>(⟨none,0,0⟩:AY)| .nil=>()| .cons f r=>(ZW.oO f,ZW.oO r)
def O8:(a:AT)->ZW a->List Value
 | .int k,n=>[.int k n]
 | .bool,b=>[.bool b]
 | .sl _,s=>[.slice (AY.base s) (AY.len s) (AY.cap s)]
 | .nil,_=>[]
 | .cons f r,x=>O8 f x.1++O8 r x.2
def RowG(w:World)(e:AT)(ok:ZW e->Prop)(s:AY)(z:Nat->ZW e):Prop:=s.len<=s.cap/\s.cap<9223372036854775808/\
 ∀j,j<s.len-> ∃x,s.base=some x/\(∀i v,(O8 e (z j))[i]? =some v->w.cell? (x.add (j*e.size+i))=some v)/\ok (z j)
def ZX(w:World):(a:AT)->ZW a->Prop
 | .int k,n=>(Lit.int k n).wf=true
 | .bool,_=>True
 | .sl e,s=> ∃z,RowG w e (ZX w e) s z
 | .nil,_=>True
 | .cons f r,x=>ZX w f x.1/\ZX w r x.2
abbrev RowA(w:World)(e:AT):AY->(Nat->ZW e)->Prop:=RowG w e (ZX w e)
def Ml{w:World}:(a:AT)->(cs:List Value)->V5 w a cs-> ∃x:ZW a,cs=O8 a x/\ZX w a x
 | .int k,cs,h=>let⟨n,h1,u⟩:=h;⟨n,h1,u⟩
 | .bool,cs,h=>let⟨b,h1⟩:=h;⟨b,h1,trivial⟩
 | .sl e,cs,h=>by
  obtain⟨s,h1,u,Y,O⟩:=h;have key: ∀j,∃y:ZW e,j<s.len-> ∃x,s.base=some x/\(∀i v,(O8 e y)[i]? =some v->w.cell? (x.add (j*e.size+i))=some v)/\ZX w e y:=by
   intro j;by_cases J:j<s.len
   .obtain⟨x,l,g1,g2,g3,g4⟩:=O j J;obtain⟨y,rfl,K⟩:=Ml e l g4;exact⟨y,λ_=>⟨x,g1,g3,K⟩⟩
   .exact⟨ZW.oO e,λh=>absurd h J⟩
  refine⟨s,h1,λj=>Classical.choose (key j),u,?_,λj J=>Classical.choose_spec (key j) J⟩;have:maxLen=9223372036854775807:=by decide
  omega
 | .nil,cs,h=>⟨(),h,trivial⟩
 | .cons f r,cs,h=>by
  obtain⟨a,b,rfl,h1,u⟩:=h;obtain⟨x,rfl,T⟩:=Ml f a h1;obtain⟨y,rfl,K⟩:=Ml r b u;exact⟨(x,y),rfl,T,K⟩
def elV:(a:AT)->ZW a->Value
 | .int k,n=>.int k n
 | .bool,b=>.bool b
 | .sl _,s=>.slice (AY.base s) (AY.len s) (AY.cap s)
 | .nil,_=>.agg ⟨[]⟩
 | .cons f r,x=>.agg ⟨O8 (.cons f r) x⟩
def dB{w:World}{a:AT}{v:Value}(h:ArgV w a v): ∃x:ZW a,v=elV a x/\ZX w a x:=by
 cases a with
 | int k=>exact h
 | bool=>obtain⟨b,h⟩:=h;exact⟨b,h,trivial⟩
 | sl e=>
  obtain⟨s,rfl,h⟩:=h;obtain⟨s',h1,u⟩:=Ml _ _ h;have j:[Value.slice s.base s.len s.cap]=[Value.slice (AY.base s') (AY.len s') (AY.cap s')]:=h1;simp only[List.cons.injEq,Value.slice.injEq,and_true]at j;obtain⟨e1,e2,K⟩:=j;refine⟨s',?_,u⟩;show Value.slice s.base s.len s.cap=Value.slice (AY.base s') (AY.len s') (AY.cap s')
  grind
 | nil=>obtain⟨l,rfl,h⟩:=h;have:l=[]:=h;subst this;exact⟨(),rfl,trivial⟩
 | cons f r=>
  obtain⟨l,rfl,h⟩:=h;obtain⟨x,rfl,J⟩:=Ml _ _ h;exact⟨x,rfl,J⟩
def ZY:List AT->Type
 | []=>Unit
 | a::r=>ZW a×ZY r
def Tp:(l:List AT)->ZY l->List Value
 | [],_=>[]
 | a::r,x=>elV a x.1::Tp r x.2
def dC(w:World):(l:List AT)->ZY l->Prop
 | [],_=>True
 | a::r,x=>ZX w a x.1/\dC w r x.2
def UU{w:World}:{l:List AT}->{vs:List Value}->pA w l vs-> ∃x:ZY l,vs=Tp l x/\dC w l x
 | [],vs,h=>⟨(),h,trivial⟩
 | a::r,vs,h=>by
  obtain⟨v,s,rfl,h1,e⟩:=h;obtain⟨x,rfl,j⟩:=dB h1;obtain⟨y,rfl,u⟩:=UU e;exact⟨(x,y),rfl,j,u⟩
end Go.Sh
namespace Go.Sh
def Sat.BQ{P0:Pr}{Ps:List Pr}{w:World}{P:Pr}(i:Nat)(H:Sat (P0::Ps) w)(hi:Ps[i]? =some P):Sat (P0::P::Ps.eraseIdx i) w:=H.perm ((EH hi).cons P0)
def Sat.OI{P0 P':Pr}{Ps:List Pr}{w:World}(i:Nat)(H:Sat (P0::P'::Ps.eraseIdx i) w)(hi:i<Ps.length:=by simp):Sat (P0::Ps.set i P') w:=H.perm ((Mj hi).cons P0)
def dD:Pr where
 holds D _:= ∀k,¬D k
 loc h _ _:=h
 lt h hk:=(h _ hk).elim
def Sat.emp{F:List Pr}{w:World}(H:Sat F w):Sat (dD::F) w:=H.new (P:=dD) (D:=λ_=>False) (Ext.refl _ _) (λ_ f=>f) λ_ f=>f.elim
def ints(k:IntKind)(l:List Int):List Value:=l.map λn=>.int k n
def OJ{k:IntKind}{l:List Int}{i:Nat}{n:Int}(h:l[i]? =some n):(ints k l)[i]? =some (.int k n):=by simp[ints,h]
def Hu(l:List Bool):List Value:=l.map λb=>.bool b
def CM(b:Nat)(k:IntKind)(g:Int->Option Value):Pr where
 holds D w:=(∀i,D i↔i=b)/\ ∃es c m,w.heap[b]? =some (.map es c)/\MapI k es c m/\ ∀i,aget m i=g i
 loc h he hS:=⟨h.1,let⟨es,c,m,h1,h2⟩:=h.2;⟨es,c,m,he.obj h1 (hS _ ((h.1 _).2 rfl)),h2⟩⟩
 lt h hk:=by have:=(h.1 _).1 hk;grind
section
variable{F:List Pr}{w w':World}{b:Nat}{k:IntKind}{g:Int->Option Value}
def OK(H:Sat F w)(k:IntKind){K:Nat->World->Prop}(a: ∀b w',Sat (CM b k (λ_=>none)::F) w'->Ext AN w w'->K b w'):AL (.map #[] 0) w K:=
 A4 λw' e u he=>a _ _ (H.new (P:=CM w.heap.size k λ_=>none) (D:=λk=>k=w.heap.size) he ⟨λ_=>Iff.rfl,_,_,[],e,MapI.empty k,λ_=>rfl⟩ λk j=>by omega) he
def Sat.O9(H:Sat (CM b k g::F) w): ∃es c m,w.heap[b]? =some (.map es c)/\MapI k es c m/\ ∀i,aget m i=g i:=let⟨_,h⟩:=H.head;h.2
def Rz(H:Sat (CM b k g::F) w){n:Int}{z:Value}{K:Value->Bool->Array MapEntry->Prop}(j: ∀es,w.heap[b]? =some (.map es (es.size))∨True->K ((g n).getD z) (g n).isSome es):n9 k n (some b) w z K:=by
 obtain⟨es,c,m,h1,a,e⟩:=H.O9;refine Mh h1 a ?_;rw[e];exact j es (.inr trivial)
def Sat.mapStep(H:Sat (CM b k g::F) w){a:Array MapEntry}{e:Nat}{j:List (Int×Value)}{u:Int->Option Value}(he:Ext (Ja b) w w')(h1:w'.heap[b]? =some (.map a e))(v:MapI k a e j)(J: ∀i,aget j i=u i):
  Sat (CM b k u::F) w':=by
 obtain⟨D,h,O⟩:=H.step;exact O w' D _ (he.mono λi _ hi=>(h.1 i).2 hi) ⟨h.1,a,e,j,h1,v,J⟩ λk K=>.inl K
def FP(H:Sat (CM b k g::F) w){n:Int}{v:Value}{K:World->Prop}(u: ∀w',Sat (CM b k (λi=>if i=n then some v else g i)::F) w'->K w'):KT k n v (some b) w K:=by
 obtain⟨es,c,m,h1,e,j⟩:=H.O9;refine UQ h1 e λw' a J O g1 g2 g3 _ _ _ he _=>u w' (H.mapStep he g1 g2 λi=> ?_);rw[g3,j]
def Qw(H:Sat (CM b k g::F) w){n:Int}{K:World->Prop}(u: ∀w',Sat (CM b k (λi=>if i=n then none else g i)::F) w'->K w'):MDEL k n (some b) w K:=by
 obtain⟨es,c,m,h1,e,j⟩:=H.O9;refine Pz h1 e λw' a v g1 g2 g3 _ _ _ he _=>u w' (H.mapStep he g1 g2 λi=> ?_);rw[g3,j]
end
def MW(s:AY)(vs:List Value):Pr where
 holds D w:=(∀k,D k↔PS s k)/\s.len<=s.cap/\vs.length=s.len/\s.cap<9223372036854775808/\(∀a,s.base=some a->a.block<w.heap.size)/\rowAt w s.base s.len vs
 loc h he hS:=⟨h.1,h.2.1,h.2.2.1,h.2.2.2.1,λa e=>by have:=h.2.2.2.2.1 a e;have:=he.size;omega,Wh h.2.2.2.2.2 he λa e _=>hS _ ((h.1 _).2 ⟨a,e,rfl⟩)⟩
 lt h hk:=by obtain⟨a,e,rfl⟩:=(h.1 _).1 hk;grind
section
variable{F:List Pr}{w w':World}{t:Nat}{s:AY}{vs:List Value}
def Sat.rowV(H:Sat (Row t 1 s vs::F) w):Sat (MW s vs::F) w:=by
 obtain⟨D,h,u⟩:=H.step;have ho:=h.2;refine u w D _ (Ext.refl _ _) ⟨h.1,ho.cap,by simpa using ho.len,ho.top,λa e=>(ho.lt e).2.1,by simpa using ho.rowAt⟩ λk j=>.inl j
def Sat.Tq(H:Sat (MW s vs::F) w):vs.length=s.len/\s.len<=s.cap/\s.cap<9223372036854775808:=let⟨_,h⟩:=H.head;⟨h.2.2.1,h.2.1,h.2.2.2.1⟩
def Sat.ZZ(H:Sat (MW s vs::F) w){j:Nat}{v:Value}(u:vs[j]? =some v): ∃a,s.base=some a/\w.cell? (a.add j)=some v:=by
 obtain⟨D,h⟩:=H.head;have e:=h.2.2.2.2.2;cases hb:s.base with
 | none=>rw[hb]at e;have:vs=[]:=e;grind
 | some a=>rw[hb]at e;exact⟨a,rfl,e.2 j v u⟩
def Xj{b:Option Addr}{c m z:Nat}{k:Nat}:(∃a,KE b c m z=some a/\k=a.block)↔ ∃a,b=some a/\k=a.block:=by
 unfold KE;split
 .grind
 .cases b with
  | none=>simp
  | some a=>simp[Wg]
def Sat.Za(H:Sat (MW s vs::F) w){n:Nat}(K:n<=s.len):Sat (MW ⟨KE s.base s.cap n 1,s.len-n,s.cap-n⟩ (vs.drop n)::F) w:=by
 obtain⟨D,h,O⟩:=H.step;refine O w D _ (Ext.refl _ _) ⟨λk=> ?_,?_,?_,?_,?_,?_⟩ λk J=>.inl J
 .rw[h.1];exact Xj.symm
 .simp only;have:=h.2.1;omega
 .simp only[List.length_drop,h.2.2.1]
 .simp only;have:=h.2.2.2.1;omega
 .intro a v;obtain⟨u,j,e⟩:=(Xj (k:=a.block)).1 ⟨a,v,rfl⟩;rw[e];exact h.2.2.2.2.1 u j
 .have:=LN (z:=1) h.2.2.2.2.2 (by simp) K h.2.1 h.2.2.1
  grind
def Sat.vQ{F:List Pr}{w:World}(H:Sat F w):Sat (MW ⟨none,0,0⟩ []::F) w:=
 H.new (P:=MW ⟨none,0,0⟩ []) (D:=PS ⟨none,0,0⟩) (Ext.refl _ _) ⟨λ_=>Iff.rfl,Nat.le_refl _,rfl,by decide,λ_ h=>(by cases h),rfl⟩ λk j=>by obtain⟨a,e,_⟩:=j;cases e
end
abbrev Pgs:=Int->Option (Nat×(Int->Int))
def UW(n:Nat)(G:Pgs):Pr where
 holds D w:=(∀k,D k↔ ∃p x,G p=some x/\k=x.1)/\(∀p q x y,G p=some x->G q=some y->x.1=y.1->p=q)/\
  ∀p x,G p=some x->x.1<w.heap.size/\ ∀j:Nat,j<n->w.cell? ⟨x.1,j,none⟩=some (.int .u64 (x.2 j))/\w.frozen? ⟨x.1,j,none⟩=false
 loc h he hS:=⟨h.1,h.2.1,λp x a=>⟨by have:=(h.2.2 p x a).1;have:=he.size;omega,λj e=>⟨he.cell ((h.2.2 p x a).2 j e).1 (hS _ ((h.1 _).2 ⟨p,x,a,rfl⟩)),by
  rw[he.frozen (p:=⟨x.1,j,none⟩) (h.2.2 p x a).1 (hS _ ((h.1 _).2 ⟨p,x,a,rfl⟩))];grind⟩⟩⟩
 lt h hk:=by obtain⟨p,x,a,rfl⟩:=(h.1 _).1 hk;grind
section
variable{F:List Pr}{w w':World}{n:Nat}{G:Pgs}
def Sat.pgNil(H:Sat F w)(n:Nat):Sat (UW n (λ_=>none)::F) w:=
 H.new (P:=UW n λ_=>none) (D:=λ_=>False) (Ext.refl _ _) ⟨λk=>⟨λf=>f.elim,λ⟨_,_,h,_⟩=>(by cases h)⟩,λ_ _ _ _ h=>(by cases h),λ_ _ h=>(by cases h)⟩ λ_ f=>f.elim
def Sat.pgDrop(H:Sat (UW n G::F) w){G':Pgs}(e: ∀p x,G' p=some x->G p=some x):Sat (UW n G'::F) w:=by
 obtain⟨D,h,v⟩:=H.step;refine v w (λk=> ∃p x,G' p=some x/\k=x.1) _ (Ext.refl _ _) ⟨λ_=>Iff.rfl,λp q x y a u=>h.2.1 p q x y (e p x a) (e q y u),λp x a=>h.2.2 p x (e p x a)⟩ λk j=>.inl ?_;obtain⟨p,x,a,rfl⟩:=j;exact(h.1 _).2 ⟨p,x,e p x a,rfl⟩
end
def Aj{α:Type}(R:α->Pr)(L:List α):Pr:=Kx (L.map R)
section
variable{α:Type}{R R':α->Pr}{L L':List α}{F:List Pr}{w:World}
def Sat.many:Sat (Aj R L::F) w↔Sat (L.map R++F) w:=Sat.star
def Sat.KU(H:Sat (Aj R L::F) w)(h:L.Perm L'):Sat (Aj R L'::F) w:=
 Sat.many.2 ((Sat.many.1 H).perm ((h.map R).append_right F))
def Sat.Iq{x:α}:Sat (Aj R (x::L)::F) w↔Sat (R x::Aj R L::F) w:=by
 constructor
 .intro H;have h1:Sat (R x::(L.map R++F)) w:=Sat.many.1 H;have a:Sat (L.map R++(R x::F)) w:=h1.perm List.perm_middle.symm;exact(Sat.many.2 a).perm (.swap _ _ _)
 .intro H;have a:Sat (L.map R++(R x::F)) w:=Sat.many.1 (H.perm (.swap _ _ _));exact Sat.many.2 (a.perm List.perm_middle)
def Sat.FQ(H:Sat (Aj R L::F) w){i:Nat}{x:α}(hi:L[i]? =some x):Sat (R x::Aj R (L.eraseIdx i)::F) w:=
 Sat.Iq.1 (H.KU (EH hi))
def Sat.Xk{y:α}{i:Nat}(H:Sat (R y::Aj R (L.eraseIdx i)::F) w)(hi:i<L.length):Sat (Aj R (L.set i y)::F) w:=
 (Sat.Iq.2 H).KU (Mj hi)
def Sat.Jb{i:Nat}{x:α}(H:Sat (R x::Aj R (L.eraseIdx i)::F) w)(hi:L[i]? =some x):Sat (Aj R L::F) w:=
 (Sat.Iq.2 H).KU (EH hi).symm
def Sat.UX{x:α}(H:Sat (R x::Aj R L::F) w):Sat (Aj R (L++[x])::F) w:=
 (Sat.Iq.2 H).KU (List.perm_append_singleton x L).symm
def Sat.NI(H:Sat F w)(R:α->Pr):Sat (Aj R []::F) w:=Sat.many.2 H
def Sat.vR:Sat (Aj R (L++L')::F) w↔Sat (Aj R L::Aj R L'::F) w:=by
 rw[Sat.many,Sat.many,List.map_append,List.append_assoc];constructor
 .intro H;have h1:Sat (L'.map R++(L.map R++F)) w:=by
   refine H.perm ?_;rw[<-List.append_assoc,<-List.append_assoc];exact List.perm_append_comm.append_right F
  exact(Sat.many.2 h1).perm List.perm_middle.symm
 .intro H;have h1:Sat (Aj R L'::(L.map R++F)) w:=H.perm List.perm_middle;refine(Sat.many.1 h1).perm ?_;rw[<-List.append_assoc,<-List.append_assoc];exact List.perm_append_comm.append_right F
def Aj.congr(h: ∀x∈L,R x=R' x):Aj R L=Aj R' L:=by
 unfold Aj;rw[List.map_congr_left h]
end
def NJ{t n z:Nat}{vs:List Value}{Rs:List Pr}{w:World}(H:Sat Rs w)(v:vs.length=n*z)(u:n<9223372036854775808){K:Nat->World->Prop}
  (a: ∀b w',Sat (Row t z ⟨some ⟨b,0,none⟩,n,n⟩ vs::Rs) w'->K b w'):AL (.cells ⟨vs⟩ t) w K:=
 A4 λw' e J he=>a _ _ (H.new (P:=Row t z ⟨some ⟨w.heap.size,0,none⟩,n,n⟩ vs) (D:=PS ⟨some ⟨w.heap.size,0,none⟩,n,n⟩) he
  ⟨λ_=>Iff.rfl,Xe e v (Nat.zero_le _) u⟩ λk j=>by obtain⟨x,O,rfl⟩:=j;grind)
def wN(u:Nat->Bool):Nat->Nat
 | 0=>0
 | n+1=>wN u n|||(if u n then 2^n else 0)
def Dh(u:Nat->Bool): ∀(n i:Nat),(wN u n).testBit i=(decide (i<n)&&u i)
 | 0,i=>by simp[wN]
 | n+1,i=>by
  simp only[wN,Nat.testBit_or,Dh u n i]
  grind
def Nj(u:Nat->Bool)(n:Nat):wN u n<2^n:=
 Nat.lt_pow_two_of_testBit _ λi hi=>by rw[Dh];simp;omega
def wN_add(u:Nat->Bool)(n:Nat):wN u (n+1)=wN u n+2^n*(u n).toNat:=by
 simp only[wN];cases h:u n
 .simp
 .rw[if_pos rfl,Nat.or_two_pow_eq_add_of_lt (Nj u n)];simp
def pB{u v:Nat->Bool}{n:Nat}(h: ∀i,i<n->u i=v i):wN u n=wN v n:=by
 apply Nat.eq_of_testBit_eq;intro i;rw[Dh,Dh]
 grind
def wN_inj{u v:Nat->Bool}{n:Nat}(h:wN u n=wN v n){i:Nat}(hi:i<n):u i=v i:=by
 have:=congrArg (λx=>x.testBit i) h;simpa[Dh,hi]using this
def W(u:Nat->Bool):Int:=(wN u 64:Nat)
def W_bnd(u:Nat->Bool):0<=W u/\W u<18446744073709551616:=by
 have:=Nj u 64;unfold W;have e:(2:Nat)^64=18446744073709551616:=by decide
 omega
def HB{u v:Nat->Bool}(h: ∀i,i<64->u i=v i):W u=W v:=by unfold W;rw[pB h]
def W_inj{u v:Nat->Bool}(h:W u=W v){i:Nat}(hi:i<64):u i=v i:=by
 unfold W at h;exact wN_inj (Int.ofNat.inj h) hi
def W_iff{u v:Nat->Bool}:W u=W v↔ ∀i,i<64->u i=v i:=⟨λh i hi=>W_inj h hi,HB⟩
def Xl:W (λ_=>false)=0:=by
 unfold W;have:wN (λ_=>false) 64=0:=by
  apply Nat.eq_of_testBit_eq;intro i;rw[Dh];simp
 omega
def Xm:W (λ_=>true)=18446744073709551615:=by
 unfold W;have:wN (λ_=>true) 64=18446744073709551615:=by
  have e:(18446744073709551615:Nat)=2^64-1:=by decide
  rw[e];apply Nat.eq_of_testBit_eq;intro i;rw[Dh,Nat.testBit_two_pow_sub_one];simp
 omega
def pC:W (λi=>i==0)=1:=by
 unfold W;have:wN (λi=>i==0) 64=1:=by
  apply Nat.eq_of_testBit_eq;intro i;rw[Dh];have:Nat.testBit 1 i=decide (0=i):=Nat.testBit_two_pow (n:=0) (m:=i)
  grind
 omega
def GC{u:Nat->Bool}:W u=0↔ ∀i,i<64->u i=false:=by
 rw[<-Xl,W_iff]
def bvW(u:Nat->Bool):(BitVec.ofInt 64 (W u)).toNat=wN u 64:=by
 unfold W;rw[BitVec.ofInt_natCast,BitVec.toNat_ofNat];exact Nat.mod_eq_of_lt (Nj u 64)
def UY{n:Nat}(h:n<18446744073709551616):IntKind.wrap .u64 (n:Int)=(n:Int):=AP
def pD(u v:Nat->Bool):EA .u64 0 (W u) (W v)=W λi=>u i&&v i:=by
 show IntKind.wrap .u64 ((BitVec.ofInt 64 (W u)&&&BitVec.ofInt 64 (W v)).toNat:Int)=_;rw[BitVec.toNat_and,bvW,bvW];have e:wN u 64&&&wN v 64=wN (λi=>u i&&v i) 64:=by
  apply Nat.eq_of_testBit_eq;intro i;rw[Nat.testBit_and,Dh,Dh,Dh]
  grind
 rw[e,UY (Nj _ 64)];rfl
def pE(u v:Nat->Bool):EA .u64 1 (W u) (W v)=W λi=>u i||v i:=by
 show IntKind.wrap .u64 ((BitVec.ofInt 64 (W u)|||BitVec.ofInt 64 (W v)).toNat:Int)=_;rw[BitVec.toNat_or,bvW,bvW];have e:wN u 64|||wN v 64=wN (λi=>u i||v i) 64:=by
  apply Nat.eq_of_testBit_eq;intro i;rw[Nat.testBit_or,Dh,Dh,Dh]
  grind
 rw[e,UY (Nj _ 64)];rfl
def OL(u v:Nat->Bool):EA .u64 3 (W u) (W v)=W λi=>u i&& !v i:=by
 show IntKind.wrap .u64 ((BitVec.ofInt 64 (W u)&&& ~~~BitVec.ofInt 64 (W v)).toNat:Int)=_;rw[BitVec.toNat_and,bvW,BitVec.toNat_not,bvW];have e:wN u 64&&&(2^64-1-wN v 64)=wN (λi=>u i&& !v i) 64:=by
  apply Nat.eq_of_testBit_eq;intro i;have e2:2^64-1-wN v 64=2^64-(wN v 64+1):=by omega
  rw[Nat.testBit_and,e2,Nat.testBit_two_pow_sub_succ (Nj v 64),Dh,Dh,Dh]
  grind
 rw[e,UY (Nj _ 64)];rfl
def pF(u:Nat->Bool){n:Int}(h0:0<=n)(h1:n<=64):Int.fdiv (W u) (2^(min n.toNat (IntKind.bits .u64)))=W λi=>decide (i+n.toNat<64)&&u (i+n.toNat):=by
 have a:IntKind.bits .u64=64:=rfl;rw[a,Nat.min_eq_left (by omega),Int.fdiv_eq_ediv_of_nonneg _ (Int.pow_nonneg (by decide))];generalize n.toNat=k;unfold W;have e:((wN u 64:Nat):Int)/2^k=((wN u 64/2^k:Nat):Int):=by grind
 rw[e];congr 1;apply Nat.eq_of_testBit_eq;intro i;rw[Nat.testBit_div_two_pow,Dh,Dh]
 grind
def pG(u:Nat->Bool){n:Int}(h0:0<=n)(h1:n<=64):u64 (W u*2^(min n.toNat (IntKind.bits .u64)))=W λi=>decide (n.toNat<=i)&&u (i-n.toNat):=by
 have a:IntKind.bits .u64=64:=rfl;rw[a,Nat.min_eq_left (by omega)];generalize n.toNat=k;unfold W;have e:((wN u 64:Nat):Int)*2^k=((wN u 64*2^k:Nat):Int):=by grind
 rw[e,KI];have e2:(((wN u 64*2^k:Nat):Int) %18446744073709551616)=((wN u 64*2^k %2^64:Nat):Int):=by omega
 rw[e2];congr 1;apply Nat.eq_of_testBit_eq;intro i;rw[Nat.testBit_mod_two_pow,Nat.testBit_mul_two_pow,Dh,Dh]
 grind
def W_get(u:Nat->Bool){n:Int}(h0:0<=n)(h1:n<64):EA .u64 0 (Int.fdiv (W u) (2^(min n.toNat (IntKind.bits .u64)))) 1=if u n.toNat then 1 else 0:=by
 rw[pF u h0 (by omega),<-pC,pD];cases hu:u n.toNat
 .rw[if_neg (by decide),GC]
  grind
 grind
def pH{x:Nat}(h0:x≠0)(h:x<2^64):EA .u64 0 (x:Int) (u64 (0-x))=((x&&&(2^64-x):Nat):Int):=by
 have e:u64 (0-(x:Int))=((2^64-x:Nat):Int):=by
  rw[KI];omega
 rw[e];show IntKind.wrap .u64 ((BitVec.ofInt 64 (x:Int)&&&BitVec.ofInt 64 ((2^64-x:Nat):Int)).toNat:Int)=_;rw[BitVec.toNat_and,BitVec.ofInt_natCast,BitVec.ofInt_natCast,BitVec.toNat_ofNat,BitVec.toNat_ofNat,Nat.mod_eq_of_lt h,Nat.mod_eq_of_lt (by omega)];exact UY (Nat.lt_of_le_of_lt Nat.and_le_left h)
def vT{x:Nat}(h0:x≠0)(h:x<2^64):Lib.ctz 64 x<64/\x.testBit (Lib.ctz 64 x)=true/\ ∀i,i<Lib.ctz 64 x->x.testBit i=false:=by
 obtain⟨m,hm,a⟩:=Lib.ctzFrom_spec 64 x (by omega) h;have e:Lib.ctz 64 x=Lib.ctzFrom 64 x:=by simp[Lib.ctz,h0]
 grind
def Ec(g:Nat)(w:World):Prop:= ∀i,i<64->w.cell? ⟨g,i,none⟩=some (.int .u8 (Lib.deBruijn64tab.getD i 0:Nat))
def Ec.ext{g:Nat}{w w':World}(h:Ec g w)(he:Ext AN w w'):Ec g w':=λi hi=>he.cell (h i hi) λf=>f
def D(B:Nat):Nat->(Nat->Nat)->Nat
 | 0,_=>0
 | n+1,d=>d 0+B*D B n λj=>d (j+1)
def PD{B:Nat}: ∀{n:Nat} {d e:Nat->Nat},(∀j,j<n->d j=e j)->D B n d=D B n e
 | 0,_,_,_=>rfl
 | n+1,d,e,h=>by
  simp only[D];rw[h 0 (by omega),PD λj a=>h (j+1) (by omega)]
def Xn(B:Nat): ∀(n:Nat) (d:Nat->Nat),D B (n+1) d=D B n d+B^n*d n
 | 0,d=>by simp[D]
 | n+1,d=>by
  have a:=Xn B n λj=>d (j+1);show d 0+B*D B (n+1) (λj=>d (j+1))=d 0+B*D B n (λj=>d (j+1))+B^(n+1)*d (n+1)
  grind
def dE{B:Nat}: ∀{n:Nat} {d:Nat->Nat},(∀j,d j<B)->D B n d<B^n
 | 0,_,_=>by simp[D]
 | n+1,d,h=>by
  have a:=dE (B:=B) (n:=n) (d:=λj=>d (j+1)) λj=>h (j+1);have h0:=h 0;have e:B^(n+1)=B*B^n:=by grind
  have:B*(D B n (λj=>d (j+1))+1)<=B*B^n:=Nat.mul_le_mul_left _ a;rw[Nat.mul_add]at this;rw[e];simp only[D];omega
def UZ(B:Nat): ∀(n:Nat) (d e:Nat->Nat),D B n d+D B n e=D B n λj=>d j+e j
 | 0,_,_=>rfl
 | n+1,d,e=>by
  simp only[D];rw[<-UZ B n,Nat.mul_add];omega
def Zb{B:Nat}{n:Nat}{d:Nat->Nat}(h0:d 0<B)(a:d n=0):D B n d/B=D B n λj=>d (j+1):=by
 cases n with
 | zero=>simp[D]
 | succ n=>
  have e:D B (n+1) (λj=>d (j+1))=D B n λj=>d (j+1):=by rw[Xn];simp[a]
  rw[e];simp only[D];rw[Nat.add_mul_div_left _ _ (by omega),Nat.div_eq_of_lt h0,Nat.zero_add]
def Xo{B n:Nat}{d:Nat->Nat}(h: ∀j,d j<B)(hz: ∀j,n<=j->d j=0): ∀k,D B n d/B^k=D B n λj=>d (j+k)
 | 0=>by simp
 | k+1=>by
  rw[Nat.pow_succ,<-Nat.div_div_eq_div_mul,Xo h hz k,Zb (d:=λj=>d (j+k)) (h _) (hz _ (by omega))]
  grind
def lJ{b x y X Y:Nat}(e:x<2^b)(a:y<2^b):(x+2^b*X)&&&(y+2^b*Y)=(x&&&y)+2^b*(X&&&Y):=by
 apply Nat.eq_of_testBit_eq;intro i;rw[Nat.add_comm x,Nat.add_comm y,Nat.add_comm (x&&&y),Nat.testBit_and,Nat.testBit_two_pow_mul_add _ e,Nat.testBit_two_pow_mul_add _ a,Nat.testBit_two_pow_mul_add _ (Nat.and_lt_two_pow x a)]
 grind
def D_and{b:Nat}: ∀(n:Nat) (d m:Nat->Nat),(∀j,d j<2^b)->(∀j,m j<2^b)->D (2^b) n d&&&D (2^b) n m=D (2^b) n λj=>d j&&&m j
 | 0,_,_,_,_=>by simp[D]
 | n+1,d,m,h1,h2=>by
  simp only[D];rw[lJ (h1 0) (h2 0),D_and n _ _ (λj=>h1 (j+1)) λj=>h2 (j+1)]
def pI(B:Nat): ∀(n:Nat) (d:Nat->Nat),D B (2*n) d=D (B*B) n λj=>d (2*j)+B*d (2*j+1)
 | 0,_=>rfl
 | n+1,d=>by
  rw[show 2*(n+1)=2*n+1+1 by omega];simp only[D];rw[pI B n]
  grind
def oC(f:Nat->Nat):Nat->Nat:=λj=>if j %2=0 then f j else 0
def Ua{b B:Nat}(a:B=2^b)(n:Nat)(d:Nat->Nat)(h: ∀j,d j<B):D B n d&&&D B n (oC λ_=>B-1)=D B n (oC d):=by
 subst a;have e:0<2^b:=Nat.two_pow_pos b;rw[D_and n d _ h λj=>by dsimp only[oC];grind];congr 1;funext j;dsimp only[oC];split
 .exact Nat.and_two_pow_sub_one_of_lt_two_pow (h j)
 .simp
def pJ(B n:Nat)(d:Nat->Nat):D B (2*n) (oC d)=D (B*B) n λj=>d (2*j):=by
 rw[pI];congr 1;funext j;unfold oC;rw[if_pos (by omega),if_neg (by omega)];omega
def wN_D(u:Nat->Bool): ∀n,wN u n=D 2 n λj=>(u j).toNat
 | 0=>rfl
 | n+1=>by rw[wN_add,Xn,wN_D u n]
def cN(u:Nat->Bool):Nat->Nat
 | 0=>0
 | n+1=>cN u n+(u n).toNat
def Zc(u:Nat->Bool)(n:Nat):cN u n<=n:=by
 induction n with
 | zero=>exact Nat.le_refl _
 | succ n ih=>simp only[cN];have:=Bool.toNat_le (u n);omega
def swar{u:Nat->Bool}(hu: ∀i,64<=i->u i=false){x0 x1 x2 x3 T K Y:Nat}(h0:x0=wN u 64)(h1:x1=(x0/2&&&6148914691236517205)+(x0&&&6148914691236517205))
  (h2:x2=(x1/4&&&3689348814741910323)+(x1&&&3689348814741910323))(h3:x3=(x2/16+x2)&&&1085102592571150095)(h4:T=x3+x3/256)(h5:K=T+T/65536)(h6:Y=K+K/4294967296):
  x1<18446744073709551616/\x2<18446744073709551616/\x2/16+x2<18446744073709551616/\T<18446744073709551616/\K<18446744073709551616/\Y<9223372036854775808/\Y %128=cN u 64:=by
 obtain⟨d,hd⟩: ∃d:Nat->Nat,∀j,d j=(u j).toNat:=⟨_,λ_=>rfl⟩;have hb: ∀j,d j<=1:=λj=>by rw[hd];exact Bool.toNat_le (u j)
 have hz: ∀j,64<=j->d j=0:=λj O=>by rw[hd,hu j O];rfl
 have e0:x0=D 2 64 d:=by rw[h0,wN_D];exact PD λj _=>(hd j).symm
 have m1:(6148914691236517205:Nat)=D 2 64 (oC λ_=>2-1):=by decide+kernel
 have m2:(3689348814741910323:Nat)=D 4 32 (oC λ_=>4-1):=by decide+kernel
 have m3:(1085102592571150095:Nat)=D 16 16 (oC λ_=>16-1):=by decide+kernel
 have q1: ∀d,D 2 64 (oC d)=D 4 32 λj=>d (2*j):=λd=>pJ 2 32 d;have q2: ∀d,D 4 32 (oC d)=D 16 16 λj=>d (2*j):=λd=>pJ 4 16 d;have q3: ∀d,D 16 16 (oC d)=D 256 8 λj=>d (2*j):=λd=>pJ 16 8 d;obtain⟨c,a⟩: ∃c:Nat->Nat,∀j,c j=d (2*j+1)+d (2*j):=⟨_,λ_=>rfl⟩;have bc: ∀j,c j<=2:=λj=>by rw[a];grind
 have zc: ∀j,32<=j->c j=0:=λj O=>by rw[a,hz _ (by omega),hz _ (by omega)]
 have e1:x1=D 4 32 c:=by
  rw[h1,e0,Zb (by have:=hb 0;omega) (hz 64 (by omega)),m1,Ua (b:=1) rfl 64 _ (λj=>by have:=hb (j+1);omega),Ua (b:=1) rfl 64 _ (λj=>by have:=hb j;omega),q1,q1,UZ];exact PD λj _=>(a j).symm
 have l1:x1<4^32:=by rw[e1];exact dE λj=>by have:=bc j;omega
 obtain⟨e,v⟩: ∃e:Nat->Nat,∀j,e j=c (2*j+1)+c (2*j):=⟨_,λ_=>rfl⟩;have be: ∀j,e j<=4:=λj=>by rw[v];grind
 have ze: ∀j,16<=j->e j=0:=λj O=>by rw[v,zc _ (by omega),zc _ (by omega)]
 have e2:x2=D 16 16 e:=by
  rw[h2,e1,Zb (by have:=bc 0;omega) (zc 32 (by omega)),m2,Ua (b:=2) rfl 32 _ (λj=>by have:=bc (j+1);omega),Ua (b:=2) rfl 32 _ (λj=>by have:=bc j;omega),q2,q2,UZ];exact PD λj _=>(v j).symm
 have l2:x2<16^16:=by rw[e2];exact dE λj=>by have:=be j;omega
 have aA:x2/16+x2=D 16 16 λj=>e (j+1)+e j:=by
  rw[e2,Zb (by have:=be 0;omega) (ze 16 (by omega)),UZ]
 have l3:x2/16+x2<16^16:=by rw[aA];exact dE λj=>by grind
 obtain⟨g,J⟩: ∃g:Nat->Nat,∀j,g j=e (2*j+1)+e (2*j):=⟨_,λ_=>rfl⟩;have bg: ∀j,g j<=8:=λj=>by rw[J];grind
 have zg: ∀j,8<=j->g j=0:=λj O=>by rw[J,ze _ (by omega),ze _ (by omega)]
 have e3:x3=D 256 8 g:=by
  rw[h3,aA,m3,Ua (b:=4) rfl 16 _ (λj=>by grind),q3];exact PD λj _=>(J j).symm
 have e4:T=D 256 8 λj=>g j+g (j+1):=by
  rw[h4,e3,Zb (by have:=bg 0;omega) (zg 8 (by omega)),UZ]
 have l4:T<256^8:=by rw[e4];exact dE λj=>by grind
 have e5:K=D 256 8 λj=>g j+g (j+1)+(g (j+2)+g (j+3)):=by
  have:=Xo (B:=256) (n:=8) (d:=λj=>g j+g (j+1)) (λj=>by grind) (λj O=>by grind) 2;rw[h5,e4,show(65536:Nat)=256^2 from rfl,this,UZ]
 have l5:K<256^8:=by rw[e5];exact dE λj=>by grind
 obtain⟨k,hk⟩: ∃k:Nat->Nat,∀j,k j=g j+g (j+1)+(g (j+2)+g (j+3)):=⟨_,λ_=>rfl⟩;have bk: ∀j,k j<=32:=λj=>by rw[hk];grind
 have zk: ∀j,8<=j->k j=0:=λj O=>by rw[hk,zg _ (by omega),zg _ (by omega),zg _ (by omega),zg _ (by omega)]
 have aF:K=D 256 8 k:=by rw[e5];exact PD λj _=>(hk j).symm
 have e6:Y=D 256 8 λj=>k j+k (j+4):=by
  have:=Xo (B:=256) (n:=8) (d:=k) (λj=>by have:=bk j;omega) zk 4;rw[h6,aF,show(4294967296:Nat)=256^4 from rfl,this,UZ]
 have l6:Y<9223372036854775808:=by
  rw[e6,Xn];have h1:D 256 7 (λj=>k j+k (j+4))<256^7:=dE λj=>by grind
  grind
 have p1:(4:Nat)^32=18446744073709551616:=by decide
 have p2:(16:Nat)^16=18446744073709551616:=by decide
 have p3:(256:Nat)^8=18446744073709551616:=by decide
 rw[p1]at l1;rw[p2]at l2 l3;rw[p3]at l4 l5;refine⟨l1,l2,l3,l4,l5,l6,?_⟩;have e7:Y %128=k 0+k 4:=by
  rw[e6];have b0:=bk 0;have b4:=bk 4;rw[show(8:Nat)=7+1 from rfl];simp only[D,Nat.zero_add];omega
 have aM:cN u 64=k 0+k 4:=by
  simp only[hk,J,v,a,hd,Nat.reduceMul,Nat.reduceAdd];simp only[cN,Nat.reduceMul,Nat.reduceAdd];omega
 omega
structure RgF(k:IntKind)(es:Array MapEntry)(c:Nat)(seen:Array Nat)(last:Nat)(m:List (Int×Value))(cur:Option Int)(done:List Int):Prop where
 ok:MapI k es c m
 lst:seen.isEmpty=true∨last=c
 nd:done.Nodup
 sub: ∀n∈done,aget m n≠none
 met: ∀e∈es.toList,seen.contains e.born=true↔ ∃n∈done,e.key= .int k n
 cur: ∀n,cur=some n->last=c/\ ∃e,e∈es.toList/\seen.back?=some e.born/\e.key= .int k n/\aget m n=some e.val
def MapI.key_inj{k:IntKind}{es:Array MapEntry}{c:Nat}{m:List (Int×Value)}(h:MapI k es c m){x y:MapEntry}(u:x∈es.toList)(v:y∈es.toList)(he:x.key=y.key):x=y:=by
 have h1:(es.toList.map (·.key)).Nodup:=by
  have e:es.toList.map (·.key)=m.map λp=>Value.int k p.1:=by
   have:=congrArg (List.map Prod.fst) h.keys;simpa[List.map_map,Function.comp_def]using this
  rw[e,show(m.map λp=>Value.int k p.1)=(m.map (·.1)).map (Value.int k) by simp];refine List.Pairwise.map _ (λa b j=> ?_) h.nodup
  grind
 exact J0 h1 u v he
def MapI.R9{k:IntKind}{es:Array MapEntry}{c:Nat}{m:List (Int×Value)}(h:MapI k es c m){e:MapEntry}(he:e∈es.toList):es.find? (λx:MapEntry=>x.born==e.born)=some e:=by
 rw[<-Array.find?_toList];have: ∀l:List MapEntry,(l.map (·.born)).Nodup->e∈l->l.find? (λx:MapEntry=>x.born==e.born)=some e:=by
  intro l
  induction l with
  | nil=>grind
  | cons x r ih=>grind
 exact this es.toList h.born he
def V6(r mb:Nat)(k:IntKind)(g:Int->Option Value)(cur:Option Int)(done:List Int)(N:Nat):Pr where
 holds D w:=(∀i,D i↔i=r∨i=mb)/\r≠mb/\ ∃es c seen last m,w.heap[r]? =some (.mapIter (some mb) c seen last)/\w.heap[mb]? =some (.map es c)/\
  RgF k es c seen last m cur done/\(∀i,aget m i=g i)/\Ig es seen=N
 loc h he hS:=⟨h.1,h.2.1,let⟨es,c,seen,last,m,h1,a,e⟩:=h.2.2;⟨es,c,seen,last,m,he.obj h1 (hS _ ((h.1 _).2 (.inl rfl))),he.obj a (hS _ ((h.1 _).2 (.inr rfl))),e⟩⟩
 lt h j:=by
  obtain⟨es,c,seen,last,m,h1,a,e⟩:=h.2.2;rcases(h.1 _).1 j with rfl|rfl
  .exact FM h1
  .exact FM a
def pK(r mb:Nat)(w:World):Nat:=match w.heap[r]?,w.heap[mb]? with
 | some (.mapIter _ _ seen _),some (.map es _)=>Ig es seen
 | _,_=>0
section
variable{F:List Pr}{w w':World}{r mb:Nat}{k:IntKind}{g:Int->Option Value}{cur:Option Int}{done:List Int}{N:Nat}
def Sat.iV(H:Sat (V6 r mb k g cur done N::F) w):pK r mb w=N:=by
 obtain⟨_,h⟩:=H.head;obtain⟨es,c,seen,last,m,h1,a,j,u,e⟩:=h.2.2;simp only[pK,h1,a];exact e
def Sat.iW(H:Sat (V6 r mb k g cur done N::F) w):done.Nodup/\ ∀n∈done,g n≠none:=by
 obtain⟨_,h⟩:=H.head;obtain⟨es,c,seen,last,m,h1,u,a,e,v⟩:=h.2.2;exact⟨a.nd,λn j=>by rw[<-e];exact a.sub n j⟩
def Sat.rngOut(H:Sat (V6 r mb k g cur done N::F) w):Sat (CM mb k g::F) w:=by
 obtain⟨D,h,u⟩:=H.step;obtain⟨es,c,seen,last,m,h1,a,e,j,v⟩:=h.2.2;exact u w (λi=>i=mb) _ (Ext.refl _ _) ⟨λ_=>Iff.rfl,es,c,m,a,e.ok,j⟩ λi hi=>.inl ((h.1 i).2 (.inr hi))
def RNG_mk(H:Sat (CM mb k g::F) w){K:Nat->World->Prop}(J: ∀r N w',Sat (V6 r mb k g none [] N::F) w'->K r w'): ∃cl,N3 w (some mb) cl/\AL (Jz (some mb) cl) w K:=by
 obtain⟨es,c,m,h1,u,v⟩:=H.O9;refine⟨c,⟨es,h1⟩,A4 λw' O Y he=> ?_⟩;obtain⟨D,h,j⟩:=H.step;have T:mb<w.heap.size:=FM h1;refine J _ (Ig es #[]) w' (j w' (λi=>i=w.heap.size∨i=mb) _ (he.mono λ_ _ f=>f.elim) ⟨λ_=>Iff.rfl,by omega,es,c,#[],c,m,O,he.obj h1 λf=>f,⟨u,.inl rfl,List.nodup_nil,(λn a=>by cases a),(λe _=>by simp),(λn a=>by cases a)⟩,v,rfl⟩ ?_);rintro i (rfl|rfl)
 .exact .inr (Nat.le_refl _)
 .exact .inl ((h.1 _).2 rfl)
def pL(H:Sat (V6 r mb k g cur done N::F) w){Kn:World->Prop}{Ks:Value->Value->World->Prop}(h0: ∀w',Sat (V6 r mb k g cur done N::F) w'->(∀n,n∈done↔g n≠none)->Kn w')
  (h1: ∀n v w' N',g n=some v->n∉done->N'<N->Sat (V6 r mb k g (some n) (done++[n]) N'::F) w'->Ks (.int k n) v w'):TZ r w Kn Ks:=by
 have HN: ∀w',(w'=w∨w'=w.drew)->Sat (V6 r mb k g cur done N::F) w':=λw' h=>by rcases h with rfl|rfl;exact H;exact H.drew
 obtain⟨D,h,_⟩:=H.step;obtain⟨es,c,seen,last,m,g1,g2,g3,g4,g5⟩:=h.2.2;refine⟨some mb,c,seen,last,g1,es,c,g2,?_,?_,?_⟩
 .rcases g3.lst with hl|rfl
  .simp[hl]
  .by_cases he:es.isEmpty=true
   .simp[he]
   .have:es.all (λx=>decide (x.born≥last))=false:=by
     have aQ:0<es.size:=Nat.pos_of_ne_zero λe=>he (by grind);have hm:es[0]∈es.toList:=by simp
     have:=g3.ok.lt _ hm
     grind
    simp[this]
 .intro w' u Y;refine h0 w' (HN w' u) λn=>⟨λhn=>by rw[<-g4];exact g3.sub n hn,λhn=> ?_⟩;have hf:(leftOf es seen).filter (λx=>decide (x.born<c))=leftOf es seen:=by
   apply Array.filter_eq_self.2;intro e he;exact decide_eq_true (g3.ok.lt e (G8.1 he).1)
  rw[hf]at Y;rw[<-g4]at hn;cases hg:aget m n with
  | none=>grind
  | some v=>
   obtain⟨e,he,hk,hv⟩:=g3.ok.To hg;have O:seen.contains e.born=true:=by
    cases hsc:seen.contains e.born with
    | true=>rfl
    | false=>
     have:e∈leftOf es seen:=G8.2 ⟨he,hsc⟩
     grind
   obtain⟨n',j,K⟩:=(g3.met e he).1 O
   grind
 .intro w' e u he;obtain⟨q1,q2⟩:=G8.1 he;obtain⟨n,J,aH⟩:=g3.ok.Qq q1;rw[J];have aJ:n∉done:=λhn=>by
   have:=(g3.met e q1).2 ⟨n,hn,J⟩
   grind
  have T:Ig es (seen.push e.born)<Ig es seen:=by
   unfold Ig;refine filter_lt (λx _ hx=> ?_) ⟨e,q1,by grind,by simp⟩
   grind
  refine h1 n e.val _ (Ig es (seen.push e.born)) (by rw[<-g4];exact aH) aJ (by rw[<-g5];exact T) ?_;obtain⟨D',h',aK⟩:=(HN w' u).step;have aB:Ext AN w w':=by rcases u with rfl|rfl;exact Ext.refl _ _;exact Ext.drew _ _
  have aG:=aB.obj g2 λf=>f;have aI:r<w'.heap.size:=by have:=FM g1;have:=aB.size;omega
  refine aK _ D' _ ((Ext.GR w' r _).mono λi _ hi=>(h'.1 i).2 (.inl hi)) ⟨h'.1,h'.2.1,es,c,seen.push e.born,c,m,?_,?_,⟨g3.ok,.inr rfl,?_,?_,?_,?_⟩,g4,rfl⟩ λi hi=>.inl hi
  .simp[World.GR,aI]
  .exact(Ext.GR w' r _).obj aG λe:mb=r=>h'.2.1 e.symm
  .rw[List.nodup_append];exact⟨g3.nd,by simp,λa ha b hb=>by simp at hb;subst hb;rintro rfl;grind⟩
  .intro n' j;rcases List.mem_append.1 j with h|h
   .exact g3.sub n' h
   grind
  .intro x hx;constructor
   .intro O;simp at O;rcases O with O|O
    .obtain⟨n',j,K⟩:=(g3.met x hx).1 (by grind)
     grind
    .have:x=e:=J0 g3.ok.born hx q1 O
     grind
   .rintro⟨n',j,K⟩;rcases List.mem_append.1 j with h|h
    .have:=(g3.met x hx).2 ⟨n',h,K⟩
     grind
    .simp at h;subst h;have:x=e:=g3.ok.key_inj hx q1 (by grind)
     grind
  grind
def vV{n:Int}(H:Sat (V6 r mb k g (some n) done N::F) w){K:Value->Value->G5->Prop}(j: ∀v S,g n=some v->K (.int k n) v S):oA r w K:=by
 obtain⟨_,h⟩:=H.head;obtain⟨es,c,seen,last,m,g1,g2,g3,g4,g5⟩:=h.2.2;obtain⟨rfl,e,he,a,u,J⟩:=g3.cur n rfl;refine⟨mb,last,last,seen,es,last,e.born,e,⟨g1,g2⟩,a,rfl,g3.ok.R9 he,?_⟩
 grind
end
abbrev Kd:=Int×Bool×Bool×Bool
def Np(k:Kd):List Value:=[.int .i64 k.1,.bool k.2.1,.bool k.2.2.1,.bool k.2.2.2]
def kget:List (Kd×Value)->Kd->Option Value
 | [],_=>none
 | p::r,n=>if p.1=n then some p.2 else kget r n
structure LQ(es:Array MapEntry)(clock:Nat)(m:List (Kd×Value)):Prop where
 keys:es.toList.map (λe=>(e.key,e.val))=m.map (λp=>(Value.agg ⟨Np p.1⟩,p.2))
 nodup:(m.map (·.1)).Nodup
 born:(es.toList.map (·.born)).Nodup
 lt: ∀e∈es.toList,e.born<clock
def LQ.empty:LQ #[] 0 []:=⟨rfl,by simp,by simp,by simp⟩
def eqA_kd(a b:Kd):eqA (Np a) (Np b)=some (decide (a=b)):=by
 obtain⟨a1,a2,e,j⟩:=a;obtain⟨b1,u,v,J⟩:=b;by_cases h1:a1=b1
 .subst h1;cases a2<;>cases u<;>cases e<;>cases v<;>cases j<;>cases J<;>simp[Np,eqA]
 .have:(a1==b1)=false:=by simp[h1]
  simp[Np,eqA,h1,this]
def Ub(n:Kd): ∀(es:List MapEntry) (m:List (Kd×Value)) (i:Nat),es.map (λe=>(e.key,e.val))=m.map (λp=>(Value.agg ⟨Np p.1⟩,p.2))->
  ∃res,findA (Np n) es i=some res/\
   ((res=none/\kget m n=none)∨ ∃j v,res=some (i+j,v)/\kget m n=some v/\m[j]? =some (n,v)/\j<es.length)
 | [],[],i,_=>⟨none,rfl,.inl ⟨rfl,rfl⟩⟩
 | [],_::_,i,h=>by simp at h
 | _::_,[],i,h=>by simp at h
 | e::r,p::m,i,h=>by
  simp only[List.map_cons,List.cons.injEq,Prod.mk.injEq]at h;obtain⟨⟨K,T⟩,O⟩:=h;simp only[findA,K,eqA_kd];by_cases hn:n=p.1
  .subst hn;refine⟨some (i,e.val),by simp,.inr ⟨0,p.2,by simp[T],by simp[kget],by simp,by simp⟩⟩
  .simp only[hn,decide_false];obtain⟨res,h1,J⟩:=Ub n r m (i+1) O;refine⟨res,h1,?_⟩;rcases J with ⟨a,u⟩|⟨j,v,a,u,Y,h6⟩
   .exact .inl ⟨a,by simp[kget,Ne.symm hn,u]⟩
   .refine .inr ⟨j+1,v,by rw[a];grind,by simp[kget,Ne.symm hn,u],by grind,by simp;omega⟩
def LQ.find{es:Array MapEntry}{c:Nat}{m:List (Kd×Value)}(h:LQ es c m)(n:Kd):
  ∃res,findA (Np n) es.toList 0=some res/\((res=none/\kget m n=none)∨ ∃j v,res=some (j,v)/\kget m n=some v/\m[j]? =some (n,v)/\j<es.size):=by
 obtain⟨res,h1,a⟩:=Ub n es.toList m 0 h.keys
 grind
def lK{n:Kd}{b:Nat}{w:World}{z:Value}{K:Value->Bool->Array MapEntry->Prop}{es:Array MapEntry}{c:Nat}{m:List (Kd×Value)}
  (J:w.heap[b]? =some (.map es c))(h:LQ es c m)(a:K ((kget m n).getD z) (kget m n).isSome es):LKA (Np n) (some b) w z K:=by
 obtain⟨res,h1,u⟩:=h.find n;refine⟨es,res,⟨c,J⟩,h1,?_⟩;rcases u with ⟨rfl,e⟩|⟨j,v,rfl,e,_⟩
 .rw[e]at a;exact a
 .rw[e]at a;exact a
def Mm{m:List (Kd×Value)}{n:Kd}{q:List (Kd×Value)}(h:kget m n=none):kget (m++q) n=kget q n:=by
 induction m with
 | nil=>rfl
 | cons p r ih=>
  simp only[kget]at h;split at h
  .cases h
  .rename_i hp;simp[kget,hp,ih h]
def V7{m:List (Kd×Value)}{n:Kd}:kget m n=none↔n∉m.map (·.1):=by
 induction m with
 | nil=>simp[kget]
 | cons p r ih=>
  simp only[kget,List.map_cons,List.mem_cons,not_or]
  grind
def SA{m q:List (Kd×Value)}{n:Kd}{v:Value}(h:kget m n=some v):kget (m++q) n=some v:=by
 induction m with
 | nil=>cases h
 | cons p r ih=>
  simp only[kget]at h;by_cases hp:p.1=n
  .rw[if_pos hp]at h;simp[kget,hp,h]
  .rw[if_neg hp]at h;simp[kget,hp,ih h]
def pM{m:List (Kd×Value)}{n:Kd}{v:Value}{j:Nat}{u:Value}(a:m[j]? =some (n,u))(K:(m.map (·.1)).Nodup):
  (∀i,kget (m.set j (n,v)) i=if i=n then some v else kget m i)/\(m.set j (n,v)).map (·.1)=m.map (·.1):=by
 induction m generalizing j with
 | nil=>simp at a
 | cons p r ih=>
  cases j with
  | zero=>
   simp at a;subst a;refine⟨λi=> ?_,by simp⟩;simp only[List.set_cons_zero,kget]
   grind
  | succ j=>
   simp only[List.map_cons,List.nodup_cons]at K;obtain⟨h1,T⟩:=ih (by simpa using a) K.2;have J:n∈r.map (·.1):=List.mem_map.2 ⟨_,List.mem_of_getElem? (by simpa using a),rfl⟩;have O:p.1≠n:=λe=>K.1 (e▸J);refine⟨λi=> ?_,by grind⟩;simp only[List.set_cons_succ,kget,h1]
   grind
def LQ.put{es:Array MapEntry}{c:Nat}{m:List (Kd×Value)}(h:LQ es c m)(n:Kd)(v:Value){res:Option (Nat×Value)}(hf:findA (Np n) es.toList 0=some res):
  ∃J c' K,mapPut es c (.agg ⟨Np n⟩) v res= .map J c'/\LQ J c' K/\(∀i,kget K i=if i=n then some v else kget m i)/\K.length<=m.length+1/\
   (kget m n=none->K.length=m.length+1)/\(kget m n≠none->K.length=m.length):=by
 obtain⟨O,h1,h2⟩:=h.find n;have:O=res:=by rw[h1]at hf;exact Option.some.inj hf
 subst this;rcases h2 with ⟨rfl,T⟩|⟨j,u,rfl,T,h4,h5⟩
 .refine⟨_,_,m++[(n,v)],rfl,⟨?_,?_,?_,?_⟩,λi=> ?_,by simp,by simp,λh=>absurd T h⟩
  .simp[h.keys]
  .rw[List.map_append,List.nodup_append];refine⟨h.nodup,by simp,λa ha b Y=> ?_⟩;simp at Y;subst Y;intro e;subst e;exact V7.1 T ha
  .simp only[Array.toList_push,List.map_append,List.nodup_append];refine⟨h.born,by simp,λa ha b Y=> ?_⟩;simp at Y;obtain⟨e,he,rfl⟩:=List.mem_map.1 ha;have:=h.lt e he;omega
  .intro e he;simp only[Array.toList_push,List.mem_append,List.mem_singleton]at he;rcases he with he|rfl
   .have:=h.lt e he;omega
   .simp
  .by_cases hi:i=n
   .subst hi;rw[if_pos rfl,Mm T];simp[kget]
   .rw[if_neg hi];cases hg:kget m i with
    | none=>rw[Mm hg];simp[kget,Ne.symm hi]
    | some u=>exact SA hg
 .obtain⟨g1,g2⟩:=pM (v:=v) h4 h.nodup;refine⟨_,_,m.set j (n,v),rfl,⟨?_,by rw[g2];exact h.nodup,?_,?_⟩,g1,by simp,(λh=>by grind),λ_=>by simp⟩
  .apply List.ext_getElem?;intro i;have hk:=congrArg (λl=>l[i]?) h.keys
   grind
  .have:(es.modify j λe=>{e with key:=.agg ⟨Np n⟩,val:=v}).toList.map (·.born)=es.toList.map (·.born):=by
    apply List.ext_getElem?
    grind
   rw[this];exact h.born
  .intro e he;obtain⟨i,hi,rfl⟩:=List.mem_iff_getElem.1 he;simp only[Array.getElem_toList,Array.getElem_modify];have aF:i<es.size:=by simpa using hi
   split
   .exact h.lt es[i] (by simp)
   .exact h.lt es[i] (by simp)
def dF{n:Kd}{v:Value}{b:Nat}{w:World}{K:World->Prop}{es:Array MapEntry}{c:Nat}{m:List (Kd×Value)}
  (J:w.heap[b]? =some (.map es c))(h:LQ es c m)
  (hK: ∀w' a j e,w'.heap[b]? =some (.map a j)->LQ a j e->(∀i,kget e i=if i=n then some v else kget m i)->e.length<=m.length+1->
   (kget m n=none->e.length=m.length+1)->(kget m n≠none->e.length=m.length)->Ext (Ja b) w w'->w'.heap.size=w.heap.size->K w'):cO (Np n) v (some b) w K:=by
 obtain⟨res,h1,_⟩:=h.find n;refine⟨b,es,c,res,rfl,J,h1,?_⟩;obtain⟨a,j,e,O,T,Y,h5,h6,h7⟩:=h.put n v h1;rw[O];have u:=FM J;exact hK _ a j e (by simp[World.GR,u]) T Y h5 h6 h7 (Ext.GR w b _) (by simp[World.GR])
def LQ.Qq{es:Array MapEntry}{c:Nat}{m:List (Kd×Value)}(h:LQ es c m){e:MapEntry}(he:e∈es.toList):
  ∃n,e.key= .agg ⟨Np n⟩/\kget m n=some e.val:=by
 obtain⟨i,hi⟩:=List.mem_iff_getElem?.1 he;have a:=congrArg (λl=>l[i]?) h.keys;simp only[List.getElem?_map,hi,Option.map_some]at a;cases hm:m[i]? with
 | none=>grind
 | some p=>
  rw[hm]at a;simp only[Option.map_some,Option.some.injEq,Prod.mk.injEq]at a;refine⟨p.1,a.1,?_⟩;have: ∀(m:List (Kd×Value)) (i:Nat),(m.map (·.1)).Nodup->m[i]? =some p->kget m p.1=some p.2:=by
   intro m
   induction m with
   | nil=>grind
   | cons q r ih=>
    intro i u hi;simp only[List.map_cons,List.nodup_cons]at u;cases i with
    | zero=>simp at hi;subst hi;simp[kget]
    | succ i=>
     have j:p.1∈r.map (·.1):=List.mem_map.2 ⟨_,List.mem_of_getElem? (by simpa using hi),rfl⟩;have v:q.1≠p.1:=λe=>u.1 (e▸j);simp[kget,v,ih i u.2 (by grind)]
  rw[this m i h.nodup hm,a.2]
def LQ.To{es:Array MapEntry}{c:Nat}{m:List (Kd×Value)}(h:LQ es c m){n:Kd}{v:Value}(J:kget m n=some v):
  ∃e∈es.toList,e.key= .agg ⟨Np n⟩/\e.val=v:=by
 obtain⟨res,h1,K⟩:=h.find n;rcases K with ⟨_,a⟩|⟨j,u,rfl,a,T,Y⟩
 .grind
 .rw[a]at J;cases J;have O:=congrArg (λl=>l[j]?) h.keys
  grind
def pN{a b:Kd}(h:Value.agg ⟨Np a⟩=Value.agg ⟨Np b⟩):a=b:=by
 obtain⟨a1,a2,e,j⟩:=a;obtain⟨b1,u,v,J⟩:=b;simp only[Np,Value.agg.injEq,Array.mk.injEq,List.cons.injEq,Value.int.injEq,Value.bool.injEq,true_and,and_true]at h
 grind
def MapK(b:Nat)(g:Kd->Option Value):Pr where
 holds D w:=(∀i,D i↔i=b)/\ ∃es c m,w.heap[b]? =some (.map es c)/\LQ es c m/\ ∀i,kget m i=g i
 loc h he hS:=⟨h.1,let⟨es,c,m,h1,h2⟩:=h.2;⟨es,c,m,he.obj h1 (hS _ ((h.1 _).2 rfl)),h2⟩⟩
 lt h hk:=by have:=(h.1 _).1 hk;grind
section
variable{F:List Pr}{w w':World}{b:Nat}{g:Kd->Option Value}
def iX(H:Sat F w){K:Nat->World->Prop}(a: ∀b w',Sat (MapK b (λ_=>none)::F) w'->Ext AN w w'->K b w'):AL (.map #[] 0) w K:=
 A4 λw' e u he=>a _ _ (H.new (P:=MapK w.heap.size λ_=>none) (D:=λk=>k=w.heap.size) he ⟨λ_=>Iff.rfl,_,_,[],e,LQ.empty,λ_=>rfl⟩ λk j=>by omega) he
def Sat.Uc(H:Sat (MapK b g::F) w): ∃es c m,w.heap[b]? =some (.map es c)/\LQ es c m/\ ∀i,kget m i=g i:=let⟨_,h⟩:=H.head;h.2
def Xp(H:Sat (MapK b g::F) w){n:Kd}{z:Value}{K:Value->Bool->Array MapEntry->Prop}(j: ∀es,(∃c,w.heap[b]? =some (.map es c))->K ((g n).getD z) (g n).isSome es):LKA (Np n) (some b) w z K:=by
 obtain⟨es,c,m,h1,a,e⟩:=H.Uc;refine lK h1 a ?_;rw[e];exact j es ⟨c,h1⟩
def Sat.pO(H:Sat (MapK b g::F) w){a:Array MapEntry}{e:Nat}{j:List (Kd×Value)}{u:Kd->Option Value}(he:Ext (Ja b) w w')(h1:w'.heap[b]? =some (.map a e))(v:LQ a e j)(J: ∀i,kget j i=u i):
  Sat (MapK b u::F) w':=by
 obtain⟨D,h,O⟩:=H.step;exact O w' D _ (he.mono λi _ hi=>(h.1 i).2 hi) ⟨h.1,a,e,j,h1,v,J⟩ λk K=>.inl K
def Xq(H:Sat (MapK b g::F) w){n:Kd}{v:Value}{K:World->Prop}(u: ∀w',Sat (MapK b (λi=>if i=n then some v else g i)::F) w'->K w'):cO (Np n) v (some b) w K:=by
 obtain⟨es,c,m,h1,e,j⟩:=H.Uc;refine dF h1 e λw' a J O g1 g2 g3 _ _ _ he _=>u w' (H.pO he g1 g2 λi=> ?_);rw[g3,j]
end
def iY{F:List Pr}{w:World}{b:Nat}{k:IntKind}{g:Int->Option Value}(H:Sat (CM b k g::F) w){n:Int}{z v:Value}{K:World->Prop}(hK: ∀w',Sat (CM b k (λi=>if i=n then some v else g i)::F) w'->K w'):
  vK k n z (some b) w λ_ s w1=>vL s v (some b) w1 K:=by
 obtain⟨es,c,m,h1,J,h3⟩:=H.O9;obtain⟨res,f1,f2⟩:=J.find n;obtain⟨O,c',m',p1,p2,p3,_⟩:=J.put n v f1;have a:=FM h1;have fin: ∀w',Ext (Ja b) w w'->w'.heap[b]? =some (.map O c')->K w':=λw' he T=>hK w' (H.mapStep he T p2 λi=>by rw[p3,h3]);refine⟨b,es,c,res,rfl,h1,f1,?_⟩;rcases f2 with ⟨rfl,_⟩|⟨j,u,rfl,_,_,Y⟩
 .simp only[mapPut,Obj.map.injEq]at p1;obtain⟨rfl,rfl⟩:=p1;refine⟨b,_,_,es.size,rfl,by simp[World.GR,a];exact⟨rfl,rfl⟩,?_,?_⟩
  .rw[Array.findIdx?_push];have:es.findIdx? (λe=>(e.born:Int)==(c:Int))=none:=by
    rw[Array.findIdx?_eq_none_iff];intro e he;have:=J.lt e (by simpa using he);simp;omega
   simp[this]
  .refine fin _ ((Ext.GR w b _).trans' (Ext.GR _ b _)) ?_;have e:(es.push {key:=Value.int k n,val:=z,born:=c}).modify es.size (λe=>{key:=e.key,val:=v,born:=e.born})=es.push {key:=Value.int k n,val:=v,born:=c}:=by grind
   simp[World.GR,a,e]
 .simp only[mapPut,Obj.map.injEq]at p1;obtain⟨rfl,rfl⟩:=p1;refine⟨es[j],Array.getElem?_eq_getElem Y,b,_,_,j,rfl,by simp[World.GR,a];exact⟨rfl,rfl⟩,?_,?_⟩
  .rw[Array.findIdx?_eq_some_iff_getElem];refine⟨by simpa using Y,by grind,λi hi=> ?_⟩;have T:=J.born;simp only[Array.getElem_modify];have aD:es[i].born≠es[j].born:=λe=>by
    have:=List.pairwise_iff_getElem.1 T i j (by simp;omega) (by simpa using Y) hi
    grind
   grind
  .refine fin _ ((Ext.GR w b _).trans' (Ext.GR _ b _)) ?_;have e:(es.modify j λe=>{key:=Value.int k n,val:=e.val,born:=e.born}).modify j (λe=>{key:=e.key,val:=v,born:=e.born})=es.modify j λe=>{key:=Value.int k n,val:=v,born:=e.born}:=by grind
   simp[World.GR,a,e]
structure RgA(es:Array MapEntry)(c:Nat)(seen:Array Nat)(last:Nat)(m:List (Kd×Value))(cur:Option Kd)(done:List Kd):Prop where
 ok:LQ es c m
 lst:seen.isEmpty=true∨last=c
 nd:done.Nodup
 sub: ∀n∈done,kget m n≠none
 met: ∀e∈es.toList,seen.contains e.born=true↔ ∃n∈done,e.key= .agg ⟨Np n⟩
 cur: ∀n,cur=some n->last=c/\ ∃e,e∈es.toList/\seen.back?=some e.born/\e.key= .agg ⟨Np n⟩/\kget m n=some e.val
def LQ.key_inj{es:Array MapEntry}{c:Nat}{m:List (Kd×Value)}(h:LQ es c m){x y:MapEntry}(u:x∈es.toList)(v:y∈es.toList)(he:x.key=y.key):x=y:=by
 have h1:(es.toList.map (·.key)).Nodup:=by
  have e:es.toList.map (·.key)=m.map λp=>Value.agg ⟨Np p.1⟩:=by
   have:=congrArg (List.map Prod.fst) h.keys;simpa[List.map_map,Function.comp_def]using this
  rw[e,show(m.map λp=>Value.agg ⟨Np p.1⟩)=(m.map (·.1)).map (λn=>Value.agg ⟨Np n⟩) by simp];refine List.Pairwise.map _ (λa b j=> ?_) h.nodup;intro e;exact j (pN e)
 exact J0 h1 u v he
def LQ.R9{es:Array MapEntry}{c:Nat}{m:List (Kd×Value)}(h:LQ es c m){e:MapEntry}(he:e∈es.toList):es.find? (λx:MapEntry=>x.born==e.born)=some e:=by
 rw[<-Array.find?_toList];have: ∀l:List MapEntry,(l.map (·.born)).Nodup->e∈l->l.find? (λx:MapEntry=>x.born==e.born)=some e:=by
  intro l
  induction l with
  | nil=>grind
  | cons x r ih=>grind
 exact this es.toList h.born he
def PT(r mb:Nat)(g:Kd->Option Value)(cur:Option Kd)(done:List Kd)(N:Nat):Pr where
 holds D w:=(∀i,D i↔i=r∨i=mb)/\r≠mb/\ ∃es c seen last m,w.heap[r]? =some (.mapIter (some mb) c seen last)/\w.heap[mb]? =some (.map es c)/\
  RgA es c seen last m cur done/\(∀i,kget m i=g i)/\Ig es seen=N
 loc h he hS:=⟨h.1,h.2.1,let⟨es,c,seen,last,m,h1,a,e⟩:=h.2.2;⟨es,c,seen,last,m,he.obj h1 (hS _ ((h.1 _).2 (.inl rfl))),he.obj a (hS _ ((h.1 _).2 (.inr rfl))),e⟩⟩
 lt h j:=by
  obtain⟨es,c,seen,last,m,h1,a,e⟩:=h.2.2;rcases(h.1 _).1 j with rfl|rfl
  .exact FM h1
  .exact FM a
def NK(r mb:Nat)(w:World):Nat:=match w.heap[r]?,w.heap[mb]? with
 | some (.mapIter _ _ seen _),some (.map es _)=>Ig es seen
 | _,_=>0
section
variable{F:List Pr}{w w':World}{r mb:Nat}{g:Kd->Option Value}{cur:Option Kd}{done:List Kd}{N:Nat}
def Sat.Mn(H:Sat (PT r mb g cur done N::F) w):NK r mb w=N:=by
 obtain⟨_,h⟩:=H.head;obtain⟨es,c,seen,last,m,h1,a,j,u,e⟩:=h.2.2;simp only[NK,h1,a];exact e
def Sat.Zd(H:Sat (PT r mb g cur done N::F) w):done.Nodup/\ ∀n∈done,g n≠none:=by
 obtain⟨_,h⟩:=H.head;obtain⟨es,c,seen,last,m,h1,u,a,e,v⟩:=h.2.2;exact⟨a.nd,λn j=>by rw[<-e];exact a.sub n j⟩
def Sat.iZ(H:Sat (PT r mb g cur done N::F) w):Sat (MapK mb g::F) w:=by
 obtain⟨D,h,u⟩:=H.step;obtain⟨es,c,seen,last,m,h1,a,e,j,v⟩:=h.2.2;exact u w (λi=>i=mb) _ (Ext.refl _ _) ⟨λ_=>Iff.rfl,es,c,m,a,e.ok,j⟩ λi hi=>.inl ((h.1 i).2 (.inr hi))
def Xs(H:Sat (MapK mb g::F) w){K:Nat->World->Prop}(J: ∀r N w',Sat (PT r mb g none [] N::F) w'->K r w'): ∃cl,N3 w (some mb) cl/\AL (Jz (some mb) cl) w K:=by
 obtain⟨es,c,m,h1,u,v⟩:=H.Uc;refine⟨c,⟨es,h1⟩,A4 λw' O Y he=> ?_⟩;obtain⟨D,h,j⟩:=H.step;have T:mb<w.heap.size:=FM h1;refine J _ (Ig es #[]) w' (j w' (λi=>i=w.heap.size∨i=mb) _ (he.mono λ_ _ f=>f.elim) ⟨λ_=>Iff.rfl,by omega,es,c,#[],c,m,O,he.obj h1 λf=>f,⟨u,.inl rfl,List.nodup_nil,(λn a=>by cases a),(λe _=>by simp),(λn a=>by cases a)⟩,v,rfl⟩ ?_);rintro i (rfl|rfl)
 .exact .inr (Nat.le_refl _)
 .exact .inl ((h.1 _).2 rfl)
def SB(H:Sat (PT r mb g cur done N::F) w){Kn:World->Prop}{Ks:Value->Value->World->Prop}(h0: ∀w',Sat (PT r mb g cur done N::F) w'->(∀n,n∈done↔g n≠none)->Kn w')
  (h1: ∀n v w' N',g n=some v->n∉done->N'<N->Sat (PT r mb g (some n) (done++[n]) N'::F) w'->Ks (.agg ⟨Np n⟩) v w'):TZ r w Kn Ks:=by
 have HN: ∀w',(w'=w∨w'=w.drew)->Sat (PT r mb g cur done N::F) w':=λw' h=>by rcases h with rfl|rfl;exact H;exact H.drew
 obtain⟨D,h,_⟩:=H.step;obtain⟨es,c,seen,last,m,g1,g2,g3,g4,g5⟩:=h.2.2;refine⟨some mb,c,seen,last,g1,es,c,g2,?_,?_,?_⟩
 .rcases g3.lst with hl|rfl
  .simp[hl]
  .by_cases he:es.isEmpty=true
   .simp[he]
   .have:es.all (λx=>decide (x.born≥last))=false:=by
     have aQ:0<es.size:=Nat.pos_of_ne_zero λe=>he (by grind);have hm:es[0]∈es.toList:=by simp
     have:=g3.ok.lt _ hm
     grind
    simp[this]
 .intro w' J Y;refine h0 w' (HN w' J) λn=>⟨λhn=>by rw[<-g4];exact g3.sub n hn,λhn=> ?_⟩;have hf:(leftOf es seen).filter (λx=>decide (x.born<c))=leftOf es seen:=by
   apply Array.filter_eq_self.2;intro e he;exact decide_eq_true (g3.ok.lt e (G8.1 he).1)
  rw[hf]at Y;rw[<-g4]at hn;cases hg:kget m n with
  | none=>grind
  | some v=>
   obtain⟨e,he,hk,hv⟩:=g3.ok.To hg;have O:seen.contains e.born=true:=by
    cases hsc:seen.contains e.born with
    | true=>rfl
    | false=>
     have:e∈leftOf es seen:=G8.2 ⟨he,hsc⟩
     grind
   obtain⟨n',j,u⟩:=(g3.met e he).1 O;rw[hk]at u;rw[pN u];exact j
 .intro w' e J he;obtain⟨q1,q2⟩:=G8.1 he;obtain⟨n,K,aH⟩:=g3.ok.Qq q1;rw[K];have aJ:n∉done:=λhn=>by
   have:=(g3.met e q1).2 ⟨n,hn,K⟩
   grind
  have T:Ig es (seen.push e.born)<Ig es seen:=by
   unfold Ig;refine filter_lt (λx _ hx=> ?_) ⟨e,q1,by grind,by simp⟩
   grind
  refine h1 n e.val _ (Ig es (seen.push e.born)) (by rw[<-g4];exact aH) aJ (by rw[<-g5];exact T) ?_;obtain⟨D',h',aK⟩:=(HN w' J).step;have aB:Ext AN w w':=by rcases J with rfl|rfl;exact Ext.refl _ _;exact Ext.drew _ _
  have aG:=aB.obj g2 λf=>f;have aI:r<w'.heap.size:=by have:=FM g1;have:=aB.size;omega
  refine aK _ D' _ ((Ext.GR w' r _).mono λi _ hi=>(h'.1 i).2 (.inl hi)) ⟨h'.1,h'.2.1,es,c,seen.push e.born,c,m,?_,?_,⟨g3.ok,.inr rfl,?_,?_,?_,?_⟩,g4,rfl⟩ λi hi=>.inl hi
  .simp[World.GR,aI]
  .exact(Ext.GR w' r _).obj aG λe:mb=r=>h'.2.1 e.symm
  .rw[List.nodup_append];exact⟨g3.nd,by simp,λa ha b hb=>by simp at hb;subst hb;rintro rfl;grind⟩
  .intro n' j;rcases List.mem_append.1 j with h|h
   .exact g3.sub n' h
   grind
  .intro x hx;constructor
   .intro O;simp at O;rcases O with O|O
    .obtain⟨n',j,u⟩:=(g3.met x hx).1 (by grind)
     grind
    .have:x=e:=J0 g3.ok.born hx q1 O
     grind
   .rintro⟨n',j,u⟩;rcases List.mem_append.1 j with h|h
    .have:=(g3.met x hx).2 ⟨n',h,u⟩
     grind
    .simp at h;subst h;have:x=e:=g3.ok.key_inj hx q1 (by grind)
     grind
  grind
def Ud{n:Kd}(H:Sat (PT r mb g (some n) done N::F) w){K:Value->Value->G5->Prop}(j: ∀v S,g n=some v->K (.agg ⟨Np n⟩) v S):oA r w K:=by
 obtain⟨_,h⟩:=H.head;obtain⟨es,c,seen,last,m,g1,g2,g3,g4,g5⟩:=h.2.2;obtain⟨rfl,e,he,a,u,J⟩:=g3.cur n rfl;refine⟨mb,last,last,seen,es,last,e.born,e,⟨g1,g2⟩,a,rfl,g3.ok.R9 he,?_⟩
 grind
end
end Go.Sh

/- What a law's arguments are, read once for all. No further condition. -/
import Derived.Test.YtnhmgaodhjgdaaaGreatDoorM
import Derived.WalkKit
import Derived.ProofKit
import Derived.OpenShut
import Derived.ChangeOld
import Derived.Below
import Derived.Carry
import Derived.DataReads
import Derived.Test.YtnhmgaodhjgdaaaGreatDoorSh
import Derived.Lib.TrailingZeros
set_option linter.all false
set_option maxRecDepth 50000
set_option maxHeartbeats 1000000
namespace Go.Sh
open Go.ChangeShapes Go.WideShapes Go.ChangeAt Go.RowKit
inductive AT where
 | int (k:IntKind)|bool|sl (e:AT)|nil|cons (f r:AT)
def AT.size:AT->Nat
 | .int _=>1| .bool=>1| .sl _=>1| .nil=>0| .cons f r=>f.size+r.size
def VV(w:World):AT->List Value->Prop
 | .int k,cs=> ∃n,cs=[.int k n]/\(Lit.int k n).wf=true
 | .bool,cs=> ∃b,cs=[.bool b]
 | .sl e,cs=> ∃s:AW,cs=[.slice s.base s.len s.cap]/\s.len<=s.cap/\s.cap<=maxLen/\
   ∀j,j<s.len-> ∃x l,s.base=some x/\l.length=e.size/\(∀i v,l[i]? =some v->w.cell? (x.add (j*e.size+i))=some v)/\VV w e l
 | .nil,cs=>cs=[]
 | .cons f r,cs=> ∃a b,cs=a++b/\VV w f a/\VV w r b
def shapeF(P:Program)(sh:TypeId->Option AT):List Field->Nat->Option AT
 | [],_=>some .nil
 | f::r,off=>match Nat.beq f.offset off with
  | true=>match sh f.type with
   | some a=>match Nat.beq a.size (P.cellsOf f.type)with
    | true=>match shapeF P sh r (off+a.size)with
     | some b=>some (.cons a b)
     | none=>none
    | false=>none
   | none=>none
  | false=>none
def shapeP(P:Program):Nat->TypeId->Option AT
 | 0,_=>none
 | n+1,t=>match P.underlying t with
  | some .bool=>some .bool
  | some (.int k)=>some (.int k)
  | some (.slice e)=>match shapeP P n e with
   | some a=>match Nat.beq a.size (P.cellsOf e)with
    | true=>some (.sl a)
    | false=>none
   | none=>none
  | some (.struct fs)=>match shapeF P (shapeP P n) fs.toList 0 with
   | some a=>match Nat.beq a.size (P.cellsOf t)with
    | true=>some a
    | false=>none
   | none=>none
  | _=>none
section
variable{H:Type}{enc:TypeId×Value->H}{P:Program}{w:World}{base:Nat}{sp:Nat->Bool}{held:Bool}
def jJ{w:World}{base:Nat}{a:Addr}{n:Nat}{l:List Value}(h:w.cells? base a n=some l):l.length=n/\ ∀i v,l[i]? =some v->w.cell? (a.add i)=some v:=by
 unfold World.cells? at h;split at h
 .have key: ∀(m:Nat) (k:Nat) (l:List Value),((List.range' k m).mapM λi=>w.cell? (a.add i))=some l->l.length=m/\ ∀i v,l[i]? =some v->w.cell? (a.add (k+i))=some v:=by
   intro m
   induction m with
   | zero=>grind
   | succ m ih=>
    intro k l h;rw[List.range'_succ,List.mapM_cons]at h;cases hx:w.cell? (a.add k)with
    | none=>grind
    | some y=>
     cases hl:(List.range' (k+1) m).mapM λi=>w.cell? (a.add i)with
     | none=>grind
     | some ys=>grind
  rw[List.range_eq_range']at h
  grind
 .cases h
def Qb{sh:TypeId->Option AT}{tr:TypeId->List Value->Prop}(m: ∀t a cs,sh t=some a->tr t cs->VV w a cs):
  ∀(u:List Field) (off:Nat) (a:AT) (cs:List Value),shapeF P sh u off=some a->cs.length=off+a.size->(∀f∈u,tr f.type ((cs.drop f.offset).take (P.cellsOf f.type)))->VV w a (cs.drop off)
 | [],off,a,cs,h,hl,_=>by
  simp only[shapeF,Option.some.injEq]at h;subst h;show cs.drop off=[];rw[List.drop_eq_nil_iff];simp[AT.size]at hl;omega
 | f::r,off,a,cs,h,hl,ht=>by
  unfold shapeF at h;split at h
  .rename_i d;have d:=Nat.eq_of_beq_eq_true d;split at h
   .rename_i a1 ha1;split at h
    .rename_i e;have e:=Nat.eq_of_beq_eq_true e;split at h
     .rename_i b hb;cases h;have h1:=m _ _ _ ha1 (ht f (by simp));have v:=Qb m r (off+a1.size) b cs hb (by simp[AT.size]at hl;omega) (λg J=>ht g (by simp[J]));refine⟨_,_,?_,h1,v⟩;rw[d,<-e,<-List.drop_drop];exact(List.take_append_drop _ _).symm
     .cases h
    .cases h
   .cases h
  .cases h
def Mq: ∀(n:Nat) (t:TypeId) (a:AT) (cs:List Value),shapeP P n t=some a->(∃m x,DataW.trod enc P w base sp held m t cs=some x)->VV w a cs
 | 0,_,_,_,h,_=>by simp[shapeP]at h
 | n+1,t,a,cs,h,⟨m,x,K⟩=>by
  unfold shapeP at h;split at h
  .rename_i hu;cases h;obtain⟨b,O,_⟩:=DataW.trod_bool hu K;exact⟨b,O⟩
  .rename_i k hu;cases h;obtain⟨z,O,_,hw⟩:=DataW.trod_int hu K;exact⟨z,O,hw⟩
  .rename_i e hu;split at h
   .rename_i a1 ha1;split at h
    .rename_i d;have d:=Nat.eq_of_beq_eq_true d;cases h;rcases DataW.trod_slice hu K with ⟨h1,_⟩|⟨p,len,cap,elems,rest,m',_,Y,_,_,aB,T,aF,u,_⟩
     .exact⟨⟨none,0,0⟩,h1,Nat.le_refl _,Nat.zero_le _,λj J=>by cases J⟩
     .refine⟨⟨some p,len,cap⟩,Y,aB,T,λj J=> ?_⟩;have J:j<len:=J;have hy:=u j J;rw[List.getElem?_eq_getElem (by omega)]at hy;cases hl:w.cells? base (p.add (j*P.cellsOf e)) (P.cellsOf e)with
      | none=>grind
      | some l=>
       rw[hl]at hy;obtain⟨g1,g2⟩:=jJ hl;refine⟨p,l,rfl,by omega,λi v hv=> ?_,Mq n e a1 l ha1 ⟨m',_,hy⟩⟩;have:=g2 i v hv;rw[d,<-add_add];exact this
    .cases h
   .cases h
  .rename_i fs hu;split at h
   .rename_i a1 ha1;split at h
    .rename_i d;have d:=Nat.eq_of_beq_eq_true d;cases h;obtain⟨xs,m',_,_,hlen,aH,hf⟩:=DataW.trod_struct hu K;have:=Qb (P:=P) (sh:=shapeP P n) (tr:=λt cs=> ∃m x,DataW.trod enc P w base sp held m t cs=some x)
      (λt a cs h1 h2=>Mq n t a cs h1 h2) fs.toList 0 a cs ha1 (by omega) (λf aA=>by
       obtain⟨i,hi⟩:=List.mem_iff_getElem?.1 aA
       grind)
     grind
    .cases h
   .cases h
  .cases h
def yR(w:World):AT->Value->Prop
 | .int k,v=> ∃n,v= .int k n/\(Lit.int k n).wf=true
 | .bool,v=> ∃b,v= .bool b
 | .sl e,v=> ∃s:AW,v= .slice s.base s.len s.cap/\VV w (.sl e) [.slice s.base s.len s.cap]
 | a,v=> ∃l,v= .agg ⟨l⟩/\VV w a l
def mR(w:World):List AT->List Value->Prop
 | [],vs=>vs=[]
 | a::r,vs=> ∃v s,vs=v::s/\yR w a v/\mR w r s
def shapesP(P:Program):List TypeId->Option (List AT)
 | []=>some []
 | t::r=>match shapeP P 9 t with
  | some a=>match shapesP P r with
   | some l=>some (a::l)
   | none=>none
  | none=>none
def YV{sh:TypeId->Option AT}: ∀{d:List Field} {off:Nat} {a:AT},shapeF P sh d off=some a->a= .nil∨ ∃f r,a= .cons f r
 | [],_,_,h=>by simp[shapeF]at h;grind
 | f::r,off,a,h=>by
  unfold shapeF at h
  grind
def yS{r:Reach}{b0:Nat}{n:Nat}{t:TypeId}{a:AT}{v:Value}{d:DataW H}{ps:List MemPlace}(u:shapeP P n t=some a)(J:Value.okWide P w r b0 t v)
  (hd:DataW.Trod enc P w base sp held t v d ps):yR w a v:=by
 obtain⟨m,hm⟩:=hd;have hS:=Mq n t a v.cells.toList u ⟨m,_,hm⟩;cases n with
 | zero=>simp[shapeP]at u
 | succ n=>
 unfold shapeP at u;split at u
 .rename_i hu;cases u;obtain⟨b,rfl⟩:=okWide_bool hu J;exact⟨b,rfl⟩
 .rename_i k hu;cases u;obtain⟨z,rfl⟩:=okWide_int hu J;obtain⟨Y,h1,O⟩:=hS;simp[Value.cells]at h1;subst h1;exact⟨z,rfl,O⟩
 .rename_i e hu;obtain⟨x,l,c,rfl⟩:=okWide_slice hu J;split at u
  .split at u
   .cases u;exact⟨⟨x,l,c⟩,rfl,hS⟩
   .cases u
  .cases u
 .rename_i fs hu;obtain⟨cs,rfl,T⟩:=okWide_struct hu J;split at u
  .rename_i a1 K;split at u
   .cases u;have:VV w a cs.toList:=hS;rcases YV K with rfl|⟨f,r,rfl⟩
    .exact⟨cs.toList,rfl,this⟩
    .exact⟨cs.toList,rfl,this⟩
   .cases u
  .cases u
 .cases u
def fE{r:Reach}{b0:Nat}: ∀{ts:List TypeId} {shs:List AT} {vs:List Value} {e:List (DataW H)} {p:List MemPlace},shapesP P ts=some shs->
  (∀(j:Nat) t v,ts[j]? =some t->vs[j]? =some v->Value.okWide P w r b0 t v)->DataW.TrodAll enc P w base sp held ts vs e p->mR w shs vs
 | [],shs,vs,e,p,hs,_,h=>by
  simp[shapesP]at hs;subst hs;cases vs with
  | nil=>rfl
  | cons v vs=>cases e<;>simp[DataW.TrodAll]at h
 | t::ts,shs,vs,e,p,hs,hval,h=>by
  unfold shapesP at hs;split at hs
  .rename_i a ha;split at hs
   .rename_i l hl;cases hs;cases vs with
    | nil=>cases e<;>simp[DataW.TrodAll]at h
    | cons v vs=>
     cases e with
     | nil=>simp[DataW.TrodAll]at h
     | cons d e=>
      obtain⟨p1,O,h1,m,_⟩:=h;exact⟨v,vs,rfl,yS ha (hval 0 t v rfl rfl) h1,fE hl (λj t' u J K=>hval (j+1) t' u (by grind) (by grind)) m⟩
   .cases hs
  .cases hs
def Nt(P:Program):List TypeId->Bool
 | []=>true
 | t::r=>match P.readableRec t with
  | true=>match Nat.ble (t+1) P.types.size with
   | true=>Nt P r
   | false=>false
  | false=>false
def PJ(J:laidOutB P=true){W W':World}(u:Below W.heap.size W W'): ∀{ts:List TypeId} {vs:List Value} {a:List (DataW H)} {p:List MemPlace},Nt P ts=true->
  DataW.TrodAll enc P W 0 (λ_=>true) true ts vs a p->DataW.TrodAll enc P W' 0 (λb=>decide (b<W.heap.size)) true ts vs a p
 | [],vs,a,p,_,h=>by
  cases vs<;>cases a<;>simp[DataW.TrodAll]at h⊢ <;>exact h
 | t::ts,vs,a,p,hr,h=>by
  unfold Nt at hr;split at hr
  .rename_i h1;split at hr
   .rename_i e;have e:=Nat.le_of_ble_eq_true e;cases vs with
    | nil=>cases a<;>simp[DataW.TrodAll]at h
    | cons v vs=>
     cases a with
     | nil=>simp[DataW.TrodAll]at h
     | cons d a=>
      obtain⟨p1,T,k1,K,O⟩:=h;exact⟨p1,T,Below.trod J h1 e k1 u (by obtain⟨m,hm⟩:=k1;exact DataW.trod_lt m _ _ _ hm),PJ J u hr K,O⟩
   .cases hr
  .cases hr
def SN: ∀{ts:List TypeId} {vs:List Value} {a:List (DataW H)} {p:List MemPlace},DataW.TrodAll enc P w base sp held ts vs a p->a.length=ts.length
 | [],vs,a,p,h=>by cases vs<;>cases a<;>simp[DataW.TrodAll]at h⊢
 | t::ts,vs,a,p,h=>by
  cases vs with
  | nil=>cases a<;>simp[DataW.TrodAll]at h
  | cons v vs=>
   cases a with
   | nil=>simp[DataW.TrodAll]at h
   | cons d a=>
    obtain⟨p1,u,k1,e,m⟩:=h;simp[SN e]
end
def YW:AT->Type
 | .int _=>Int| .bool=>Bool| .sl _=>AW| .nil=>Unit| .cons f r=>YW f×YW r
def YW.l8:(a:AT)->YW a
 | .int _=>(0:Int)| .bool=>false| .sl _=>(⟨none,0,0⟩:AW)| .nil=>()| .cons f r=>(YW.l8 f,YW.l8 r)
def On:(a:AT)->YW a->List Value
 | .int k,n=>[.int k n]
 | .bool,b=>[.bool b]
 | .sl _,s=>[.slice (AW.base s) (AW.len s) (AW.cap s)]
 | .nil,_=>[]
 | .cons f r,x=>On f x.1++On r x.2
def mS(w:World)(e:AT)(ok:YW e->Prop)(s:AW)(z:Nat->YW e):Prop:=s.len<=s.cap/\s.cap<9223372036854775808/\
 ∀j,j<s.len-> ∃x,s.base=some x/\(∀i v,(On e (z j))[i]? =some v->w.cell? (x.add (j*e.size+i))=some v)/\ok (z j)
def YX(w:World):(a:AT)->YW a->Prop
 | .int k,n=>(Lit.int k n).wf=true
 | .bool,_=>True
 | .sl e,s=> ∃z,mS w e (YX w e) s z
 | .nil,_=>True
 | .cons f r,x=>YX w f x.1/\YX w r x.2
abbrev Wo(w:World)(e:AT):AW->(Nat->YW e)->Prop:=mS w e (YX w e)
def MV{w:World}:(a:AT)->(cs:List Value)->VV w a cs-> ∃x:YW a,cs=On a x/\YX w a x
 | .int k,cs,h=>let⟨n,h1,d⟩:=h;⟨n,h1,d⟩
 | .bool,cs,h=>let⟨b,h1⟩:=h;⟨b,h1,trivial⟩
 | .sl e,cs,h=>by
  obtain⟨s,h1,d,O,J⟩:=h;have key: ∀j,∃y:YW e,j<s.len-> ∃x,s.base=some x/\(∀i v,(On e y)[i]? =some v->w.cell? (x.add (j*e.size+i))=some v)/\YX w e y:=by
   intro j;by_cases m:j<s.len
   .obtain⟨x,l,g1,g2,g3,g4⟩:=J j m;obtain⟨y,rfl,u⟩:=MV e l g4;exact⟨y,λ_=>⟨x,g1,g3,u⟩⟩
   .exact⟨YW.l8 e,λh=>absurd h m⟩
  refine⟨s,h1,λj=>Classical.choose (key j),d,?_,λj m=>Classical.choose_spec (key j) m⟩;have:maxLen=9223372036854775807:=by decide
  omega
 | .nil,cs,h=>⟨(),h,trivial⟩
 | .cons f r,cs,h=>by
  obtain⟨a,b,rfl,h1,d⟩:=h;obtain⟨x,rfl,K⟩:=MV f a h1;obtain⟨y,rfl,u⟩:=MV r b d;exact⟨(x,y),rfl,K,u⟩
def elV:(a:AT)->YW a->Value
 | .int k,n=>.int k n
 | .bool,b=>.bool b
 | .sl _,s=>.slice (AW.base s) (AW.len s) (AW.cap s)
 | .nil,_=>.agg ⟨[]⟩
 | .cons f r,x=>.agg ⟨On (.cons f r) x⟩
def aS{w:World}{a:AT}{v:Value}(h:yR w a v): ∃x:YW a,v=elV a x/\YX w a x:=by
 cases a with
 | int k=>exact h
 | bool=>obtain⟨b,h⟩:=h;exact⟨b,h,trivial⟩
 | sl e=>
  obtain⟨s,rfl,h⟩:=h;obtain⟨s',h1,m⟩:=MV _ _ h;have d:[Value.slice s.base s.len s.cap]=[Value.slice (AW.base s') (AW.len s') (AW.cap s')]:=h1;simp only[List.cons.injEq,Value.slice.injEq,and_true]at d;obtain⟨J,K,O⟩:=d;refine⟨s',?_,m⟩;show Value.slice s.base s.len s.cap=Value.slice (AW.base s') (AW.len s') (AW.cap s')
  grind
 | nil=>obtain⟨l,rfl,h⟩:=h;have:l=[]:=h;subst this;exact⟨(),rfl,trivial⟩
 | cons f r=>
  obtain⟨l,rfl,h⟩:=h;obtain⟨x,rfl,u⟩:=MV _ _ h;exact⟨x,rfl,u⟩
def YY:List AT->Type
 | []=>Unit
 | a::r=>YW a×YY r
def TN:(l:List AT)->YY l->List Value
 | [],_=>[]
 | a::r,x=>elV a x.1::TN r x.2
def aT(w:World):(l:List AT)->YY l->Prop
 | [],_=>True
 | a::r,x=>YX w a x.1/\aT w r x.2
def T5{w:World}:{l:List AT}->{vs:List Value}->mR w l vs-> ∃x:YY l,vs=TN l x/\aT w l x
 | [],vs,h=>⟨(),h,trivial⟩
 | a::r,vs,h=>by
  obtain⟨v,s,rfl,h1,d⟩:=h;obtain⟨x,rfl,e⟩:=aS h1;obtain⟨y,rfl,m⟩:=T5 d;exact⟨(x,y),rfl,e,m⟩
end Go.Sh
namespace Go.Sh
def Sat.Bh{P0:Pr}{Ps:List Pr}{w:World}{P:Pr}(i:Nat)(H:Sat (P0::Ps) w)(hi:Ps[i]? =some P):Sat (P0::P::Ps.eraseIdx i) w:=H.perm ((D8 hi).cons P0)
def Sat.Qc{P0 P':Pr}{Ps:List Pr}{w:World}(i:Nat)(H:Sat (P0::P'::Ps.eraseIdx i) w)(hi:i<Ps.length:=by simp):Sat (P0::Ps.set i P') w:=H.perm ((MU hi).cons P0)
def YZ:Pr where
 holds D _:= ∀k,¬D k
 loc h _ _:=h
 lt h hk:=(h _ hk).elim
def Sat.emp{F:List Pr}{w:World}(H:Sat F w):Sat (YZ::F) w:=H.new (P:=YZ) (D:=λ_=>False) (Ext.refl _ _) (λ_ f=>f) λ_ f=>f.elim
def ints(k:IntKind)(l:List Int):List Value:=l.map λn=>.int k n
def Nu{k:IntKind}{l:List Int}{i:Nat}{n:Int}(h:l[i]? =some n):(ints k l)[i]? =some (.int k n):=by simp[ints,h]
def F8(l:List Bool):List Value:=l.map λb=>.bool b
def CH(b:Nat)(k:IntKind)(g:Int->Option Value):Pr where
 holds D w:=(∀i,D i↔i=b)/\ ∃es c m,w.heap[b]? =some (.map es c)/\MapI k es c m/\ ∀i,aget m i=g i
 loc h he hS:=⟨h.1,let⟨es,c,m,h1,h2⟩:=h.2;⟨es,c,m,he.obj h1 (hS _ ((h.1 _).2 rfl)),h2⟩⟩
 lt h hk:=by have:=(h.1 _).1 hk;grind
section
variable{F:List Pr}{w w':World}{b:Nat}{k:IntKind}{g:Int->Option Value}
def Nv(H:Sat F w)(k:IntKind){K:Nat->World->Prop}(a: ∀b w',Sat (CH b k (λ_=>none)::F) w'->Ext AN w w'->K b w'):AL (.map #[] 0) w K:=
 A8 λw' d m he=>a _ _ (H.new (P:=CH w.heap.size k λ_=>none) (D:=λk=>k=w.heap.size) he ⟨λ_=>Iff.rfl,_,_,[],d,MapI.empty k,λ_=>rfl⟩ λk e=>by omega) he
def Sat.Qd(H:Sat (CH b k g::F) w): ∃es c m,w.heap[b]? =some (.map es c)/\MapI k es c m/\ ∀i,aget m i=g i:=let⟨_,h⟩:=H.head;h.2
def MG(H:Sat (CH b k g::F) w){n:Int}{z:Value}{K:Value->Bool->Array MapEntry->Prop}(e: ∀es,w.heap[b]? =some (.map es (es.size))∨True->K ((g n).getD z) (g n).isSome es):X1 k n (some b) w z K:=by
 obtain⟨es,c,m,h1,a,d⟩:=H.Qd;refine MS h1 a ?_;rw[d];exact e es (.inr trivial)
def Sat.mapStep(H:Sat (CH b k g::F) w){a:Array MapEntry}{d:Nat}{e:List (Int×Value)}{m:Int->Option Value}(he:Ext (KD b) w w')(h1:w'.heap[b]? =some (.map a d))(u:MapI k a d e)(v: ∀i,aget e i=m i):
  Sat (CH b k m::F) w':=by
 obtain⟨D,h,K⟩:=H.step;exact K w' D _ (he.mono λi _ hi=>(h.1 i).2 hi) ⟨h.1,a,d,e,h1,u,v⟩ λk J=>.inl J
def E8(H:Sat (CH b k g::F) w){n:Int}{v:Value}{K:World->Prop}(u: ∀w',Sat (CH b k (λi=>if i=n then some v else g i)::F) w'->K w'):KB k n v (some b) w K:=by
 obtain⟨es,c,m,h1,d,e⟩:=H.Qd;refine T4 h1 d λw' a J O g1 g2 g3 _ _ _ he _=>u w' (H.mapStep he g1 g2 λi=> ?_);rw[g3,e]
def Qe(H:Sat (CH b k g::F) w){n:Int}{K:World->Prop}(u: ∀w',Sat (CH b k (λi=>if i=n then none else g i)::F) w'->K w'):MDEL k n (some b) w K:=by
 obtain⟨es,c,m,h1,d,e⟩:=H.Qd;refine Pk h1 d λw' a v g1 g2 g3 _ _ _ he _=>u w' (H.mapStep he g1 g2 λi=> ?_);rw[g3,e]
end
def MH(s:AW)(vs:List Value):Pr where
 holds D w:=(∀k,D k↔O5 s k)/\s.len<=s.cap/\vs.length=s.len/\s.cap<9223372036854775808/\(∀a,s.base=some a->a.block<w.heap.size)/\rowAt w s.base s.len vs
 loc h he hS:=⟨h.1,h.2.1,h.2.2.1,h.2.2.2.1,λa d=>by have:=h.2.2.2.2.1 a d;have:=he.size;omega,Vt h.2.2.2.2.2 he λa d _=>hS _ ((h.1 _).2 ⟨a,d,rfl⟩)⟩
 lt h hk:=by obtain⟨a,d,rfl⟩:=(h.1 _).1 hk;grind
section
variable{F:List Pr}{w w':World}{t:Nat}{s:AW}{vs:List Value}
def Sat.rowV(H:Sat (Row t 1 s vs::F) w):Sat (MH s vs::F) w:=by
 obtain⟨D,h,m⟩:=H.step;have ho:=h.2;refine m w D _ (Ext.refl _ _) ⟨h.1,ho.cap,by simpa using ho.len,ho.top,λa d=>(ho.lt d).2.1,by simpa using ho.rowAt⟩ λk e=>.inl e
def Sat.TO(H:Sat (MH s vs::F) w):vs.length=s.len/\s.len<=s.cap/\s.cap<9223372036854775808:=let⟨_,h⟩:=H.head;⟨h.2.2.1,h.2.1,h.2.2.2.1⟩
def Sat.Ya(H:Sat (MH s vs::F) w){j:Nat}{v:Value}(e:vs[j]? =some v): ∃a,s.base=some a/\w.cell? (a.add j)=some v:=by
 obtain⟨D,h⟩:=H.head;have d:=h.2.2.2.2.2;cases hb:s.base with
 | none=>rw[hb]at d;have:vs=[]:=d;grind
 | some a=>rw[hb]at d;exact⟨a,rfl,d.2 j v e⟩
def Wp{b:Option Addr}{c m z:Nat}{k:Nat}:(∃a,KH b c m z=some a/\k=a.block)↔ ∃a,b=some a/\k=a.block:=by
 unfold KH;split
 .grind
 .cases b with
  | none=>simp
  | some a=>simp[Vs]
def Sat.Yb(H:Sat (MH s vs::F) w){n:Nat}(J:n<=s.len):Sat (MH ⟨KH s.base s.cap n 1,s.len-n,s.cap-n⟩ (vs.drop n)::F) w:=by
 obtain⟨D,h,K⟩:=H.step;refine K w D _ (Ext.refl _ _) ⟨λk=> ?_,?_,?_,?_,?_,?_⟩ λk v=>.inl v
 .rw[h.1];exact Wp.symm
 .simp only;have:=h.2.1;omega
 .simp only[List.length_drop,h.2.2.1]
 .simp only;have:=h.2.2.2.1;omega
 .intro a u;obtain⟨m,d,e⟩:=(Wp (k:=a.block)).1 ⟨a,u,rfl⟩;rw[e];exact h.2.2.2.2.1 m d
 .have:=LJ (z:=1) h.2.2.2.2.2 (by simp) J h.2.1 h.2.2.1
  grind
def Sat.tD{F:List Pr}{w:World}(H:Sat F w):Sat (MH ⟨none,0,0⟩ []::F) w:=
 H.new (P:=MH ⟨none,0,0⟩ []) (D:=O5 ⟨none,0,0⟩) (Ext.refl _ _) ⟨λ_=>Iff.rfl,Nat.le_refl _,rfl,by decide,λ_ h=>(by cases h),rfl⟩ λk e=>by obtain⟨a,d,_⟩:=e;cases d
end
abbrev Pgs:=Int->Option (Nat×(Int->Int))
def Nw(n:Nat)(G:Pgs):Pr where
 holds D w:=(∀k,D k↔ ∃p x,G p=some x/\k=x.1)/\(∀p q x y,G p=some x->G q=some y->x.1=y.1->p=q)/\
  ∀p x,G p=some x->x.1<w.heap.size/\ ∀j:Nat,j<n->w.cell? ⟨x.1,j,none⟩=some (.int .u64 (x.2 j))/\w.frozen? ⟨x.1,j,none⟩=false
 loc h he hS:=⟨h.1,h.2.1,λp x hp=>⟨by have:=(h.2.2 p x hp).1;have:=he.size;omega,λj a=>⟨he.cell ((h.2.2 p x hp).2 j a).1 (hS _ ((h.1 _).2 ⟨p,x,hp,rfl⟩)),by
  rw[he.frozen (p:=⟨x.1,j,none⟩) (h.2.2 p x hp).1 (hS _ ((h.1 _).2 ⟨p,x,hp,rfl⟩))];grind⟩⟩⟩
 lt h hk:=by obtain⟨p,x,hp,rfl⟩:=(h.1 _).1 hk;grind
section
variable{F:List Pr}{w w':World}{n:Nat}{G:Pgs}
def Sat.pgNil(H:Sat F w)(n:Nat):Sat (Nw n (λ_=>none)::F) w:=
 H.new (P:=Nw n λ_=>none) (D:=λ_=>False) (Ext.refl _ _) ⟨λk=>⟨λf=>f.elim,λ⟨_,_,h,_⟩=>(by cases h)⟩,λ_ _ _ _ h=>(by cases h),λ_ _ h=>(by cases h)⟩ λ_ f=>f.elim
def Sat.yT(H:Sat (Nw n G::F) w){p:Int}{x:Nat×(Int->Int)}(hp:G p=some x){j:Nat}(a:j<n):w.cell? ⟨x.1,j,none⟩=some (.int .u64 (x.2 j)):=
 let⟨_,h⟩:=H.head;((h.2.2 p x hp).2 j a).1
def Sat.pgNew{b t:Nat}{vs:List Value}{ws:Int->Int}(H:Sat (Cells b t vs::Nw n G::F) w){p:Int}(hp:G p=none)(hv: ∀j:Nat,j<n->vs[j]? =some (.int .u64 (ws j))):
  Sat (Nw n (λq=>if q=p then some (b,ws)else G q)::F) w:=by
 obtain⟨D,J,Y,u,⟨D3,D4,m,hF,T,d⟩,hd,hD⟩:=H;have get: ∀q x,(if q=p then some (b,ws)else G q)=some x->(q=p/\x=(b,ws))∨(q≠p/\G q=some x):=by
  intro q x h;by_cases e:q=p
  .rw[if_pos e]at h;cases h;exact .inl ⟨e,rfl⟩
  .rw[if_neg e]at h;exact .inr ⟨e,h⟩
 have v: ∀q x,G q=some x->x.1≠b:=λq x a e=>hd b ((u.1 _).2 rfl) ((d _).2 (.inl ((m.1 _).2 ⟨q,x,a,e.symm⟩)));refine⟨λk=>J k∨Y k,λk=>J k∨D3 k,D4,⟨λk=> ?_,λq r x y a hr e=> ?_,λq x a=> ?_⟩,hF,?_,λk=> ?_⟩
 .constructor
  .rintro(h|h)
   .exact⟨p,(b,ws),by simp,(u.1 k).1 h⟩
   .obtain⟨q,x,a,rfl⟩:=(m.1 k).1 h;refine⟨q,x,?_,rfl⟩;have:q≠p:=λe=>by rw[e,hp]at a;cases a
    simp[this,a]
  .rintro⟨q,x,a,rfl⟩;rcases get q x a with ⟨_,rfl⟩|⟨_,h⟩
   .exact .inl ((u.1 _).2 rfl)
   .exact .inr ((m.1 _).2 ⟨q,x,h,rfl⟩)
 .rcases get q x a with ⟨e1,rfl⟩|⟨e1,h1⟩
  .rcases get r y hr with ⟨K,rfl⟩|⟨K,O⟩
   .rw[e1,K]
   .exact absurd e.symm (v r y O)
  .rcases get r y hr with ⟨K,rfl⟩|⟨K,O⟩
   .exact absurd e (v q x h1)
   .exact m.2.1 q r x y h1 O e
 .rcases get q x a with ⟨_,rfl⟩|⟨_,h⟩
  .exact⟨u.2.1,λj hj=>u.2.2 j _ (hv j hj)⟩
  .exact m.2.2 q x h
 .rintro k (h|h) h4
  .exact hd k h ((d k).2 (.inr h4))
  .exact T k h h4
 .show J k∨Y k↔(J k∨D3 k)∨D4 k;rw[d k,or_assoc]
def tE(H:Sat (Nw n G::F) w){p:Int}{x:Nat×(Int->Int)}(hp:G p=some x){j:Nat}(hj:j<n){v:Int}{K:World->Prop}
  (hK: ∀w',Sat (Nw n (λq=>if q=p then some (x.1,λi=>if i=j then v else x.2 i)else G q)::F) w'->K w'):stCells ⟨x.1,j,none⟩ 0 [.int .u64 v] w K:=by
 obtain⟨D,h,hs⟩:=H.step;have J:=h.2.2 p x hp;refine LI (J.2 j hj).1 (J.2 j hj).2 rfl λw' a=>hK w' ?_;have get: ∀q y,(if q=p then some (x.1,λi=>if i=(j:Int)then v else x.2 i)else G q)=some y->(q=p/\y=(x.1,λi=>if i=(j:Int)then v else x.2 i))∨(q≠p/\G q=some y):=by
  intro q y h;by_cases e:q=p
  .rw[if_pos e]at h;cases h;exact .inl ⟨e,rfl⟩
  .rw[if_neg e]at h;exact .inr ⟨e,h⟩
 refine hs w' D _ (a.ext.mono λi _ hi=>(h.1 i).2 ⟨p,x,hp,hi⟩) ⟨λk=> ?_,λq r y z m hr e=> ?_,λq y m=> ?_⟩ λk hk=>.inl hk
 .rw[h.1];constructor
  .rintro⟨q,y,m,rfl⟩;by_cases e:q=p
   .subst e;rw[hp]at m;cases m;exact⟨q,(x.1,λi=>if i=(j:Int)then v else x.2 i),by simp,rfl⟩
   .exact⟨q,y,by simp[e,m],rfl⟩
  .rintro⟨q,y,m,rfl⟩;rcases get q y m with ⟨_,rfl⟩|⟨_,h⟩
   .exact⟨p,x,hp,rfl⟩
   .exact⟨q,y,h,rfl⟩
 .rcases get q y m with ⟨u,rfl⟩|⟨u,h1⟩
  .rcases get r z hr with ⟨d,rfl⟩|⟨d,O⟩
   .rw[u,d]
   .rw[u];exact h.2.1 p r x z hp O e
  .rcases get r z hr with ⟨d,rfl⟩|⟨d,O⟩
   .rw[d];exact h.2.1 q p y x h1 hp e
   .exact h.2.1 q r y z h1 O e
 .rcases get q y m with ⟨u,rfl⟩|⟨u,h1⟩
  .refine⟨by rw[a.size];exact J.1,λi hi=>⟨?_,by rw[a.frozen];exact(J.2 i hi).2⟩⟩;by_cases e:i=j
   .subst e;simp only[if_true];exact a.same
   .have e': ¬((i:Int)=(j:Int)):=by omega
    simp only[if_neg e'];rw[a.other _ (by intro d;injection d with _ d;exact e d)];exact(J.2 i hi).1
  .have Y:=h.2.2 q y h1;have T:y.1≠x.1:=λe=>u (h.2.1 q p y x h1 hp e);refine⟨by rw[a.size];exact Y.1,λi hi=>⟨?_,by rw[a.frozen];exact(Y.2 i hi).2⟩⟩;rw[a.other _ (by intro d;injection d with d _;exact T d)];exact(Y.2 i hi).1
end
def Al{α:Type}(R:α->Pr)(L:List α):Pr:=S5 (L.map R)
section
variable{α:Type}{R R':α->Pr}{L L':List α}{F:List Pr}{w:World}
def Sat.many:Sat (Al R L::F) w↔Sat (L.map R++F) w:=Sat.star
def Sat.KT(H:Sat (Al R L::F) w)(h:L.Perm L'):Sat (Al R L'::F) w:=
 Sat.many.2 ((Sat.many.1 H).perm ((h.map R).append_right F))
def Sat.Ix{x:α}:Sat (Al R (x::L)::F) w↔Sat (R x::Al R L::F) w:=by
 constructor
 .intro H;have h1:Sat (R x::(L.map R++F)) w:=Sat.many.1 H;have a:Sat (L.map R++(R x::F)) w:=h1.perm List.perm_middle.symm;exact(Sat.many.2 a).perm (.swap _ _ _)
 .intro H;have a:Sat (L.map R++(R x::F)) w:=Sat.many.1 (H.perm (.swap _ _ _));exact Sat.many.2 (a.perm List.perm_middle)
def Sat.FO(H:Sat (Al R L::F) w){i:Nat}{x:α}(hi:L[i]? =some x):Sat (R x::Al R (L.eraseIdx i)::F) w:=
 Sat.Ix.1 (H.KT (D8 hi))
def Sat.Wq{y:α}{i:Nat}(H:Sat (R y::Al R (L.eraseIdx i)::F) w)(hi:i<L.length):Sat (Al R (L.set i y)::F) w:=
 (Sat.Ix.2 H).KT (MU hi)
def Sat.Jb{i:Nat}{x:α}(H:Sat (R x::Al R (L.eraseIdx i)::F) w)(hi:L[i]? =some x):Sat (Al R L::F) w:=
 (Sat.Ix.2 H).KT (D8 hi).symm
def Sat.T6{x:α}(H:Sat (R x::Al R L::F) w):Sat (Al R (L++[x])::F) w:=
 (Sat.Ix.2 H).KT (List.perm_append_singleton x L).symm
def Sat.Mr(H:Sat F w)(R:α->Pr):Sat (Al R []::F) w:=Sat.many.2 H
def Sat.tF:Sat (Al R (L++L')::F) w↔Sat (Al R L::Al R L'::F) w:=by
 rw[Sat.many,Sat.many,List.map_append,List.append_assoc];constructor
 .intro H;have h1:Sat (L'.map R++(L.map R++F)) w:=by
   refine H.perm ?_;rw[<-List.append_assoc,<-List.append_assoc];exact List.perm_append_comm.append_right F
  exact(Sat.many.2 h1).perm List.perm_middle.symm
 .intro H;have h1:Sat (Al R L'::(L.map R++F)) w:=H.perm List.perm_middle;refine(Sat.many.1 h1).perm ?_;rw[<-List.append_assoc,<-List.append_assoc];exact List.perm_append_comm.append_right F
def Al.congr(h: ∀x∈L,R x=R' x):Al R L=Al R' L:=by
 unfold Al;rw[List.map_congr_left h]
end
def Lw{t n z:Nat}{vs:List Value}{Rs:List Pr}{w:World}(H:Sat Rs w)(u:vs.length=n*z)(m:n<9223372036854775808){K:Nat->World->Prop}
  (a: ∀b w',Sat (Row t z ⟨some ⟨b,0,none⟩,n,n⟩ vs::Rs) w'->K b w'):AL (.cells ⟨vs⟩ t) w K:=
 A8 λw' d v he=>a _ _ (H.new (P:=Row t z ⟨some ⟨w.heap.size,0,none⟩,n,n⟩ vs) (D:=O5 ⟨some ⟨w.heap.size,0,none⟩,n,n⟩) he
  ⟨λ_=>Iff.rfl,Wm d u (Nat.zero_le _) m⟩ λk e=>by obtain⟨x,J,rfl⟩:=e;grind)
def wN(u:Nat->Bool):Nat->Nat
 | 0=>0
 | n+1=>wN u n|||(if u n then 2^n else 0)
def DV(u:Nat->Bool): ∀(n i:Nat),(wN u n).testBit i=(decide (i<n)&&u i)
 | 0,i=>by simp[wN]
 | n+1,i=>by
  simp only[wN,Nat.testBit_or,DV u n i]
  grind
def PK(u:Nat->Bool)(n:Nat):wN u n<2^n:=
 Nat.lt_pow_two_of_testBit _ λi hi=>by rw[DV];simp;omega
def yU(u:Nat->Bool)(n:Nat):wN u (n+1)=wN u n+2^n*(u n).toNat:=by
 simp only[wN];cases h:u n
 .simp
 .rw[if_pos rfl,Nat.or_two_pow_eq_add_of_lt (PK u n)];simp
def mT{u v:Nat->Bool}{n:Nat}(h: ∀i,i<n->u i=v i):wN u n=wN v n:=by
 apply Nat.eq_of_testBit_eq;intro i;rw[DV,DV]
 grind
def yV{u v:Nat->Bool}{n:Nat}(h:wN u n=wN v n){i:Nat}(hi:i<n):u i=v i:=by
 have:=congrArg (λx=>x.testBit i) h;simpa[DV,hi]using this
def W(u:Nat->Bool):Int:=(wN u 64:Nat)
def HM{u v:Nat->Bool}(h: ∀i,i<64->u i=v i):W u=W v:=by unfold W;rw[mT h]
def xL{u v:Nat->Bool}(h:W u=W v){i:Nat}(hi:i<64):u i=v i:=by
 unfold W at h;exact yV (Int.ofNat.inj h) hi
def W_iff{u v:Nat->Bool}:W u=W v↔ ∀i,i<64->u i=v i:=⟨λh i hi=>xL h hi,HM⟩
def Wr:W (λ_=>false)=0:=by
 unfold W;have:wN (λ_=>false) 64=0:=by
  apply Nat.eq_of_testBit_eq;intro i;rw[DV];simp
 omega
def Ws:W (λ_=>true)=18446744073709551615:=by
 unfold W;have:wN (λ_=>true) 64=18446744073709551615:=by
  have e:(18446744073709551615:Nat)=2^64-1:=by decide
  rw[e];apply Nat.eq_of_testBit_eq;intro i;rw[DV,Nat.testBit_two_pow_sub_one];simp
 omega
def mU:W (λi=>i==0)=1:=by
 unfold W;have:wN (λi=>i==0) 64=1:=by
  apply Nat.eq_of_testBit_eq;intro i;rw[DV];have:Nat.testBit 1 i=decide (0=i):=Nat.testBit_two_pow (n:=0) (m:=i)
  grind
 omega
def Hp{u:Nat->Bool}:W u=0↔ ∀i,i<64->u i=false:=by
 rw[<-Wr,W_iff]
def xM(u:Nat->Bool):(BitVec.ofInt 64 (W u)).toNat=wN u 64:=by
 unfold W;rw[BitVec.ofInt_natCast,BitVec.toNat_ofNat];exact Nat.mod_eq_of_lt (PK u 64)
def T7{n:Nat}(h:n<18446744073709551616):IntKind.wrap .u64 (n:Int)=(n:Int):=AR
def mV(u v:Nat->Bool):DQ .u64 0 (W u) (W v)=W λi=>u i&&v i:=by
 show IntKind.wrap .u64 ((BitVec.ofInt 64 (W u)&&&BitVec.ofInt 64 (W v)).toNat:Int)=_;rw[BitVec.toNat_and,xM,xM];have e:wN u 64&&&wN v 64=wN (λi=>u i&&v i) 64:=by
  apply Nat.eq_of_testBit_eq;intro i;rw[Nat.testBit_and,DV,DV,DV]
  grind
 rw[e,T7 (PK _ 64)];rfl
def mW(u v:Nat->Bool):DQ .u64 1 (W u) (W v)=W λi=>u i||v i:=by
 show IntKind.wrap .u64 ((BitVec.ofInt 64 (W u)|||BitVec.ofInt 64 (W v)).toNat:Int)=_;rw[BitVec.toNat_or,xM,xM];have e:wN u 64|||wN v 64=wN (λi=>u i||v i) 64:=by
  apply Nat.eq_of_testBit_eq;intro i;rw[Nat.testBit_or,DV,DV,DV]
  grind
 rw[e,T7 (PK _ 64)];rfl
def Nx(u v:Nat->Bool):DQ .u64 3 (W u) (W v)=W λi=>u i&& !v i:=by
 show IntKind.wrap .u64 ((BitVec.ofInt 64 (W u)&&& ~~~BitVec.ofInt 64 (W v)).toNat:Int)=_;rw[BitVec.toNat_and,xM,BitVec.toNat_not,xM];have e:wN u 64&&&(2^64-1-wN v 64)=wN (λi=>u i&& !v i) 64:=by
  apply Nat.eq_of_testBit_eq;intro i;have a:2^64-1-wN v 64=2^64-(wN v 64+1):=by omega
  rw[Nat.testBit_and,a,Nat.testBit_two_pow_sub_succ (PK v 64),DV,DV,DV]
  grind
 rw[e,T7 (PK _ 64)];rfl
def mX(u:Nat->Bool){n:Int}(h0:0<=n)(h1:n<=64):Int.fdiv (W u) (2^(min n.toNat (IntKind.bits .u64)))=W λi=>decide (i+n.toNat<64)&&u (i+n.toNat):=by
 have a:IntKind.bits .u64=64:=rfl;rw[a,Nat.min_eq_left (by omega),Int.fdiv_eq_ediv_of_nonneg _ (Int.pow_nonneg (by decide))];generalize n.toNat=k;unfold W;have e:((wN u 64:Nat):Int)/2^k=((wN u 64/2^k:Nat):Int):=by grind
 rw[e];congr 1;apply Nat.eq_of_testBit_eq;intro i;rw[Nat.testBit_div_two_pow,DV,DV]
 grind
def mY(u:Nat->Bool){n:Int}(h0:0<=n)(h1:n<=64):u64 (W u*2^(min n.toNat (IntKind.bits .u64)))=W λi=>decide (n.toNat<=i)&&u (i-n.toNat):=by
 have a:IntKind.bits .u64=64:=rfl;rw[a,Nat.min_eq_left (by omega)];generalize n.toNat=k;unfold W;have e:((wN u 64:Nat):Int)*2^k=((wN u 64*2^k:Nat):Int):=by grind
 rw[e,QV];have d:(((wN u 64*2^k:Nat):Int) %18446744073709551616)=((wN u 64*2^k %2^64:Nat):Int):=by omega
 rw[d];congr 1;apply Nat.eq_of_testBit_eq;intro i;rw[Nat.testBit_mod_two_pow,Nat.testBit_mul_two_pow,DV,DV]
 grind
def W_get(u:Nat->Bool){n:Int}(h0:0<=n)(h1:n<64):DQ .u64 0 (Int.fdiv (W u) (2^(min n.toNat (IntKind.bits .u64)))) 1=if u n.toNat then 1 else 0:=by
 rw[mX u h0 (by omega),<-mU,mV];cases hu:u n.toNat
 .rw[if_neg (by decide),Hp]
  grind
 grind
def mZ{x:Nat}(h0:x≠0)(h:x<2^64):DQ .u64 0 (x:Int) (u64 (0-x))=((x&&&(2^64-x):Nat):Int):=by
 have e:u64 (0-(x:Int))=((2^64-x:Nat):Int):=by
  rw[QV];omega
 rw[e];show IntKind.wrap .u64 ((BitVec.ofInt 64 (x:Int)&&&BitVec.ofInt 64 ((2^64-x:Nat):Int)).toNat:Int)=_;rw[BitVec.toNat_and,BitVec.ofInt_natCast,BitVec.ofInt_natCast,BitVec.toNat_ofNat,BitVec.toNat_ofNat,Nat.mod_eq_of_lt h,Nat.mod_eq_of_lt (by omega)];exact T7 (Nat.lt_of_le_of_lt Nat.and_le_left h)
def tG{x:Nat}(h0:x≠0)(h:x<2^64):Lib.ctz 64 x<64/\x.testBit (Lib.ctz 64 x)=true/\ ∀i,i<Lib.ctz 64 x->x.testBit i=false:=by
 obtain⟨m,hm,a⟩:=Lib.ctzFrom_spec 64 x (by omega) h;have e:Lib.ctz 64 x=Lib.ctzFrom 64 x:=by simp[Lib.ctz,h0]
 grind
def DJ(g:Nat)(w:World):Prop:= ∀i,i<64->w.cell? ⟨g,i,none⟩=some (.int .u8 (Lib.deBruijn64tab.getD i 0:Nat))
def DJ.ext{g:Nat}{w w':World}(h:DJ g w)(he:Ext AN w w'):DJ g w':=λi hi=>he.cell (h i hi) λf=>f
def D(B:Nat):Nat->(Nat->Nat)->Nat
 | 0,_=>0
 | n+1,d=>d 0+B*D B n λj=>d (j+1)
def Oo{B:Nat}: ∀{n:Nat} {d e:Nat->Nat},(∀j,j<n->d j=e j)->D B n d=D B n e
 | 0,_,_,_=>rfl
 | n+1,d,e,h=>by
  simp only[D];rw[h 0 (by omega),Oo λj a=>h (j+1) (by omega)]
def Wu(B:Nat): ∀(n:Nat) (d:Nat->Nat),D B (n+1) d=D B n d+B^n*d n
 | 0,d=>by simp[D]
 | n+1,d=>by
  have a:=Wu B n λj=>d (j+1);show d 0+B*D B (n+1) (λj=>d (j+1))=d 0+B*D B n (λj=>d (j+1))+B^(n+1)*d (n+1)
  grind
def aU{B:Nat}: ∀{n:Nat} {d:Nat->Nat},(∀j,d j<B)->D B n d<B^n
 | 0,_,_=>by simp[D]
 | n+1,d,h=>by
  have a:=aU (B:=B) (n:=n) (d:=λj=>d (j+1)) λj=>h (j+1);have h0:=h 0;have e:B^(n+1)=B*B^n:=by grind
  have:B*(D B n (λj=>d (j+1))+1)<=B*B^n:=Nat.mul_le_mul_left _ a;rw[Nat.mul_add]at this;rw[e];simp only[D];omega
def T8(B:Nat): ∀(n:Nat) (d e:Nat->Nat),D B n d+D B n e=D B n λj=>d j+e j
 | 0,_,_=>rfl
 | n+1,d,e=>by
  simp only[D];rw[<-T8 B n,Nat.mul_add];omega
def Yc{B:Nat}{n:Nat}{d:Nat->Nat}(h0:d 0<B)(a:d n=0):D B n d/B=D B n λj=>d (j+1):=by
 cases n with
 | zero=>simp[D]
 | succ n=>
  have e:D B (n+1) (λj=>d (j+1))=D B n λj=>d (j+1):=by rw[Wu];simp[a]
  rw[e];simp only[D];rw[Nat.add_mul_div_left _ _ (by omega),Nat.div_eq_of_lt h0,Nat.zero_add]
def Wv{B n:Nat}{d:Nat->Nat}(h: ∀j,d j<B)(hz: ∀j,n<=j->d j=0): ∀k,D B n d/B^k=D B n λj=>d (j+k)
 | 0=>by simp
 | k+1=>by
  rw[Nat.pow_succ,<-Nat.div_div_eq_div_mul,Wv h hz k,Yc (d:=λj=>d (j+k)) (h _) (hz _ (by omega))]
  grind
def jK{b x y X Y:Nat}(d:x<2^b)(a:y<2^b):(x+2^b*X)&&&(y+2^b*Y)=(x&&&y)+2^b*(X&&&Y):=by
 apply Nat.eq_of_testBit_eq;intro i;rw[Nat.add_comm x,Nat.add_comm y,Nat.add_comm (x&&&y),Nat.testBit_and,Nat.testBit_two_pow_mul_add _ d,Nat.testBit_two_pow_mul_add _ a,Nat.testBit_two_pow_mul_add _ (Nat.and_lt_two_pow x a)]
 grind
def xN{b:Nat}: ∀(n:Nat) (d m:Nat->Nat),(∀j,d j<2^b)->(∀j,m j<2^b)->D (2^b) n d&&&D (2^b) n m=D (2^b) n λj=>d j&&&m j
 | 0,_,_,_,_=>by simp[D]
 | n+1,d,m,h1,h2=>by
  simp only[D];rw[jK (h1 0) (h2 0),xN n _ _ (λj=>h1 (j+1)) λj=>h2 (j+1)]
def m6(B:Nat): ∀(n:Nat) (d:Nat->Nat),D B (2*n) d=D (B*B) n λj=>d (2*j)+B*d (2*j+1)
 | 0,_=>rfl
 | n+1,d=>by
  rw[show 2*(n+1)=2*n+1+1 by omega];simp only[D];rw[m6 B n]
  grind
def lQ(f:Nat->Nat):Nat->Nat:=λj=>if j %2=0 then f j else 0
def T9{b B:Nat}(a:B=2^b)(n:Nat)(d:Nat->Nat)(h: ∀j,d j<B):D B n d&&&D B n (lQ λ_=>B-1)=D B n (lQ d):=by
 subst a;have hp:0<2^b:=Nat.two_pow_pos b;rw[xN n d _ h λj=>by dsimp only[lQ];grind];congr 1;funext j;dsimp only[lQ];split
 .exact Nat.and_two_pow_sub_one_of_lt_two_pow (h j)
 .simp
def nA(B n:Nat)(d:Nat->Nat):D B (2*n) (lQ d)=D (B*B) n λj=>d (2*j):=by
 rw[m6];congr 1;funext j;unfold lQ;rw[if_pos (by omega),if_neg (by omega)];omega
def wN_D(u:Nat->Bool): ∀n,wN u n=D 2 n λj=>(u j).toNat
 | 0=>rfl
 | n+1=>by rw[yU,Wu,wN_D u n]
def cN(u:Nat->Bool):Nat->Nat
 | 0=>0
 | n+1=>cN u n+(u n).toNat
def fF(u:Nat->Bool)(n:Nat):cN u n<=n:=by
 induction n with
 | zero=>exact Nat.le_refl _
 | succ n ih=>simp only[cN];have:=Bool.toNat_le (u n);omega
def swar{u:Nat->Bool}(hu: ∀i,64<=i->u i=false){x0 T a x3 Y K x6:Nat}(h0:x0=wN u 64)(h1:T=(x0/2&&&6148914691236517205)+(x0&&&6148914691236517205))
  (h2:a=(T/4&&&3689348814741910323)+(T&&&3689348814741910323))(h3:x3=(a/16+a)&&&1085102592571150095)(h4:Y=x3+x3/256)(h5:K=Y+Y/65536)(h6:x6=K+K/4294967296):
  T<18446744073709551616/\a<18446744073709551616/\a/16+a<18446744073709551616/\Y<18446744073709551616/\K<18446744073709551616/\x6<9223372036854775808/\x6 %128=cN u 64:=by
 obtain⟨d,hd⟩: ∃d:Nat->Nat,∀j,d j=(u j).toNat:=⟨_,λ_=>rfl⟩;have hb: ∀j,d j<=1:=λj=>by rw[hd];exact Bool.toNat_le (u j)
 have hz: ∀j,64<=j->d j=0:=λj O=>by rw[hd,hu j O];rfl
 have e0:x0=D 2 64 d:=by rw[h0,wN_D];exact Oo λj _=>(hd j).symm
 have m1:(6148914691236517205:Nat)=D 2 64 (lQ λ_=>2-1):=by decide+kernel
 have m2:(3689348814741910323:Nat)=D 4 32 (lQ λ_=>4-1):=by decide+kernel
 have m3:(1085102592571150095:Nat)=D 16 16 (lQ λ_=>16-1):=by decide+kernel
 have q1: ∀d,D 2 64 (lQ d)=D 4 32 λj=>d (2*j):=λd=>nA 2 32 d;have q2: ∀d,D 4 32 (lQ d)=D 16 16 λj=>d (2*j):=λd=>nA 4 16 d;have q3: ∀d,D 16 16 (lQ d)=D 256 8 λj=>d (2*j):=λd=>nA 16 8 d;obtain⟨c,m⟩: ∃c:Nat->Nat,∀j,c j=d (2*j+1)+d (2*j):=⟨_,λ_=>rfl⟩;have bc: ∀j,c j<=2:=λj=>by rw[m];grind
 have zc: ∀j,32<=j->c j=0:=λj O=>by rw[m,hz _ (by omega),hz _ (by omega)]
 have e1:T=D 4 32 c:=by
  rw[h1,e0,Yc (by have:=hb 0;omega) (hz 64 (by omega)),m1,T9 (b:=1) rfl 64 _ (λj=>by have:=hb (j+1);omega),T9 (b:=1) rfl 64 _ (λj=>by have:=hb j;omega),q1,q1,T8];exact Oo λj _=>(m j).symm
 have l1:T<4^32:=by rw[e1];exact aU λj=>by have:=bc j;omega
 obtain⟨e,v⟩: ∃e:Nat->Nat,∀j,e j=c (2*j+1)+c (2*j):=⟨_,λ_=>rfl⟩;have be: ∀j,e j<=4:=λj=>by rw[v];grind
 have ze: ∀j,16<=j->e j=0:=λj O=>by rw[v,zc _ (by omega),zc _ (by omega)]
 have e2:a=D 16 16 e:=by
  rw[h2,e1,Yc (by have:=bc 0;omega) (zc 32 (by omega)),m2,T9 (b:=2) rfl 32 _ (λj=>by have:=bc (j+1);omega),T9 (b:=2) rfl 32 _ (λj=>by have:=bc j;omega),q2,q2,T8];exact Oo λj _=>(v j).symm
 have l2:a<16^16:=by rw[e2];exact aU λj=>by have:=be j;omega
 have aB:a/16+a=D 16 16 λj=>e (j+1)+e j:=by
  rw[e2,Yc (by have:=be 0;omega) (ze 16 (by omega)),T8]
 have l3:a/16+a<16^16:=by rw[aB];exact aU λj=>by grind
 obtain⟨g,J⟩: ∃g:Nat->Nat,∀j,g j=e (2*j+1)+e (2*j):=⟨_,λ_=>rfl⟩;have bg: ∀j,g j<=8:=λj=>by rw[J];grind
 have zg: ∀j,8<=j->g j=0:=λj O=>by rw[J,ze _ (by omega),ze _ (by omega)]
 have e3:x3=D 256 8 g:=by
  rw[h3,aB,m3,T9 (b:=4) rfl 16 _ (λj=>by grind),q3];exact Oo λj _=>(J j).symm
 have e4:Y=D 256 8 λj=>g j+g (j+1):=by
  rw[h4,e3,Yc (by have:=bg 0;omega) (zg 8 (by omega)),T8]
 have l4:Y<256^8:=by rw[e4];exact aU λj=>by grind
 have e5:K=D 256 8 λj=>g j+g (j+1)+(g (j+2)+g (j+3)):=by
  have:=Wv (B:=256) (n:=8) (d:=λj=>g j+g (j+1)) (λj=>by grind) (λj O=>by grind) 2;rw[h5,e4,show(65536:Nat)=256^2 from rfl,this,T8]
 have l5:K<256^8:=by rw[e5];exact aU λj=>by grind
 obtain⟨k,hk⟩: ∃k:Nat->Nat,∀j,k j=g j+g (j+1)+(g (j+2)+g (j+3)):=⟨_,λ_=>rfl⟩;have bk: ∀j,k j<=32:=λj=>by rw[hk];grind
 have zk: ∀j,8<=j->k j=0:=λj O=>by rw[hk,zg _ (by omega),zg _ (by omega),zg _ (by omega),zg _ (by omega)]
 have aH:K=D 256 8 k:=by rw[e5];exact Oo λj _=>(hk j).symm
 have e6:x6=D 256 8 λj=>k j+k (j+4):=by
  have:=Wv (B:=256) (n:=8) (d:=k) (λj=>by have:=bk j;omega) zk 4;rw[h6,aH,show(4294967296:Nat)=256^4 from rfl,this,T8]
 have l6:x6<9223372036854775808:=by
  rw[e6,Wu];have h1:D 256 7 (λj=>k j+k (j+4))<256^7:=aU λj=>by grind
  grind
 have p1:(4:Nat)^32=18446744073709551616:=by decide
 have p2:(16:Nat)^16=18446744073709551616:=by decide
 have p3:(256:Nat)^8=18446744073709551616:=by decide
 rw[p1]at l1;rw[p2]at l2 l3;rw[p3]at l4 l5;refine⟨l1,l2,l3,l4,l5,l6,?_⟩;have e7:x6 %128=k 0+k 4:=by
  rw[e6];have b0:=bk 0;have b4:=bk 4;rw[show(8:Nat)=7+1 from rfl];simp only[D,Nat.zero_add];omega
 have aQ:cN u 64=k 0+k 4:=by
  simp only[hk,J,v,m,hd,Nat.reduceMul,Nat.reduceAdd];simp only[cN,Nat.reduceMul,Nat.reduceAdd];omega
 omega
def jL{α:Type}(n:Nat)(z:Nat->α):List α:=(List.range n).map z
def Qf{α:Type}(n:Nat)(z:Nat->α):(jL n z).length=n:=by simp[jL]
structure RgF(k:IntKind)(es:Array MapEntry)(c:Nat)(seen:Array Nat)(last:Nat)(m:List (Int×Value))(cur:Option Int)(done:List Int):Prop where
 ok:MapI k es c m
 lst:seen.isEmpty=true∨last=c
 nd:done.Nodup
 sub: ∀n∈done,aget m n≠none
 met: ∀e∈es.toList,seen.contains e.born=true↔ ∃n∈done,e.key= .int k n
 cur: ∀n,cur=some n->last=c/\ ∃e,e∈es.toList/\seen.back?=some e.born/\e.key= .int k n/\aget m n=some e.val
def MapI.key_inj{k:IntKind}{es:Array MapEntry}{c:Nat}{m:List (Int×Value)}(h:MapI k es c m){x y:MapEntry}(u:x∈es.toList)(v:y∈es.toList)(he:x.key=y.key):x=y:=by
 have h1:(es.toList.map (·.key)).Nodup:=by
  have e:es.toList.map (·.key)=m.map λp=>Value.int k p.1:=by
   have:=congrArg (List.map Prod.fst) h.keys;simpa[List.map_map,Function.comp_def]using this
  rw[e,show(m.map λp=>Value.int k p.1)=(m.map (·.1)).map (Value.int k) by simp];refine List.Pairwise.map _ (λa b d=> ?_) h.nodup
  grind
 exact KF h1 u v he
def MapI.Rm{k:IntKind}{es:Array MapEntry}{c:Nat}{m:List (Int×Value)}(h:MapI k es c m){e:MapEntry}(he:e∈es.toList):es.find? (λx:MapEntry=>x.born==e.born)=some e:=by
 rw[<-Array.find?_toList];have: ∀l:List MapEntry,(l.map (·.born)).Nodup->e∈l->l.find? (λx:MapEntry=>x.born==e.born)=some e:=by
  intro l
  induction l with
  | nil=>grind
  | cons x r ih=>grind
 exact this es.toList h.born he
def VW(r mb:Nat)(k:IntKind)(g:Int->Option Value)(cur:Option Int)(done:List Int)(N:Nat):Pr where
 holds D w:=(∀i,D i↔i=r∨i=mb)/\r≠mb/\ ∃es c seen last m,w.heap[r]? =some (.mapIter (some mb) c seen last)/\w.heap[mb]? =some (.map es c)/\
  RgF k es c seen last m cur done/\(∀i,aget m i=g i)/\Ij es seen=N
 loc h he hS:=⟨h.1,h.2.1,let⟨es,c,seen,last,m,h1,a,d⟩:=h.2.2;⟨es,c,seen,last,m,he.obj h1 (hS _ ((h.1 _).2 (.inl rfl))),he.obj a (hS _ ((h.1 _).2 (.inr rfl))),d⟩⟩
 lt h e:=by
  obtain⟨es,c,seen,last,m,h1,a,d⟩:=h.2.2;rcases(h.1 _).1 e with rfl|rfl
  .exact Fp h1
  .exact Fp a
def nB(r mb:Nat)(w:World):Nat:=match w.heap[r]?,w.heap[mb]? with
 | some (.mapIter _ _ seen _),some (.map es _)=>Ij es seen
 | _,_=>0
section
variable{F:List Pr}{w w':World}{r mb:Nat}{k:IntKind}{g:Int->Option Value}{cur:Option Int}{done:List Int}{N:Nat}
def Sat.fG(H:Sat (VW r mb k g cur done N::F) w):nB r mb w=N:=by
 obtain⟨_,h⟩:=H.head;obtain⟨es,c,seen,last,m,h1,a,e,u,d⟩:=h.2.2;simp only[nB,h1,a];exact d
def Sat.fH(H:Sat (VW r mb k g cur done N::F) w):done.Nodup/\ ∀n∈done,g n≠none:=by
 obtain⟨_,h⟩:=H.head;obtain⟨es,c,seen,last,m,h1,u,a,d,v⟩:=h.2.2;exact⟨a.nd,λn e=>by rw[<-d];exact a.sub n e⟩
def Sat.yW(H:Sat (VW r mb k g cur done N::F) w):Sat (CH mb k g::F) w:=by
 obtain⟨D,h,u⟩:=H.step;obtain⟨es,c,seen,last,m,h1,a,d,e,v⟩:=h.2.2;exact u w (λi=>i=mb) _ (Ext.refl _ _) ⟨λ_=>Iff.rfl,es,c,m,a,d.ok,e⟩ λi hi=>.inl ((h.1 i).2 (.inr hi))
def yX(H:Sat (CH mb k g::F) w){K:Nat->World->Prop}(J: ∀r N w',Sat (VW r mb k g none [] N::F) w'->K r w'): ∃cl,PG w (some mb) cl/\AL (Kk (some mb) cl) w K:=by
 obtain⟨es,c,m,h1,u,v⟩:=H.Qd;refine⟨c,⟨es,h1⟩,A8 λw' O Y he=> ?_⟩;obtain⟨D,h,d⟩:=H.step;have T:mb<w.heap.size:=Fp h1;refine J _ (Ij es #[]) w' (d w' (λi=>i=w.heap.size∨i=mb) _ (he.mono λ_ _ f=>f.elim) ⟨λ_=>Iff.rfl,by omega,es,c,#[],c,m,O,he.obj h1 λf=>f,⟨u,.inl rfl,List.nodup_nil,(λn a=>by cases a),(λe _=>by simp),(λn a=>by cases a)⟩,v,rfl⟩ ?_);rintro i (rfl|rfl)
 .exact .inr (Nat.le_refl _)
 .exact .inl ((h.1 _).2 rfl)
def nC(H:Sat (VW r mb k g cur done N::F) w){Kn:World->Prop}{Ks:Value->Value->World->Prop}(h0: ∀w',Sat (VW r mb k g cur done N::F) w'->(∀n,n∈done↔g n≠none)->Kn w')
  (h1: ∀n v w' N',g n=some v->n∉done->N'<N->Sat (VW r mb k g (some n) (done++[n]) N'::F) w'->Ks (.int k n) v w'):Th r w Kn Ks:=by
 have HN: ∀w',(w'=w∨w'=w.drew)->Sat (VW r mb k g cur done N::F) w':=λw' h=>by rcases h with rfl|rfl;exact H;exact H.drew
 obtain⟨D,h,_⟩:=H.step;obtain⟨es,c,seen,last,m,g1,g2,g3,g4,g5⟩:=h.2.2;refine⟨some mb,c,seen,last,g1,es,c,g2,?_,?_,?_⟩
 .rcases g3.lst with hl|rfl
  .simp[hl]
  .by_cases he:es.isEmpty=true
   .simp[he]
   .have:es.all (λx=>decide (x.born≥last))=false:=by
     have aQ:0<es.size:=Nat.pos_of_ne_zero λe=>he (by grind);have hm:es[0]∈es.toList:=by simp
     have:=g3.ok.lt _ hm
     grind
    simp[this]
 .intro w' u Y;refine h0 w' (HN w' u) λn=>⟨λhn=>by rw[<-g4];exact g3.sub n hn,λhn=> ?_⟩;have hf:(leftOf es seen).filter (λx=>decide (x.born<c))=leftOf es seen:=by
   apply Array.filter_eq_self.2;intro e he;exact decide_eq_true (g3.ok.lt e (HL.1 he).1)
  rw[hf]at Y;rw[<-g4]at hn;cases hg:aget m n with
  | none=>grind
  | some v=>
   obtain⟨e,he,hk,hv⟩:=g3.ok.TM hg;have O:seen.contains e.born=true:=by
    cases hsc:seen.contains e.born with
    | true=>rfl
    | false=>
     have:e∈leftOf es seen:=HL.2 ⟨he,hsc⟩
     grind
   obtain⟨n',d,K⟩:=(g3.met e he).1 O
   grind
 .intro w' e u he;obtain⟨q1,q2⟩:=HL.1 he;obtain⟨n,J,aH⟩:=g3.ok.QZ q1;rw[J];have aJ:n∉done:=λhn=>by
   have:=(g3.met e q1).2 ⟨n,hn,J⟩
   grind
  have T:Ij es (seen.push e.born)<Ij es seen:=by
   unfold Ij;refine filter_lt (λx _ hx=> ?_) ⟨e,q1,by grind,by simp⟩
   grind
  refine h1 n e.val _ (Ij es (seen.push e.born)) (by rw[<-g4];exact aH) aJ (by rw[<-g5];exact T) ?_;obtain⟨D',h',aK⟩:=(HN w' u).step;have aB:Ext AN w w':=by rcases u with rfl|rfl;exact Ext.refl _ _;exact Ext.drew _ _
  have aG:=aB.obj g2 λf=>f;have aI:r<w'.heap.size:=by have:=Fp g1;have:=aB.size;omega
  refine aK _ D' _ ((Ext.GX w' r _).mono λi _ hi=>(h'.1 i).2 (.inl hi)) ⟨h'.1,h'.2.1,es,c,seen.push e.born,c,m,?_,?_,⟨g3.ok,.inr rfl,?_,?_,?_,?_⟩,g4,rfl⟩ λi hi=>.inl hi
  .simp[World.GX,aI]
  .exact(Ext.GX w' r _).obj aG λe:mb=r=>h'.2.1 e.symm
  .rw[List.nodup_append];exact⟨g3.nd,by simp,λa ha b hb=>by simp at hb;subst hb;rintro rfl;grind⟩
  .intro n' d;rcases List.mem_append.1 d with h|h
   .exact g3.sub n' h
   grind
  .intro x hx;constructor
   .intro O;simp at O;rcases O with O|O
    .obtain⟨n',d,K⟩:=(g3.met x hx).1 (by grind)
     grind
    .have:x=e:=KF g3.ok.born hx q1 O
     grind
   .rintro⟨n',d,K⟩;rcases List.mem_append.1 d with h|h
    .have:=(g3.met x hx).2 ⟨n',h,K⟩
     grind
    .simp at h;subst h;have:x=e:=g3.ok.key_inj hx q1 (by grind)
     grind
  grind
def tH{n:Int}(H:Sat (VW r mb k g (some n) done N::F) w){K:Value->Value->HI->Prop}(d: ∀v S,g n=some v->K (.int k n) v S):mE r w K:=by
 obtain⟨_,h⟩:=H.head;obtain⟨es,c,seen,last,m,g1,g2,g3,g4,g5⟩:=h.2.2;obtain⟨rfl,e,he,a,u,J⟩:=g3.cur n rfl;refine⟨mb,last,last,seen,es,last,e.born,e,⟨g1,g2⟩,a,rfl,g3.ok.Rm he,?_⟩
 grind
end
abbrev Kd:=Int×Bool×Bool×Bool
def NR(k:Kd):List Value:=[.int .i64 k.1,.bool k.2.1,.bool k.2.2.1,.bool k.2.2.2]
def kget:List (Kd×Value)->Kd->Option Value
 | [],_=>none
 | p::r,n=>if p.1=n then some p.2 else kget r n
structure LL(es:Array MapEntry)(clock:Nat)(m:List (Kd×Value)):Prop where
 keys:es.toList.map (λe=>(e.key,e.val))=m.map (λp=>(Value.agg ⟨NR p.1⟩,p.2))
 nodup:(m.map (·.1)).Nodup
 born:(es.toList.map (·.born)).Nodup
 lt: ∀e∈es.toList,e.born<clock
def LL.empty:LL #[] 0 []:=⟨rfl,by simp,by simp,by simp⟩
def yY(a b:Kd):eqA (NR a) (NR b)=some (decide (a=b)):=by
 obtain⟨a1,a2,d,e⟩:=a;obtain⟨b1,b2,b3,m⟩:=b;by_cases h1:a1=b1
 .subst h1;cases a2<;>cases b2<;>cases d<;>cases b3<;>cases e<;>cases m<;>simp[NR,eqA]
 .have:(a1==b1)=false:=by simp[h1]
  simp[NR,eqA,h1,this]
def UA(n:Kd): ∀(es:List MapEntry) (m:List (Kd×Value)) (i:Nat),es.map (λe=>(e.key,e.val))=m.map (λp=>(Value.agg ⟨NR p.1⟩,p.2))->
  ∃res,findA (NR n) es i=some res/\
   ((res=none/\kget m n=none)∨ ∃j v,res=some (i+j,v)/\kget m n=some v/\m[j]? =some (n,v)/\j<es.length)
 | [],[],i,_=>⟨none,rfl,.inl ⟨rfl,rfl⟩⟩
 | [],_::_,i,h=>by simp at h
 | _::_,[],i,h=>by simp at h
 | e::r,p::m,i,h=>by
  simp only[List.map_cons,List.cons.injEq,Prod.mk.injEq]at h;obtain⟨⟨J,O⟩,K⟩:=h;simp only[findA,J,yY];by_cases hn:n=p.1
  .subst hn;refine⟨some (i,e.val),by simp,.inr ⟨0,p.2,by simp[O],by simp[kget],by simp,by simp⟩⟩
  .simp only[hn,decide_false];obtain⟨res,h1,u⟩:=UA n r m (i+1) K;refine⟨res,h1,?_⟩;rcases u with ⟨a,d⟩|⟨j,v,a,d,T,Y⟩
   .exact .inl ⟨a,by simp[kget,Ne.symm hn,d]⟩
   .refine .inr ⟨j+1,v,by rw[a];grind,by simp[kget,Ne.symm hn,d],by grind,by simp;omega⟩
def LL.find{es:Array MapEntry}{c:Nat}{m:List (Kd×Value)}(h:LL es c m)(n:Kd):
  ∃res,findA (NR n) es.toList 0=some res/\((res=none/\kget m n=none)∨ ∃j v,res=some (j,v)/\kget m n=some v/\m[j]? =some (n,v)/\j<es.size):=by
 obtain⟨res,h1,a⟩:=UA n es.toList m 0 h.keys
 grind
def jM{n:Kd}{b:Nat}{w:World}{z:Value}{K:Value->Bool->Array MapEntry->Prop}{es:Array MapEntry}{c:Nat}{m:List (Kd×Value)}
  (u:w.heap[b]? =some (.map es c))(h:LL es c m)(a:K ((kget m n).getD z) (kget m n).isSome es):LKA (NR n) (some b) w z K:=by
 obtain⟨res,h1,e⟩:=h.find n;refine⟨es,res,⟨c,u⟩,h1,?_⟩;rcases e with ⟨rfl,d⟩|⟨j,v,rfl,d,_⟩
 .rw[d]at a;exact a
 .rw[d]at a;exact a
def MW{m:List (Kd×Value)}{n:Kd}{q:List (Kd×Value)}(h:kget m n=none):kget (m++q) n=kget q n:=by
 induction m with
 | nil=>rfl
 | cons p r ih=>
  simp only[kget]at h;split at h
  .cases h
  .rename_i hp;simp[kget,hp,ih h]
def VX{m:List (Kd×Value)}{n:Kd}:kget m n=none↔n∉m.map (·.1):=by
 induction m with
 | nil=>simp[kget]
 | cons p r ih=>
  simp only[kget,List.map_cons,List.mem_cons,not_or]
  grind
def Rn{m q:List (Kd×Value)}{n:Kd}{v:Value}(h:kget m n=some v):kget (m++q) n=some v:=by
 induction m with
 | nil=>cases h
 | cons p r ih=>
  simp only[kget]at h;by_cases hp:p.1=n
  .rw[if_pos hp]at h;simp[kget,hp,h]
  .rw[if_neg hp]at h;simp[kget,hp,ih h]
def nD{m:List (Kd×Value)}{n:Kd}{v:Value}{j:Nat}{u:Value}(a:m[j]? =some (n,u))(J:(m.map (·.1)).Nodup):
  (∀i,kget (m.set j (n,v)) i=if i=n then some v else kget m i)/\(m.set j (n,v)).map (·.1)=m.map (·.1):=by
 induction m generalizing j with
 | nil=>simp at a
 | cons p r ih=>
  cases j with
  | zero=>
   simp at a;subst a;refine⟨λi=> ?_,by simp⟩;simp only[List.set_cons_zero,kget]
   grind
  | succ j=>
   simp only[List.map_cons,List.nodup_cons]at J;obtain⟨h1,O⟩:=ih (by simpa using a) J.2;have d:n∈r.map (·.1):=List.mem_map.2 ⟨_,List.mem_of_getElem? (by simpa using a),rfl⟩;have K:p.1≠n:=λe=>J.1 (e▸d);refine⟨λi=> ?_,by grind⟩;simp only[List.set_cons_succ,kget,h1]
   grind
def LL.put{es:Array MapEntry}{c:Nat}{m:List (Kd×Value)}(h:LL es c m)(n:Kd)(v:Value){res:Option (Nat×Value)}(hf:findA (NR n) es.toList 0=some res):
  ∃d c' J,mapPut es c (.agg ⟨NR n⟩) v res= .map d c'/\LL d c' J/\(∀i,kget J i=if i=n then some v else kget m i)/\J.length<=m.length+1/\
   (kget m n=none->J.length=m.length+1)/\(kget m n≠none->J.length=m.length):=by
 obtain⟨K,h1,h2⟩:=h.find n;have:K=res:=by rw[h1]at hf;exact Option.some.inj hf
 subst this;rcases h2 with ⟨rfl,O⟩|⟨j,u,rfl,O,h4,h5⟩
 .refine⟨_,_,m++[(n,v)],rfl,⟨?_,?_,?_,?_⟩,λi=> ?_,by simp,by simp,λh=>absurd O h⟩
  .simp[h.keys]
  .rw[List.map_append,List.nodup_append];refine⟨h.nodup,by simp,λa Y b T=> ?_⟩;simp at T;subst T;intro e;subst e;exact VX.1 O Y
  .simp only[Array.toList_push,List.map_append,List.nodup_append];refine⟨h.born,by simp,λa Y b T=> ?_⟩;simp at T;obtain⟨e,he,rfl⟩:=List.mem_map.1 Y;have:=h.lt e he;omega
  .intro e he;simp only[Array.toList_push,List.mem_append,List.mem_singleton]at he;rcases he with he|rfl
   .have:=h.lt e he;omega
   .simp
  .by_cases hi:i=n
   .subst hi;rw[if_pos rfl,MW O];simp[kget]
   .rw[if_neg hi];cases hg:kget m i with
    | none=>rw[MW hg];simp[kget,Ne.symm hi]
    | some u=>exact Rn hg
 .obtain⟨g1,g2⟩:=nD (v:=v) h4 h.nodup;refine⟨_,_,m.set j (n,v),rfl,⟨?_,by rw[g2];exact h.nodup,?_,?_⟩,g1,by simp,(λh=>by grind),λ_=>by simp⟩
  .apply List.ext_getElem?;intro i;have hk:=congrArg (λl=>l[i]?) h.keys
   grind
  .have:(es.modify j λe=>{e with key:=.agg ⟨NR n⟩,val:=v}).toList.map (·.born)=es.toList.map (·.born):=by
    apply List.ext_getElem?
    grind
   rw[this];exact h.born
  .intro e he;obtain⟨i,hi,rfl⟩:=List.mem_iff_getElem.1 he;simp only[Array.getElem_toList,Array.getElem_modify];have aE:i<es.size:=by simpa using hi
   split
   .exact h.lt es[i] (by simp)
   .exact h.lt es[i] (by simp)
def aV{n:Kd}{v:Value}{b:Nat}{w:World}{K:World->Prop}{es:Array MapEntry}{c:Nat}{m:List (Kd×Value)}
  (J:w.heap[b]? =some (.map es c))(h:LL es c m)
  (hK: ∀w' a e d,w'.heap[b]? =some (.map a e)->LL a e d->(∀i,kget d i=if i=n then some v else kget m i)->d.length<=m.length+1->
   (kget m n=none->d.length=m.length+1)->(kget m n≠none->d.length=m.length)->Ext (KD b) w w'->w'.heap.size=w.heap.size->K w'):aK (NR n) v (some b) w K:=by
 obtain⟨res,h1,_⟩:=h.find n;refine⟨b,es,c,res,rfl,J,h1,?_⟩;obtain⟨a,e,d,O,T,Y,h5,h6,h7⟩:=h.put n v h1;rw[O];have u:=Fp J;exact hK _ a e d (by simp[World.GX,u]) T Y h5 h6 h7 (Ext.GX w b _) (by simp[World.GX])
def LL.QZ{es:Array MapEntry}{c:Nat}{m:List (Kd×Value)}(h:LL es c m){e:MapEntry}(he:e∈es.toList):
  ∃n,e.key= .agg ⟨NR n⟩/\kget m n=some e.val:=by
 obtain⟨i,hi⟩:=List.mem_iff_getElem?.1 he;have a:=congrArg (λl=>l[i]?) h.keys;simp only[List.getElem?_map,hi,Option.map_some]at a;cases hm:m[i]? with
 | none=>grind
 | some p=>
  rw[hm]at a;simp only[Option.map_some,Option.some.injEq,Prod.mk.injEq]at a;refine⟨p.1,a.1,?_⟩;have: ∀(m:List (Kd×Value)) (i:Nat),(m.map (·.1)).Nodup->m[i]? =some p->kget m p.1=some p.2:=by
   intro m
   induction m with
   | nil=>grind
   | cons q r ih=>
    intro i u hi;simp only[List.map_cons,List.nodup_cons]at u;cases i with
    | zero=>simp at hi;subst hi;simp[kget]
    | succ i=>
     have d:p.1∈r.map (·.1):=List.mem_map.2 ⟨_,List.mem_of_getElem? (by simpa using hi),rfl⟩;have v:q.1≠p.1:=λe=>u.1 (e▸d);simp[kget,v,ih i u.2 (by grind)]
  rw[this m i h.nodup hm,a.2]
def LL.TM{es:Array MapEntry}{c:Nat}{m:List (Kd×Value)}(h:LL es c m){n:Kd}{v:Value}(d:kget m n=some v):
  ∃e∈es.toList,e.key= .agg ⟨NR n⟩/\e.val=v:=by
 obtain⟨res,h1,J⟩:=h.find n;rcases J with ⟨_,a⟩|⟨j,u,rfl,a,O,T⟩
 .grind
 .rw[a]at d;cases d;have K:=congrArg (λl=>l[j]?) h.keys
  grind
def nE{a b:Kd}(h:Value.agg ⟨NR a⟩=Value.agg ⟨NR b⟩):a=b:=by
 obtain⟨a1,a2,d,e⟩:=a;obtain⟨b1,b2,b3,m⟩:=b;simp only[NR,Value.agg.injEq,Array.mk.injEq,List.cons.injEq,Value.int.injEq,Value.bool.injEq,true_and,and_true]at h
 grind
def MapK(b:Nat)(g:Kd->Option Value):Pr where
 holds D w:=(∀i,D i↔i=b)/\ ∃es c m,w.heap[b]? =some (.map es c)/\LL es c m/\ ∀i,kget m i=g i
 loc h he hS:=⟨h.1,let⟨es,c,m,h1,h2⟩:=h.2;⟨es,c,m,he.obj h1 (hS _ ((h.1 _).2 rfl)),h2⟩⟩
 lt h hk:=by have:=(h.1 _).1 hk;grind
section
variable{F:List Pr}{w w':World}{b:Nat}{g:Kd->Option Value}
def fI(H:Sat F w){K:Nat->World->Prop}(a: ∀b w',Sat (MapK b (λ_=>none)::F) w'->Ext AN w w'->K b w'):AL (.map #[] 0) w K:=
 A8 λw' d m he=>a _ _ (H.new (P:=MapK w.heap.size λ_=>none) (D:=λk=>k=w.heap.size) he ⟨λ_=>Iff.rfl,_,_,[],d,LL.empty,λ_=>rfl⟩ λk e=>by omega) he
def Sat.UB(H:Sat (MapK b g::F) w): ∃es c m,w.heap[b]? =some (.map es c)/\LL es c m/\ ∀i,kget m i=g i:=let⟨_,h⟩:=H.head;h.2
def Ww(H:Sat (MapK b g::F) w){n:Kd}{z:Value}{K:Value->Bool->Array MapEntry->Prop}(e: ∀es,(∃c,w.heap[b]? =some (.map es c))->K ((g n).getD z) (g n).isSome es):LKA (NR n) (some b) w z K:=by
 obtain⟨es,c,m,h1,a,d⟩:=H.UB;refine jM h1 a ?_;rw[d];exact e es ⟨c,h1⟩
def Sat.nF(H:Sat (MapK b g::F) w){a:Array MapEntry}{d:Nat}{e:List (Kd×Value)}{m:Kd->Option Value}(he:Ext (KD b) w w')(h1:w'.heap[b]? =some (.map a d))(u:LL a d e)(v: ∀i,kget e i=m i):
  Sat (MapK b m::F) w':=by
 obtain⟨D,h,K⟩:=H.step;exact K w' D _ (he.mono λi _ hi=>(h.1 i).2 hi) ⟨h.1,a,d,e,h1,u,v⟩ λk J=>.inl J
def Wx(H:Sat (MapK b g::F) w){n:Kd}{v:Value}{K:World->Prop}(u: ∀w',Sat (MapK b (λi=>if i=n then some v else g i)::F) w'->K w'):aK (NR n) v (some b) w K:=by
 obtain⟨es,c,m,h1,d,e⟩:=H.UB;refine aV h1 d λw' a J O g1 g2 g3 _ _ _ he _=>u w' (H.nF he g1 g2 λi=> ?_);rw[g3,e]
end
def fJ{F:List Pr}{w:World}{b:Nat}{k:IntKind}{g:Int->Option Value}(H:Sat (CH b k g::F) w){n:Int}{z v:Value}{K:World->Prop}(hK: ∀w',Sat (CH b k (λi=>if i=n then some v else g i)::F) w'->K w'):
  sZ k n z (some b) w λ_ s w1=>tA s v (some b) w1 K:=by
 obtain⟨es,c,m,h1,d,h3⟩:=H.Qd;obtain⟨res,f1,f2⟩:=d.find n;obtain⟨J,Y,m',p1,p2,p3,_⟩:=d.put n v f1;have a:=Fp h1;have fin: ∀w',Ext (KD b) w w'->w'.heap[b]? =some (.map J Y)->K w':=λw' he O=>hK w' (H.mapStep he O p2 λi=>by rw[p3,h3]);refine⟨b,es,c,res,rfl,h1,f1,?_⟩;rcases f2 with ⟨rfl,_⟩|⟨j,u,rfl,_,_,T⟩
 .simp only[mapPut,Obj.map.injEq]at p1;obtain⟨rfl,rfl⟩:=p1;refine⟨b,_,_,es.size,rfl,by simp[World.GX,a];exact⟨rfl,rfl⟩,?_,?_⟩
  .rw[Array.findIdx?_push];have:es.findIdx? (λe=>(e.born:Int)==(c:Int))=none:=by
    rw[Array.findIdx?_eq_none_iff];intro e he;have:=d.lt e (by simpa using he);simp;omega
   simp[this]
  .refine fin _ ((Ext.GX w b _).trans' (Ext.GX _ b _)) ?_;have e:(es.push {key:=Value.int k n,val:=z,born:=c}).modify es.size (λe=>{key:=e.key,val:=v,born:=e.born})=es.push {key:=Value.int k n,val:=v,born:=c}:=by grind
   simp[World.GX,a,e]
 .simp only[mapPut,Obj.map.injEq]at p1;obtain⟨rfl,rfl⟩:=p1;refine⟨es[j],Array.getElem?_eq_getElem T,b,_,_,j,rfl,by simp[World.GX,a];exact⟨rfl,rfl⟩,?_,?_⟩
  .rw[Array.findIdx?_eq_some_iff_getElem];refine⟨by simpa using T,by grind,λi hi=> ?_⟩;have O:=d.born;simp only[Array.getElem_modify];have aC:es[i].born≠es[j].born:=λe=>by
    have:=List.pairwise_iff_getElem.1 O i j (by simp;omega) (by simpa using T) hi
    grind
   grind
  .refine fin _ ((Ext.GX w b _).trans' (Ext.GX _ b _)) ?_;have e:(es.modify j λe=>{key:=Value.int k n,val:=e.val,born:=e.born}).modify j (λe=>{key:=e.key,val:=v,born:=e.born})=es.modify j λe=>{key:=Value.int k n,val:=v,born:=e.born}:=by grind
   simp[World.GX,a,e]
structure RgA(es:Array MapEntry)(c:Nat)(seen:Array Nat)(last:Nat)(m:List (Kd×Value))(cur:Option Kd)(done:List Kd):Prop where
 ok:LL es c m
 lst:seen.isEmpty=true∨last=c
 nd:done.Nodup
 sub: ∀n∈done,kget m n≠none
 met: ∀e∈es.toList,seen.contains e.born=true↔ ∃n∈done,e.key= .agg ⟨NR n⟩
 cur: ∀n,cur=some n->last=c/\ ∃e,e∈es.toList/\seen.back?=some e.born/\e.key= .agg ⟨NR n⟩/\kget m n=some e.val
def LL.key_inj{es:Array MapEntry}{c:Nat}{m:List (Kd×Value)}(h:LL es c m){x y:MapEntry}(u:x∈es.toList)(v:y∈es.toList)(he:x.key=y.key):x=y:=by
 have h1:(es.toList.map (·.key)).Nodup:=by
  have e:es.toList.map (·.key)=m.map λp=>Value.agg ⟨NR p.1⟩:=by
   have:=congrArg (List.map Prod.fst) h.keys;simpa[List.map_map,Function.comp_def]using this
  rw[e,show(m.map λp=>Value.agg ⟨NR p.1⟩)=(m.map (·.1)).map (λn=>Value.agg ⟨NR n⟩) by simp];refine List.Pairwise.map _ (λa b d=> ?_) h.nodup;intro e;exact d (nE e)
 exact KF h1 u v he
def LL.Rm{es:Array MapEntry}{c:Nat}{m:List (Kd×Value)}(h:LL es c m){e:MapEntry}(he:e∈es.toList):es.find? (λx:MapEntry=>x.born==e.born)=some e:=by
 rw[<-Array.find?_toList];have: ∀l:List MapEntry,(l.map (·.born)).Nodup->e∈l->l.find? (λx:MapEntry=>x.born==e.born)=some e:=by
  intro l
  induction l with
  | nil=>grind
  | cons x r ih=>grind
 exact this es.toList h.born he
def O6(r mb:Nat)(g:Kd->Option Value)(cur:Option Kd)(done:List Kd)(N:Nat):Pr where
 holds D w:=(∀i,D i↔i=r∨i=mb)/\r≠mb/\ ∃es c seen last m,w.heap[r]? =some (.mapIter (some mb) c seen last)/\w.heap[mb]? =some (.map es c)/\
  RgA es c seen last m cur done/\(∀i,kget m i=g i)/\Ij es seen=N
 loc h he hS:=⟨h.1,h.2.1,let⟨es,c,seen,last,m,h1,a,d⟩:=h.2.2;⟨es,c,seen,last,m,he.obj h1 (hS _ ((h.1 _).2 (.inl rfl))),he.obj a (hS _ ((h.1 _).2 (.inr rfl))),d⟩⟩
 lt h e:=by
  obtain⟨es,c,seen,last,m,h1,a,d⟩:=h.2.2;rcases(h.1 _).1 e with rfl|rfl
  .exact Fp h1
  .exact Fp a
def Ms(r mb:Nat)(w:World):Nat:=match w.heap[r]?,w.heap[mb]? with
 | some (.mapIter _ _ seen _),some (.map es _)=>Ij es seen
 | _,_=>0
section
variable{F:List Pr}{w w':World}{r mb:Nat}{g:Kd->Option Value}{cur:Option Kd}{done:List Kd}{N:Nat}
def Sat.MX(H:Sat (O6 r mb g cur done N::F) w):Ms r mb w=N:=by
 obtain⟨_,h⟩:=H.head;obtain⟨es,c,seen,last,m,h1,a,e,u,d⟩:=h.2.2;simp only[Ms,h1,a];exact d
def Sat.Yd(H:Sat (O6 r mb g cur done N::F) w):done.Nodup/\ ∀n∈done,g n≠none:=by
 obtain⟨_,h⟩:=H.head;obtain⟨es,c,seen,last,m,h1,u,a,d,v⟩:=h.2.2;exact⟨a.nd,λn e=>by rw[<-d];exact a.sub n e⟩
def Sat.fK(H:Sat (O6 r mb g cur done N::F) w):Sat (MapK mb g::F) w:=by
 obtain⟨D,h,u⟩:=H.step;obtain⟨es,c,seen,last,m,h1,a,d,e,v⟩:=h.2.2;exact u w (λi=>i=mb) _ (Ext.refl _ _) ⟨λ_=>Iff.rfl,es,c,m,a,d.ok,e⟩ λi hi=>.inl ((h.1 i).2 (.inr hi))
def Wy(H:Sat (MapK mb g::F) w){K:Nat->World->Prop}(J: ∀r N w',Sat (O6 r mb g none [] N::F) w'->K r w'): ∃cl,PG w (some mb) cl/\AL (Kk (some mb) cl) w K:=by
 obtain⟨es,c,m,h1,u,v⟩:=H.UB;refine⟨c,⟨es,h1⟩,A8 λw' O Y he=> ?_⟩;obtain⟨D,h,d⟩:=H.step;have T:mb<w.heap.size:=Fp h1;refine J _ (Ij es #[]) w' (d w' (λi=>i=w.heap.size∨i=mb) _ (he.mono λ_ _ f=>f.elim) ⟨λ_=>Iff.rfl,by omega,es,c,#[],c,m,O,he.obj h1 λf=>f,⟨u,.inl rfl,List.nodup_nil,(λn a=>by cases a),(λe _=>by simp),(λn a=>by cases a)⟩,v,rfl⟩ ?_);rintro i (rfl|rfl)
 .exact .inr (Nat.le_refl _)
 .exact .inl ((h.1 _).2 rfl)
def Ro(H:Sat (O6 r mb g cur done N::F) w){Kn:World->Prop}{Ks:Value->Value->World->Prop}(h0: ∀w',Sat (O6 r mb g cur done N::F) w'->(∀n,n∈done↔g n≠none)->Kn w')
  (h1: ∀n v w' N',g n=some v->n∉done->N'<N->Sat (O6 r mb g (some n) (done++[n]) N'::F) w'->Ks (.agg ⟨NR n⟩) v w'):Th r w Kn Ks:=by
 have HN: ∀w',(w'=w∨w'=w.drew)->Sat (O6 r mb g cur done N::F) w':=λw' h=>by rcases h with rfl|rfl;exact H;exact H.drew
 obtain⟨D,h,_⟩:=H.step;obtain⟨es,c,seen,last,m,g1,g2,g3,g4,g5⟩:=h.2.2;refine⟨some mb,c,seen,last,g1,es,c,g2,?_,?_,?_⟩
 .rcases g3.lst with hl|rfl
  .simp[hl]
  .by_cases he:es.isEmpty=true
   .simp[he]
   .have:es.all (λx=>decide (x.born≥last))=false:=by
     have aQ:0<es.size:=Nat.pos_of_ne_zero λe=>he (by grind);have hm:es[0]∈es.toList:=by simp
     have:=g3.ok.lt _ hm
     grind
    simp[this]
 .intro w' J Y;refine h0 w' (HN w' J) λn=>⟨λhn=>by rw[<-g4];exact g3.sub n hn,λhn=> ?_⟩;have hf:(leftOf es seen).filter (λx=>decide (x.born<c))=leftOf es seen:=by
   apply Array.filter_eq_self.2;intro e he;exact decide_eq_true (g3.ok.lt e (HL.1 he).1)
  rw[hf]at Y;rw[<-g4]at hn;cases hg:kget m n with
  | none=>grind
  | some v=>
   obtain⟨e,he,hk,hv⟩:=g3.ok.TM hg;have O:seen.contains e.born=true:=by
    cases hsc:seen.contains e.born with
    | true=>rfl
    | false=>
     have:e∈leftOf es seen:=HL.2 ⟨he,hsc⟩
     grind
   obtain⟨n',d,u⟩:=(g3.met e he).1 O;rw[hk]at u;rw[nE u];exact d
 .intro w' e J he;obtain⟨q1,q2⟩:=HL.1 he;obtain⟨n,K,aH⟩:=g3.ok.QZ q1;rw[K];have aJ:n∉done:=λhn=>by
   have:=(g3.met e q1).2 ⟨n,hn,K⟩
   grind
  have T:Ij es (seen.push e.born)<Ij es seen:=by
   unfold Ij;refine filter_lt (λx _ hx=> ?_) ⟨e,q1,by grind,by simp⟩
   grind
  refine h1 n e.val _ (Ij es (seen.push e.born)) (by rw[<-g4];exact aH) aJ (by rw[<-g5];exact T) ?_;obtain⟨D',h',aK⟩:=(HN w' J).step;have aB:Ext AN w w':=by rcases J with rfl|rfl;exact Ext.refl _ _;exact Ext.drew _ _
  have aG:=aB.obj g2 λf=>f;have aI:r<w'.heap.size:=by have:=Fp g1;have:=aB.size;omega
  refine aK _ D' _ ((Ext.GX w' r _).mono λi _ hi=>(h'.1 i).2 (.inl hi)) ⟨h'.1,h'.2.1,es,c,seen.push e.born,c,m,?_,?_,⟨g3.ok,.inr rfl,?_,?_,?_,?_⟩,g4,rfl⟩ λi hi=>.inl hi
  .simp[World.GX,aI]
  .exact(Ext.GX w' r _).obj aG λe:mb=r=>h'.2.1 e.symm
  .rw[List.nodup_append];exact⟨g3.nd,by simp,λa ha b hb=>by simp at hb;subst hb;rintro rfl;grind⟩
  .intro n' d;rcases List.mem_append.1 d with h|h
   .exact g3.sub n' h
   grind
  .intro x hx;constructor
   .intro O;simp at O;rcases O with O|O
    .obtain⟨n',d,u⟩:=(g3.met x hx).1 (by grind)
     grind
    .have:x=e:=KF g3.ok.born hx q1 O
     grind
   .rintro⟨n',d,u⟩;rcases List.mem_append.1 d with h|h
    .have:=(g3.met x hx).2 ⟨n',h,u⟩
     grind
    .simp at h;subst h;have:x=e:=g3.ok.key_inj hx q1 (by grind)
     grind
  grind
def UC{n:Kd}(H:Sat (O6 r mb g (some n) done N::F) w){K:Value->Value->HI->Prop}(d: ∀v S,g n=some v->K (.agg ⟨NR n⟩) v S):mE r w K:=by
 obtain⟨_,h⟩:=H.head;obtain⟨es,c,seen,last,m,g1,g2,g3,g4,g5⟩:=h.2.2;obtain⟨rfl,e,he,a,u,J⟩:=g3.cur n rfl;refine⟨mb,last,last,seen,es,last,e.born,e,⟨g1,g2⟩,a,rfl,g3.ok.Rm he,?_⟩
 grind
end
end Go.Sh

/- What a law's arguments are, read once for all. No further condition. -/
import Derived.Test.YtgcgcligdjnmaaaGreatDoorM
import Derived.WalkKit
import Derived.ProofKit
import Derived.OpenShut
import Derived.ChangeOld
import Derived.Below
import Derived.Carry
import Derived.DataReads
import Derived.Test.YtgcgcligdjnmaaaGreatDoorSh
import Derived.Lib.TrailingZeros
set_option linter.all false
set_option maxRecDepth 50000
set_option maxHeartbeats 1000000
namespace Go.Sh
open Go.ChangeShapes Go.WideShapes Go.ChangeAt Go.RowKit
inductive AT where
 | int (k:IntKind)|bool|sl (e:AT)|nil|cons (f r:AT)
def AT.size:AT->Nat
 | .int _=>1| .bool=>1| .sl _=>1| .nil=>0| .cons f r=>f.size+r.size
def U7(w:World):AT->List Value->Prop
 | .int k,cs=> ∃n,cs=[.int k n]/\(Lit.int k n).wf=true
 | .bool,cs=> ∃b,cs=[.bool b]
 | .sl e,cs=> ∃s:Aa,cs=[.slice s.base s.len s.cap]/\s.len<=s.cap/\s.cap<=maxLen/\
   ∀j,j<s.len-> ∃x l,s.base=some x/\l.length=e.size/\(∀i v,l[i]? =some v->w.cell? (x.add (j*e.size+i))=some v)/\U7 w e l
 | .nil,cs=>cs=[]
 | .cons f r,cs=> ∃a b,cs=a++b/\U7 w f a/\U7 w r b
def shapeF(P:Program)(sh:TypeId->Option AT):List Field->Nat->Option AT
 | [],_=>some .nil
 | f::r,off=>match Nat.beq f.offset off with
  | true=>match sh f.type with
   | some a=>match Nat.beq a.size (P.cellsOf f.type)with
    | true=>match shapeF P sh r (off+a.size)with
     | some b=>some (.cons a b)
     | none=>none
    | false=>none
   | none=>none
  | false=>none
def shapeP(P:Program):Nat->TypeId->Option AT
 | 0,_=>none
 | n+1,t=>match P.underlying t with
  | some .bool=>some .bool
  | some (.int k)=>some (.int k)
  | some (.slice e)=>match shapeP P n e with
   | some a=>match Nat.beq a.size (P.cellsOf e)with
    | true=>some (.sl a)
    | false=>none
   | none=>none
  | some (.struct fs)=>match shapeF P (shapeP P n) fs.toList 0 with
   | some a=>match Nat.beq a.size (P.cellsOf t)with
    | true=>some a
    | false=>none
   | none=>none
  | _=>none
section
variable{H:Type}{enc:TypeId×Value->H}{P:Program}{w:World}{base:Nat}{sp:Nat->Bool}{held:Bool}
def Vj{w:World}{base:Nat}{a:Addr}{n:Nat}{l:List Value}(h:w.cells? base a n=some l):l.length=n/\ ∀i v,l[i]? =some v->w.cell? (a.add i)=some v:=by
 unfold World.cells? at h;split at h
 .have key: ∀(m:Nat) (k:Nat) (l:List Value),((List.range' k m).mapM λi=>w.cell? (a.add i))=some l->l.length=m/\ ∀i v,l[i]? =some v->w.cell? (a.add (k+i))=some v:=by
   intro m
   induction m with
   | zero=>grind
   | succ m ih=>
    intro k l h;rw[List.range'_succ,List.mapM_cons]at h;cases hx:w.cell? (a.add k)with
    | none=>grind
    | some y=>
     cases hl:(List.range' (k+1) m).mapM λi=>w.cell? (a.add i)with
     | none=>grind
     | some ys=>grind
  rw[List.range_eq_range']at h
  grind
 .cases h
def Pp{sh:TypeId->Option AT}{tr:TypeId->List Value->Prop}(v: ∀t a cs,sh t=some a->tr t cs->U7 w a cs):
  ∀(y:List Field) (off:Nat) (a:AT) (cs:List Value),shapeF P sh y off=some a->cs.length=off+a.size->(∀f∈y,tr f.type ((cs.drop f.offset).take (P.cellsOf f.type)))->U7 w a (cs.drop off)
 | [],off,a,cs,h,hl,_=>by
  simp only[shapeF,Option.some.injEq]at h;subst h;show cs.drop off=[];rw[List.drop_eq_nil_iff];simp[AT.size]at hl;omega
 | f::r,off,a,cs,h,hl,ht=>by
  unfold shapeF at h;split at h
  .rename_i d;have d:=Nat.eq_of_beq_eq_true d;split at h
   .rename_i a1 ha1;split at h
    .rename_i j;have j:=Nat.eq_of_beq_eq_true j;split at h
     .rename_i b hb;cases h;have h1:=v _ _ _ ha1 (ht f (by simp));have h2:=Pp v r (off+a1.size) b cs hb (by simp[AT.size]at hl;omega) (λg J=>ht g (by simp[J]));refine⟨_,_,?_,h1,h2⟩;rw[d,<-j,<-List.drop_drop];exact(List.take_append_drop _ _).symm
     .cases h
    .cases h
   .cases h
  .cases h
def MT: ∀(n:Nat) (t:TypeId) (a:AT) (cs:List Value),shapeP P n t=some a->(∃m x,DataW.trod enc P w base sp held m t cs=some x)->U7 w a cs
 | 0,_,_,_,h,_=>by simp[shapeP]at h
 | n+1,t,a,cs,h,⟨m,x,K⟩=>by
  unfold shapeP at h;split at h
  .rename_i hu;cases h;obtain⟨b,O,_⟩:=DataW.trod_bool hu K;exact⟨b,O⟩
  .rename_i k hu;cases h;obtain⟨z,O,_,hw⟩:=DataW.trod_int hu K;exact⟨z,O,hw⟩
  .rename_i e hu;split at h
   .rename_i a1 ha1;split at h
    .rename_i d;have d:=Nat.eq_of_beq_eq_true d;cases h;rcases DataW.trod_slice hu K with ⟨h1,_⟩|⟨p,len,cap,elems,rest,m',_,Y,_,_,aB,T,aD,y,_⟩
     .exact⟨⟨none,0,0⟩,h1,Nat.le_refl _,Nat.zero_le _,λj J=>by cases J⟩
     .refine⟨⟨some p,len,cap⟩,Y,aB,T,λj J=> ?_⟩;have J:j<len:=J;have hy:=y j J;rw[List.getElem?_eq_getElem (by omega)]at hy;cases hl:w.cells? base (p.add (j*P.cellsOf e)) (P.cellsOf e)with
      | none=>grind
      | some l=>
       rw[hl]at hy;obtain⟨g1,g2⟩:=Vj hl;refine⟨p,l,rfl,by omega,λi v hv=> ?_,MT n e a1 l ha1 ⟨m',_,hy⟩⟩;have:=g2 i v hv;rw[d,<-add_add];exact this
    .cases h
   .cases h
  .rename_i fs hu;split at h
   .rename_i a1 ha1;split at h
    .rename_i d;have d:=Nat.eq_of_beq_eq_true d;cases h;obtain⟨xs,m',_,_,hlen,aF,hf⟩:=DataW.trod_struct hu K;have:=Pp (P:=P) (sh:=shapeP P n) (tr:=λt cs=> ∃m x,DataW.trod enc P w base sp held m t cs=some x)
      (λt a cs h1 h2=>MT n t a cs h1 h2) fs.toList 0 a cs ha1 (by omega) (λf aA=>by
       obtain⟨i,hi⟩:=List.mem_iff_getElem?.1 aA
       grind)
     grind
    .cases h
   .cases h
  .cases h
def wD(w:World):AT->Value->Prop
 | .int k,v=> ∃n,v= .int k n/\(Lit.int k n).wf=true
 | .bool,v=> ∃b,v= .bool b
 | .sl e,v=> ∃s:Aa,v= .slice s.base s.len s.cap/\U7 w (.sl e) [.slice s.base s.len s.cap]
 | a,v=> ∃l,v= .agg ⟨l⟩/\U7 w a l
def mQ(w:World):List AT->List Value->Prop
 | [],vs=>vs=[]
 | a::r,vs=> ∃v s,vs=v::s/\wD w a v/\mQ w r s
def shapesP(P:Program):List TypeId->Option (List AT)
 | []=>some []
 | t::r=>match shapeP P 9 t with
  | some a=>match shapesP P r with
   | some l=>some (a::l)
   | none=>none
  | none=>none
def YE{sh:TypeId->Option AT}: ∀{d:List Field} {off:Nat} {a:AT},shapeF P sh d off=some a->a= .nil∨ ∃f r,a= .cons f r
 | [],_,_,h=>by simp[shapeF]at h;grind
 | f::r,off,a,h=>by
  unfold shapeF at h
  grind
def wE{r:Reach}{b0:Nat}{n:Nat}{t:TypeId}{a:AT}{v:Value}{d:DataW H}{K:List MemPlace}(hs:shapeP P n t=some a)(j:Value.okWide P w r b0 t v)
  (hd:DataW.Trod enc P w base sp held t v d K):wD w a v:=by
 obtain⟨m,hm⟩:=hd;have hS:=MT n t a v.cells.toList hs ⟨m,_,hm⟩;cases n with
 | zero=>simp[shapeP]at hs
 | succ n=>
 unfold shapeP at hs;split at hs
 .rename_i hu;cases hs;obtain⟨b,rfl⟩:=okWide_bool hu j;exact⟨b,rfl⟩
 .rename_i k hu;cases hs;obtain⟨z,rfl⟩:=okWide_int hu j;obtain⟨O,h1,h2⟩:=hS;simp[Value.cells]at h1;subst h1;exact⟨z,rfl,h2⟩
 .rename_i e hu;obtain⟨x,l,c,rfl⟩:=okWide_slice hu j;split at hs
  .split at hs
   .cases hs;exact⟨⟨x,l,c⟩,rfl,hS⟩
   .cases hs
  .cases hs
 .rename_i fs hu;obtain⟨cs,rfl,J⟩:=okWide_struct hu j;split at hs
  .rename_i a1 y;split at hs
   .cases hs;have:U7 w a cs.toList:=hS;rcases YE y with rfl|⟨f,r,rfl⟩
    .exact⟨cs.toList,rfl,this⟩
    .exact⟨cs.toList,rfl,this⟩
   .cases hs
  .cases hs
 .cases hs
def fC{r:Reach}{b0:Nat}: ∀{J:List TypeId} {shs:List AT} {vs:List Value} {y:List (DataW H)} {p:List MemPlace},shapesP P J=some shs->
  (∀(j:Nat) t v,J[j]? =some t->vs[j]? =some v->Value.okWide P w r b0 t v)->DataW.TrodAll enc P w base sp held J vs y p->mQ w shs vs
 | [],shs,vs,y,p,hs,_,h=>by
  simp[shapesP]at hs;subst hs;cases vs with
  | nil=>rfl
  | cons v vs=>cases y<;>simp[DataW.TrodAll]at h
 | t::J,shs,vs,y,p,hs,hval,h=>by
  unfold shapesP at hs;split at hs
  .rename_i a ha;split at hs
   .rename_i l hl;cases hs;cases vs with
    | nil=>cases y<;>simp[DataW.TrodAll]at h
    | cons v vs=>
     cases y with
     | nil=>simp[DataW.TrodAll]at h
     | cons d y=>
      obtain⟨Y,q1,h1,h2,_⟩:=h;exact⟨v,vs,rfl,wE ha (hval 0 t v rfl rfl) h1,fC hl (λj t' K O T=>hval (j+1) t' K (by grind) (by grind)) h2⟩
   .cases hs
  .cases hs
def Nd(P:Program):List TypeId->Bool
 | []=>true
 | t::r=>match P.readableRec t with
  | true=>match Nat.ble (t+1) P.types.size with
   | true=>Nd P r
   | false=>false
  | false=>false
def Og(K:laidOutB P=true){W W':World}(J:Below W.heap.size W W'): ∀{y:List TypeId} {vs:List Value} {j:List (DataW H)} {p:List MemPlace},Nd P y=true->
  DataW.TrodAll enc P W 0 (λ_=>true) true y vs j p->DataW.TrodAll enc P W' 0 (λb=>decide (b<W.heap.size)) true y vs j p
 | [],vs,j,p,_,h=>by
  cases vs<;>cases j<;>simp[DataW.TrodAll]at h⊢ <;>exact h
 | t::y,vs,j,p,hr,h=>by
  unfold Nd at hr;split at hr
  .rename_i h1;split at hr
   .rename_i h2;have h2:=Nat.le_of_ble_eq_true h2;cases vs with
    | nil=>cases j<;>simp[DataW.TrodAll]at h
    | cons v vs=>
     cases j with
     | nil=>simp[DataW.TrodAll]at h
     | cons d j=>
      obtain⟨p1,q1,O,T,Y⟩:=h;exact⟨p1,q1,Below.trod K h1 h2 O J (by obtain⟨m,hm⟩:=O;exact DataW.trod_lt m _ _ _ hm),Og K J hr T,Y⟩
   .cases hr
  .cases hr
def Rf: ∀{y:List TypeId} {vs:List Value} {j:List (DataW H)} {p:List MemPlace},DataW.TrodAll enc P w base sp held y vs j p->j.length=y.length
 | [],vs,j,p,h=>by cases vs<;>cases j<;>simp[DataW.TrodAll]at h⊢
 | t::y,vs,j,p,h=>by
  cases vs with
  | nil=>cases j<;>simp[DataW.TrodAll]at h
  | cons v vs=>
   cases j with
   | nil=>simp[DataW.TrodAll]at h
   | cons d j=>
    obtain⟨T,Y,K,J,O⟩:=h;simp[Rf J]
end
def Pq:AT->Type
 | .int _=>Int| .bool=>Bool| .sl _=>Aa| .nil=>Unit| .cons f r=>Pq f×Pq r
def Pq.lZ:(a:AT)->Pq a
 | .int _=>(0:Int)| .bool=>false| .sl _=>(⟨none,0,0⟩:Aa)| .nil=>()| .cons f r=>(Pq.lZ f,Pq.lZ r)
def MU:(a:AT)->Pq a->List Value
 | .int k,n=>[.int k n]
 | .bool,b=>[.bool b]
 | .sl _,s=>[.slice (Aa.base s) (Aa.len s) (Aa.cap s)]
 | .nil,_=>[]
 | .cons f r,x=>MU f x.1++MU r x.2
def a8(w:World)(e:AT)(ok:Pq e->Prop)(s:Aa)(z:Nat->Pq e):Prop:=s.len<=s.cap/\s.cap<9223372036854775808/\
 ∀j,j<s.len-> ∃x,s.base=some x/\(∀i v,(MU e (z j))[i]? =some v->w.cell? (x.add (j*e.size+i))=some v)/\ok (z j)
def YF(w:World):(a:AT)->Pq a->Prop
 | .int k,n=>(Lit.int k n).wf=true
 | .bool,_=>True
 | .sl e,s=> ∃z,a8 w e (YF w e) s z
 | .nil,_=>True
 | .cons f r,x=>YF w f x.1/\YF w r x.2
abbrev Wc(w:World)(e:AT):Aa->(Nat->Pq e)->Prop:=a8 w e (YF w e)
def L4{w:World}:(a:AT)->(cs:List Value)->U7 w a cs-> ∃x:Pq a,cs=MU a x/\YF w a x
 | .int k,cs,h=>let⟨n,h1,h2⟩:=h;⟨n,h1,h2⟩
 | .bool,cs,h=>let⟨b,h1⟩:=h;⟨b,h1,trivial⟩
 | .sl e,cs,h=>by
  obtain⟨s,h1,h2,T,K⟩:=h;have key: ∀j,∃y:Pq e,j<s.len-> ∃x,s.base=some x/\(∀i v,(MU e y)[i]? =some v->w.cell? (x.add (j*e.size+i))=some v)/\YF w e y:=by
   intro j;by_cases d:j<s.len
   .obtain⟨x,l,g1,g2,g3,g4⟩:=K j d;obtain⟨y,rfl,J⟩:=L4 e l g4;exact⟨y,λ_=>⟨x,g1,g3,J⟩⟩
   .exact⟨Pq.lZ e,λh=>absurd h d⟩
  refine⟨s,h1,λj=>Classical.choose (key j),h2,?_,λj d=>Classical.choose_spec (key j) d⟩;have:maxLen=9223372036854775807:=by decide
  omega
 | .nil,cs,h=>⟨(),h,trivial⟩
 | .cons f r,cs,h=>by
  obtain⟨a,b,rfl,h1,h2⟩:=h;obtain⟨x,rfl,O⟩:=L4 f a h1;obtain⟨y,rfl,J⟩:=L4 r b h2;exact⟨(x,y),rfl,O,J⟩
def elV:(a:AT)->Pq a->Value
 | .int k,n=>.int k n
 | .bool,b=>.bool b
 | .sl _,s=>.slice (Aa.base s) (Aa.len s) (Aa.cap s)
 | .nil,_=>.agg ⟨[]⟩
 | .cons f r,x=>.agg ⟨MU (.cons f r) x⟩
def a9{w:World}{a:AT}{v:Value}(h:wD w a v): ∃x:Pq a,v=elV a x/\YF w a x:=by
 cases a with
 | int k=>exact h
 | bool=>obtain⟨b,h⟩:=h;exact⟨b,h,trivial⟩
 | sl e=>
  obtain⟨s,rfl,h⟩:=h;obtain⟨s',h1,h2⟩:=L4 _ _ h;have d:[Value.slice s.base s.len s.cap]=[Value.slice (Aa.base s') (Aa.len s') (Aa.cap s')]:=h1;simp only[List.cons.injEq,Value.slice.injEq,and_true]at d;obtain⟨y,J,K⟩:=d;refine⟨s',?_,h2⟩;show Value.slice s.base s.len s.cap=Value.slice (Aa.base s') (Aa.len s') (Aa.cap s')
  grind
 | nil=>obtain⟨l,rfl,h⟩:=h;have:l=[]:=h;subst this;exact⟨(),rfl,trivial⟩
 | cons f r=>
  obtain⟨l,rfl,h⟩:=h;obtain⟨x,rfl,j⟩:=L4 _ _ h;exact⟨x,rfl,j⟩
def YG:List AT->Type
 | []=>Unit
 | a::r=>Pq a×YG r
def Su:(l:List AT)->YG l->List Value
 | [],_=>[]
 | a::r,x=>elV a x.1::Su r x.2
def bA(w:World):(l:List AT)->YG l->Prop
 | [],_=>True
 | a::r,x=>YF w a x.1/\bA w r x.2
def Tg{w:World}:{l:List AT}->{vs:List Value}->mQ w l vs-> ∃x:YG l,vs=Su l x/\bA w l x
 | [],vs,h=>⟨(),h,trivial⟩
 | a::r,vs,h=>by
  obtain⟨v,s,rfl,h1,h2⟩:=h;obtain⟨x,rfl,d⟩:=a9 h1;obtain⟨y,rfl,j⟩:=Tg h2;exact⟨(x,y),rfl,d,j⟩
def bB{n:Int}(h:(Lit.int .u64 n).wf=true):0<=n/\n<18446744073709551616:=by
 have h1:(decide (IntKind.u64.min<=n)&&decide (n<=IntKind.u64.max))=true:=h;rw[Bool.and_eq_true,decide_eq_true_iff,decide_eq_true_iff]at h1;have d:IntKind.u64.min=0:=by decide
 have j:IntKind.u64.max=18446744073709551615:=by decide
 omega
def a8.mR{w:World}{k:IntKind}{ok:Int->Prop}{s:Aa}{z:Nat->Int}(h:a8 w (.int k) ok s z){j:Nat}(d:j<s.len): ∃x,s.base=some x/\w.cell? (x.add j)=some (.int k (z j))/\ok (z j):=by
 obtain⟨x,h1,h2,v⟩:=h.2.2 j d;have:=h2 0 _ rfl;simp only[AT.size,Nat.mul_one,Nat.add_zero]at this
 grind
end Go.Sh
namespace Go.Sh
def Sat.DR{P0:Pr}{Ps:List Pr}{w:World}{P:Pr}(i:Nat)(H:Sat (P0::Ps) w)(d:Ps[i]? =some P):Sat (P0::P::Ps.eraseIdx i) w:=H.perm ((DX d).cons P0)
def Sat.Th{P0 P':Pr}{Ps:List Pr}{w:World}(i:Nat)(H:Sat (P0::P'::Ps.eraseIdx i) w)(d:i<Ps.length:=by simp):Sat (P0::Ps.set i P') w:=H.perm ((Qv d).cons P0)
def qY:Pr where
 holds D _:= ∀k,¬D k
 loc h _ _:=h
 lt h hk:=(h _ hk).elim
def Sat.emp{F:List Pr}{w:World}(H:Sat F w):Sat (qY::F) w:=H.new (P:=qY) (D:=λ_=>False) (Ext.refl _ _) (λ_ f=>f) λ_ f=>f.elim
def flags(n:Nat)(u:Int->Bool):List Value:=(List.range n).map λi:Nat=>.bool (u i)
def JO{n:Nat}{u:Int->Bool}{i:Nat}(d:i<n):(flags n u)[i]? =some (.bool (u i)):=by simp[flags,d]
def MV{n:Nat}{u:Int->Bool}{i:Int}(h0:0<=i)(d:i<n):(flags n u)[0+i.toNat]? =some (.bool (u i)):=by
 rw[Nat.zero_add,JO (by omega)]
 grind
def OF{n:Nat}{u:Int->Bool}{i:Int}(h0:0<=i)(v:Bool):(flags n u).set (0+i.toNat) (.bool v)=flags n λj=>if j=i then v else u j:=by
 rw[Nat.zero_add];apply List.ext_getElem?;intro j;rw[List.getElem?_set];by_cases hj:j<n
 .rw[JO hj,JO hj];simp only[flags,List.length_map,List.length_range]
  grind
 .simp only[flags,List.length_map,List.length_range]
  grind
def Cd{n:Nat}{u:Int->Bool}:(flags n u).length=n:=by simp[flags]
def YH{v:Value}{n i:Nat}(d:i<n):(JB #[v] n)[i]? =some v:=by
 unfold JB
 grind
def We(n:Nat):JB #[.bool false] n=⟨flags n λ_=>false⟩:=by
 apply Array.ext';apply List.ext_getElem?;intro i;by_cases hi:i<n
 .rw[JO hi];simpa using YH (v:=.bool false) hi
 .rw[List.getElem?_eq_none (by simp[JB];omega),List.getElem?_eq_none (by simp[flags];omega)]
def ints(k:IntKind)(l:List Int):List Value:=l.map λn=>.int k n
def IF{k:IntKind}{l:List Int}{i:Nat}{n:Int}(h:l[i]? =some n):(ints k l)[i]? =some (.int k n):=by simp[ints,h]
def Bn(l:List Bool):List Value:=l.map λb=>.bool b
def L5{l:List Bool}{i:Nat}{n:Bool}(h:l[i]? =some n):(Bn l)[i]? =some (.bool n):=by simp[Bn,h]
def Dm(b:Nat)(k:IntKind)(g:Int->Option Value):Pr where
 holds D w:=(∀i,D i↔i=b)/\ ∃es c m,w.heap[b]? =some (.map es c)/\MapI k es c m/\ ∀i,aget m i=g i
 loc h he hS:=⟨h.1,let⟨es,c,m,h1,h2⟩:=h.2;⟨es,c,m,he.obj h1 (hS _ ((h.1 _).2 rfl)),h2⟩⟩
 lt h hk:=by have:=(h.1 _).1 hk;grind
section
variable{F:List Pr}{w w':World}{b:Nat}{k:IntKind}{g:Int->Option Value}
def Wf(H:Sat F w)(k:IntKind){K:Nat->World->Prop}(d: ∀b w',Sat (Dm b k (λ_=>none)::F) w'->Ext AP w w'->K b w'):AL (.map #[] 0) w K:=
 BS λw' j hs he=>d _ _ (H.new (P:=Dm w.heap.size k λ_=>none) (D:=λk=>k=w.heap.size) he ⟨λ_=>Iff.rfl,_,_,[],j,MapI.empty k,λ_=>rfl⟩ λk hk=>by omega) he
def Sat.Pt(H:Sat (Dm b k g::F) w): ∃es c m,w.heap[b]? =some (.map es c)/\MapI k es c m/\ ∀i,aget m i=g i:=let⟨_,h⟩:=H.head;h.2
def Ti(H:Sat (Dm b k g::F) w){n:Int}{z:Value}{K:Value->Bool->Array MapEntry->Prop}(j: ∀es,w.heap[b]? =some (.map es (es.size))∨True->K ((g n).getD z) (g n).isSome es):mE k n (some b) w z K:=by
 obtain⟨es,c,m,h1,h2,d⟩:=H.Pt;refine L0 h1 h2 ?_;rw[d];exact j es (.inr trivial)
def Sat.mapStep(H:Sat (Dm b k g::F) w){d:Array MapEntry}{j:Nat}{m':List (Int×Value)}{g':Int->Option Value}(he:Ext (KF b) w w')(h1:w'.heap[b]? =some (.map d j))(h2:MapI k d j m')(v: ∀i,aget m' i=g' i):
  Sat (Dm b k g'::F) w':=by
 obtain⟨D,h,hs⟩:=H.step;exact hs w' D _ (he.mono λi _ y=>(h.1 i).2 y) ⟨h.1,d,j,m',h1,h2,v⟩ λk hk=>.inl hk
def fD(H:Sat (Dm b k g::F) w){n:Int}{v:Value}{K:World->Prop}(y: ∀w',Sat (Dm b k (λi=>if i=n then some v else g i)::F) w'->K w'):WQ k n v (some b) w K:=by
 obtain⟨es,c,m,h1,h2,j⟩:=H.Pt;refine Te h1 h2 λw' d J m' g1 g2 g3 _ _ _ he _=>y w' (H.mapStep he g1 g2 λi=> ?_);rw[g3,j]
def Wg(H:Sat (Dm b k g::F) w){n:Int}{K:World->Prop}(v: ∀w',Sat (Dm b k (λi=>if i=n then none else g i)::F) w'->K w'):MDEL k n (some b) w K:=by
 obtain⟨es,c,m,h1,h2,j⟩:=H.Pt;refine O7 h1 h2 λw' d m' g1 g2 g3 _ _ _ he _=>v w' (H.mapStep he g1 g2 λi=> ?_);rw[g3,j]
end
def KI(s:Aa)(vs:List Value):Pr where
 holds D w:=(∀k,D k↔Po s k)/\s.len<=s.cap/\vs.length=s.len/\s.cap<9223372036854775808/\(∀a,s.base=some a->a.block<w.heap.size)/\rowAt w s.base s.len vs
 loc h he hS:=⟨h.1,h.2.1,h.2.2.1,h.2.2.2.1,λa d=>by have:=h.2.2.2.2.1 a d;have:=he.size;omega,Vh h.2.2.2.2.2 he λa d _=>hS _ ((h.1 _).2 ⟨a,d,rfl⟩)⟩
 lt h hk:=by obtain⟨a,d,rfl⟩:=(h.1 _).1 hk;grind
section
variable{F:List Pr}{w w':World}{t:Nat}{s:Aa}{vs:List Value}
def Sat.rO(H:Sat (Row t 1 s vs::F) w):Sat (KI s vs::F) w:=by
 obtain⟨D,h,hs⟩:=H.step;have d:=h.2;refine hs w D _ (Ext.refl _ _) ⟨h.1,d.cap,by simpa using d.len,d.top,λa j=>(d.lt j).2.1,by simpa using d.rowAt⟩ λk hk=>.inl hk
def Sat.MW(H:Sat (KI s vs::F) w):vs.length=s.len/\s.len<=s.cap/\s.cap<9223372036854775808:=let⟨_,h⟩:=H.head;⟨h.2.2.1,h.2.1,h.2.2.2.1⟩
def Sat.Nf(H:Sat (KI s vs::F) w){j:Nat}{v:Value}(y:vs[j]? =some v): ∃a,s.base=some a/\w.cell? (a.add j)=some v:=by
 obtain⟨D,h⟩:=H.head;have d:=h.2.2.2.2.2;cases hb:s.base with
 | none=>rw[hb]at d;have:vs=[]:=d;grind
 | some a=>rw[hb]at d;exact⟨a,rfl,d.2 j v y⟩
def fE{b:Option Addr}{c m z:Nat}{k:Nat}:(∃a,F2 b c m z=some a/\k=a.block)↔ ∃a,b=some a/\k=a.block:=by
 unfold F2;split
 .grind
 .cases b with
  | none=>simp
  | some a=>simp[Vg]
def Sat.Ng(H:Sat (KI s vs::F) w){n:Nat}(y:n<=s.len):Sat (KI ⟨F2 s.base s.cap n 1,s.len-n,s.cap-n⟩ (vs.drop n)::F) w:=by
 obtain⟨D,h,hs⟩:=H.step;refine hs w D _ (Ext.refl _ _) ⟨λk=> ?_,?_,?_,?_,?_,?_⟩ λk hk=>.inl hk
 .rw[h.1];exact fE.symm
 .simp only;have:=h.2.1;omega
 .simp only[List.length_drop,h.2.2.1]
 .simp only;have:=h.2.2.2.1;omega
 .intro a v;obtain⟨j,d,e⟩:=(fE (k:=a.block)).1 ⟨a,v,rfl⟩;rw[e];exact h.2.2.2.2.1 j d
 .have:=JC (z:=1) h.2.2.2.2.2 (by simp) y h.2.1 h.2.2.1
  grind
def Sat.rQ{F:List Pr}{w:World}(H:Sat F w):Sat (KI ⟨none,0,0⟩ []::F) w:=
 H.new (P:=KI ⟨none,0,0⟩ []) (D:=Po ⟨none,0,0⟩) (Ext.refl _ _) ⟨λ_=>Iff.rfl,Nat.le_refl _,rfl,by decide,λ_ h=>(by cases h),rfl⟩ λk hk=>by obtain⟨a,d,_⟩:=hk;cases d
end
abbrev Pgs:=Int->Option (Nat×(Int->Int))
def bC(n:Nat)(G:Pgs):Pr where
 holds D w:=(∀k,D k↔ ∃p x,G p=some x/\k=x.1)/\(∀p q x y,G p=some x->G q=some y->x.1=y.1->p=q)/\
  ∀p x,G p=some x->x.1<w.heap.size/\ ∀j:Nat,j<n->w.cell? ⟨x.1,j,none⟩=some (.int .u64 (x.2 j))/\w.frozen? ⟨x.1,j,none⟩=false
 loc h he hS:=⟨h.1,h.2.1,λp x hp=>⟨by have:=(h.2.2 p x hp).1;have:=he.size;omega,λj d=>⟨he.cell ((h.2.2 p x hp).2 j d).1 (hS _ ((h.1 _).2 ⟨p,x,hp,rfl⟩)),by
  rw[he.frozen (p:=⟨x.1,j,none⟩) (h.2.2 p x hp).1 (hS _ ((h.1 _).2 ⟨p,x,hp,rfl⟩))];grind⟩⟩⟩
 lt h hk:=by obtain⟨p,x,hp,rfl⟩:=(h.1 _).1 hk;grind
section
variable{F:List Pr}{w w':World}{n:Nat}{G:Pgs}
def Sat.zO(H:Sat F w)(n:Nat):Sat (bC n (λ_=>none)::F) w:=
 H.new (P:=bC n λ_=>none) (D:=λ_=>False) (Ext.refl _ _) ⟨λk=>⟨λf=>f.elim,λ⟨_,_,h,_⟩=>(by cases h)⟩,λ_ _ _ _ h=>(by cases h),λ_ _ h=>(by cases h)⟩ λ_ f=>f.elim
end
def I3{σ:Type}{first:(σ->World->Prop)->Prop}{rest:σ->(Nat->Value)->World->Prop}(J:σ->World->Prop)(h1:first J)(h2: ∀s j w,J s w->rest s j w):Af σ first rest:=⟨J,h1,h2⟩
def Ad{α:Type}(R:α->Pr)(L:List α):Pr:=NB (L.map R)
section
variable{α:Type}{R R':α->Pr}{L L':List α}{F:List Pr}{w:World}
def Sat.many:Sat (Ad R L::F) w↔Sat (L.map R++F) w:=Sat.star
def Sat.Je(H:Sat (Ad R L::F) w)(h:L.Perm L'):Sat (Ad R L'::F) w:=
 Sat.many.2 ((Sat.many.1 H).perm ((h.map R).append_right F))
def Sat.Jf{x:α}:Sat (Ad R (x::L)::F) w↔Sat (R x::Ad R L::F) w:=by
 constructor
 .intro H;have h1:Sat (R x::(L.map R++F)) w:=Sat.many.1 H;have h2:Sat (L.map R++(R x::F)) w:=h1.perm List.perm_middle.symm;exact(Sat.many.2 h2).perm (.swap _ _ _)
 .intro H;have h2:Sat (L.map R++(R x::F)) w:=Sat.many.1 (H.perm (.swap _ _ _));exact Sat.many.2 (h2.perm List.perm_middle)
def Sat.GG(H:Sat (Ad R L::F) w){i:Nat}{x:α}(d:L[i]? =some x):Sat (R x::Ad R (L.eraseIdx i)::F) w:=
 Sat.Jf.1 (H.Je (DX d))
def Sat.HW{i:Nat}{x:α}(H:Sat (R x::Ad R (L.eraseIdx i)::F) w)(d:L[i]? =some x):Sat (Ad R L::F) w:=
 (Sat.Jf.2 H).Je (DX d).symm
def Sat.Tj{x:α}(H:Sat (R x::Ad R L::F) w):Sat (Ad R (L++[x])::F) w:=
 (Sat.Jf.2 H).Je (List.perm_append_singleton x L).symm
def Sat.LY(H:Sat F w)(R:α->Pr):Sat (Ad R []::F) w:=Sat.many.2 H
def Sat.fF:Sat (Ad R (L++L')::F) w↔Sat (Ad R L::Ad R L'::F) w:=by
 rw[Sat.many,Sat.many,List.map_append,List.append_assoc];constructor
 .intro H;have h1:Sat (L'.map R++(L.map R++F)) w:=by
   refine H.perm ?_;rw[<-List.append_assoc,<-List.append_assoc];exact List.perm_append_comm.append_right F
  exact(Sat.many.2 h1).perm List.perm_middle.symm
 .intro H;have h1:Sat (Ad R L'::(L.map R++F)) w:=H.perm List.perm_middle;refine(Sat.many.1 h1).perm ?_;rw[<-List.append_assoc,<-List.append_assoc];exact List.perm_append_comm.append_right F
def Ad.congr(h: ∀x∈L,R x=R' x):Ad R L=Ad R' L:=by
 unfold Ad;rw[List.map_congr_left h]
end
def HI{t n z:Nat}{vs:List Value}{Rs:List Pr}{w:World}(H:Sat Rs w)(y:vs.length=n*z)(v:n<9223372036854775808){K:Nat->World->Prop}
  (d: ∀b w',Sat (Row t z ⟨some ⟨b,0,none⟩,n,n⟩ vs::Rs) w'->K b w'):AL (.cells ⟨vs⟩ t) w K:=
 BS λw' j hs he=>d _ _ (H.new (P:=Row t z ⟨some ⟨w.heap.size,0,none⟩,n,n⟩ vs) (D:=Po ⟨some ⟨w.heap.size,0,none⟩,n,n⟩) he
  ⟨λ_=>Iff.rfl,WX j y (Nat.zero_le _) v⟩ λk hk=>by obtain⟨x,J,rfl⟩:=hk;grind)
def JP{n:Nat}{u v:Int->Bool}(h: ∀k,0<=k->k<(n:Int)->u k=v k):flags n u=flags n v:=by
 unfold flags;refine List.map_congr_left λk hk=> ?_
 grind
def wN(u:Nat->Bool):Nat->Nat
 | 0=>0
 | n+1=>wN u n|||(if u n then 2^n else 0)
def D6(u:Nat->Bool): ∀(n i:Nat),(wN u n).testBit i=(decide (i<n)&&u i)
 | 0,i=>by simp[wN]
 | n+1,i=>by
  simp only[wN,Nat.testBit_or,D6 u n i]
  grind
def M0(u:Nat->Bool)(n:Nat):wN u n<2^n:=
 Nat.lt_pow_two_of_testBit _ λi d=>by rw[D6];simp;omega
def wF(u:Nat->Bool)(n:Nat):wN u (n+1)=wN u n+2^n*(u n).toNat:=by
 simp only[wN];cases h:u n
 .simp
 .rw[if_pos rfl,Nat.or_two_pow_eq_add_of_lt (M0 u n)];simp
def mS{u v:Nat->Bool}{n:Nat}(h: ∀i,i<n->u i=v i):wN u n=wN v n:=by
 apply Nat.eq_of_testBit_eq;intro i;rw[D6,D6]
 grind
def wG{u v:Nat->Bool}{n:Nat}(h:wN u n=wN v n){i:Nat}(d:i<n):u i=v i:=by
 have:=congrArg (λx=>x.testBit i) h;simpa[D6,d]using this
def W(u:Nat->Bool):Int:=(wN u 64:Nat)
def zP(u:Nat->Bool):0<=W u/\W u<18446744073709551616:=by
 have:=M0 u 64;unfold W;have e:(2:Nat)^64=18446744073709551616:=by decide
 omega
def HJ{u v:Nat->Bool}(h: ∀i,i<64->u i=v i):W u=W v:=by unfold W;rw[mS h]
def vC{u v:Nat->Bool}(h:W u=W v){i:Nat}(d:i<64):u i=v i:=by
 unfold W at h;exact wG (Int.ofNat.inj h) d
def zQ{u v:Nat->Bool}:W u=W v↔ ∀i,i<64->u i=v i:=⟨λh i d=>vC h d,HJ⟩
def Wh:W (λ_=>false)=0:=by
 unfold W;have:wN (λ_=>false) 64=0:=by
  apply Nat.eq_of_testBit_eq;intro i;rw[D6];simp
 omega
def Wj:W (λ_=>true)=18446744073709551615:=by
 unfold W;have:wN (λ_=>true) 64=18446744073709551615:=by
  have e:(18446744073709551615:Nat)=2^64-1:=by decide
  rw[e];apply Nat.eq_of_testBit_eq;intro i;rw[D6,Nat.testBit_two_pow_sub_one];simp
 omega
def mT:W (λi=>i==0)=1:=by
 unfold W;have:wN (λi=>i==0) 64=1:=by
  apply Nat.eq_of_testBit_eq;intro i;rw[D6];have:Nat.testBit 1 i=decide (0=i):=Nat.testBit_two_pow (n:=0) (m:=i)
  grind
 omega
def GN{u:Nat->Bool}:W u=0↔ ∀i,i<64->u i=false:=by
 rw[<-Wh,zQ]
def vD(u:Nat->Bool):(BitVec.ofInt 64 (W u)).toNat=wN u 64:=by
 unfold W;rw[BitVec.ofInt_natCast,BitVec.toNat_ofNat];exact Nat.mod_eq_of_lt (M0 u 64)
def Tk{n:Nat}(h:n<18446744073709551616):IntKind.wrap .u64 (n:Int)=(n:Int):=AK
def mU(u v:Nat->Bool):D5 .u64 0 (W u) (W v)=W λi=>u i&&v i:=by
 show IntKind.wrap .u64 ((BitVec.ofInt 64 (W u)&&&BitVec.ofInt 64 (W v)).toNat:Int)=_;rw[BitVec.toNat_and,vD,vD];have e:wN u 64&&&wN v 64=wN (λi=>u i&&v i) 64:=by
  apply Nat.eq_of_testBit_eq;intro i;rw[Nat.testBit_and,D6,D6,D6]
  grind
 rw[e,Tk (M0 _ 64)];rfl
def mV(u v:Nat->Bool):D5 .u64 1 (W u) (W v)=W λi=>u i||v i:=by
 show IntKind.wrap .u64 ((BitVec.ofInt 64 (W u)|||BitVec.ofInt 64 (W v)).toNat:Int)=_;rw[BitVec.toNat_or,vD,vD];have e:wN u 64|||wN v 64=wN (λi=>u i||v i) 64:=by
  apply Nat.eq_of_testBit_eq;intro i;rw[Nat.testBit_or,D6,D6,D6]
  grind
 rw[e,Tk (M0 _ 64)];rfl
def Nh(u v:Nat->Bool):D5 .u64 3 (W u) (W v)=W λi=>u i&& !v i:=by
 show IntKind.wrap .u64 ((BitVec.ofInt 64 (W u)&&& ~~~BitVec.ofInt 64 (W v)).toNat:Int)=_;rw[BitVec.toNat_and,vD,BitVec.toNat_not,vD];have e:wN u 64&&&(2^64-1-wN v 64)=wN (λi=>u i&& !v i) 64:=by
  apply Nat.eq_of_testBit_eq;intro i;have d:2^64-1-wN v 64=2^64-(wN v 64+1):=by omega
  rw[Nat.testBit_and,d,Nat.testBit_two_pow_sub_succ (M0 v 64),D6,D6,D6]
  grind
 rw[e,Tk (M0 _ 64)];rfl
def mW(u:Nat->Bool){n:Int}(h0:0<=n)(h1:n<=64):Int.fdiv (W u) (2^(min n.toNat (IntKind.bits .u64)))=W λi=>decide (i+n.toNat<64)&&u (i+n.toNat):=by
 have d:IntKind.bits .u64=64:=rfl;rw[d,Nat.min_eq_left (by omega),Int.fdiv_eq_ediv_of_nonneg _ (Int.pow_nonneg (by decide))];generalize n.toNat=k;unfold W;have e:((wN u 64:Nat):Int)/2^k=((wN u 64/2^k:Nat):Int):=by grind
 rw[e];congr 1;apply Nat.eq_of_testBit_eq;intro i;rw[Nat.testBit_div_two_pow,D6,D6]
 grind
def mX(u:Nat->Bool){n:Int}(h0:0<=n)(h1:n<=64):u64 (W u*2^(min n.toNat (IntKind.bits .u64)))=W λi=>decide (n.toNat<=i)&&u (i-n.toNat):=by
 have d:IntKind.bits .u64=64:=rfl;rw[d,Nat.min_eq_left (by omega)];generalize n.toNat=k;unfold W;have e:((wN u 64:Nat):Int)*2^k=((wN u 64*2^k:Nat):Int):=by grind
 rw[e,Ph];have j:(((wN u 64*2^k:Nat):Int) %18446744073709551616)=((wN u 64*2^k %2^64:Nat):Int):=by omega
 rw[j];congr 1;apply Nat.eq_of_testBit_eq;intro i;rw[Nat.testBit_mod_two_pow,Nat.testBit_mul_two_pow,D6,D6]
 grind
def zR(u:Nat->Bool){n:Int}(h0:0<=n)(h1:n<64):D5 .u64 0 (Int.fdiv (W u) (2^(min n.toNat (IntKind.bits .u64)))) 1=if u n.toNat then 1 else 0:=by
 rw[mW u h0 (by omega),<-mT,mU];cases hu:u n.toNat
 .rw[if_neg (by decide),GN]
  grind
 grind
def mY{x:Nat}(h0:x≠0)(h:x<2^64):D5 .u64 0 (x:Int) (u64 (0-x))=((x&&&(2^64-x):Nat):Int):=by
 have e:u64 (0-(x:Int))=((2^64-x:Nat):Int):=by
  rw[Ph];omega
 rw[e];show IntKind.wrap .u64 ((BitVec.ofInt 64 (x:Int)&&&BitVec.ofInt 64 ((2^64-x:Nat):Int)).toNat:Int)=_;rw[BitVec.toNat_and,BitVec.ofInt_natCast,BitVec.ofInt_natCast,BitVec.toNat_ofNat,BitVec.toNat_ofNat,Nat.mod_eq_of_lt h,Nat.mod_eq_of_lt (by omega)];exact Tk (Nat.lt_of_le_of_lt Nat.and_le_left h)
def rR{x:Nat}(h0:x≠0)(h:x<2^64):Lib.ctz 64 x<64/\x.testBit (Lib.ctz 64 x)=true/\ ∀i,i<Lib.ctz 64 x->x.testBit i=false:=by
 obtain⟨m,hm,hk⟩:=Lib.ctzFrom_spec 64 x (by omega) h;have e:Lib.ctz 64 x=Lib.ctzFrom 64 x:=by simp[Lib.ctz,h0]
 grind
def GL(g:Nat)(w:World):Prop:= ∀i,i<64->w.cell? ⟨g,i,none⟩=some (.int .u8 (Lib.deBruijn64tab.getD i 0:Nat))
def GL.ext{g:Nat}{w w':World}(h:GL g w)(he:Ext AP w w'):GL g w':=λi d=>he.cell (h i d) λf=>f
def D(B:Nat):Nat->(Nat->Nat)->Nat
 | 0,_=>0
 | n+1,d=>d 0+B*D B n λj=>d (j+1)
def OG{B:Nat}: ∀{n:Nat} {d e:Nat->Nat},(∀j,j<n->d j=e j)->D B n d=D B n e
 | 0,_,_,_=>rfl
 | n+1,d,e,h=>by
  simp only[D];rw[h 0 (by omega),OG λj v=>h (j+1) (by omega)]
def Wl(B:Nat): ∀(n:Nat) (d:Nat->Nat),D B (n+1) d=D B n d+B^n*d n
 | 0,d=>by simp[D]
 | n+1,d=>by
  have v:=Wl B n λj=>d (j+1);show d 0+B*D B (n+1) (λj=>d (j+1))=d 0+B*D B n (λj=>d (j+1))+B^(n+1)*d (n+1)
  grind
def bD{B:Nat}: ∀{n:Nat} {d:Nat->Nat},(∀j,d j<B)->D B n d<B^n
 | 0,_,_=>by simp[D]
 | n+1,d,h=>by
  have v:=bD (B:=B) (n:=n) (d:=λj=>d (j+1)) λj=>h (j+1);have h0:=h 0;have e:B^(n+1)=B*B^n:=by grind
  have:B*(D B n (λj=>d (j+1))+1)<=B*B^n:=Nat.mul_le_mul_left _ v;rw[Nat.mul_add]at this;rw[e];simp only[D];omega
def Tl(B:Nat): ∀(n:Nat) (d e:Nat->Nat),D B n d+D B n e=D B n λj=>d j+e j
 | 0,_,_=>rfl
 | n+1,d,e=>by
  simp only[D];rw[<-Tl B n,Nat.mul_add];omega
def YI{B:Nat}{n:Nat}{d:Nat->Nat}(h0:d 0<B)(v:d n=0):D B n d/B=D B n λj=>d (j+1):=by
 cases n with
 | zero=>simp[D]
 | succ n=>
  have e:D B (n+1) (λj=>d (j+1))=D B n λj=>d (j+1):=by rw[Wl];simp[v]
  rw[e];simp only[D];rw[Nat.add_mul_div_left _ _ (by omega),Nat.div_eq_of_lt h0,Nat.zero_add]
def Wm{B n:Nat}{d:Nat->Nat}(h: ∀j,d j<B)(hz: ∀j,n<=j->d j=0): ∀k,D B n d/B^k=D B n λj=>d (j+k)
 | 0=>by simp
 | k+1=>by
  rw[Nat.pow_succ,<-Nat.div_div_eq_div_mul,Wm h hz k,YI (d:=λj=>d (j+k)) (h _) (hz _ (by omega))]
  grind
def iS{b x y X Y:Nat}(j:x<2^b)(d:y<2^b):(x+2^b*X)&&&(y+2^b*Y)=(x&&&y)+2^b*(X&&&Y):=by
 apply Nat.eq_of_testBit_eq;intro i;rw[Nat.add_comm x,Nat.add_comm y,Nat.add_comm (x&&&y),Nat.testBit_and,Nat.testBit_two_pow_mul_add _ j,Nat.testBit_two_pow_mul_add _ d,Nat.testBit_two_pow_mul_add _ (Nat.and_lt_two_pow x d)]
 grind
def vE{b:Nat}: ∀(n:Nat) (d m:Nat->Nat),(∀j,d j<2^b)->(∀j,m j<2^b)->D (2^b) n d&&&D (2^b) n m=D (2^b) n λj=>d j&&&m j
 | 0,_,_,_,_=>by simp[D]
 | n+1,d,m,h1,h2=>by
  simp only[D];rw[iS (h1 0) (h2 0),vE n _ _ (λj=>h1 (j+1)) λj=>h2 (j+1)]
def mZ(B:Nat): ∀(n:Nat) (d:Nat->Nat),D B (2*n) d=D (B*B) n λj=>d (2*j)+B*d (2*j+1)
 | 0,_=>rfl
 | n+1,d=>by
  rw[show 2*(n+1)=2*n+1+1 by omega];simp only[D];rw[mZ B n]
  grind
def lK(f:Nat->Nat):Nat->Nat:=λj=>if j %2=0 then f j else 0
def Tm{b B:Nat}(v:B=2^b)(n:Nat)(d:Nat->Nat)(h: ∀j,d j<B):D B n d&&&D B n (lK λ_=>B-1)=D B n (lK d):=by
 subst v;have hp:0<2^b:=Nat.two_pow_pos b;rw[vE n d _ h λj=>by dsimp only[lK];grind];congr 1;funext j;dsimp only[lK];split
 .exact Nat.and_two_pow_sub_one_of_lt_two_pow (h j)
 .simp
def m6(B n:Nat)(d:Nat->Nat):D B (2*n) (lK d)=D (B*B) n λj=>d (2*j):=by
 rw[mZ];congr 1;funext j;unfold lK;rw[if_pos (by omega),if_neg (by omega)];omega
def zS(u:Nat->Bool): ∀n,wN u n=D 2 n λj=>(u j).toNat
 | 0=>rfl
 | n+1=>by rw[wF,Wl,zS u n]
def cN(u:Nat->Bool):Nat->Nat
 | 0=>0
 | n+1=>cN u n+(u n).toNat
def Oh(u:Nat->Bool)(n:Nat):cN u n<=n:=by
 induction n with
 | zero=>exact Nat.le_refl _
 | succ n ih=>simp only[cN];have:=Bool.toNat_le (u n);omega
def swar{u:Nat->Bool}(hu: ∀i,64<=i->u i=false){x0 Y v x3 x4 O x6:Nat}(h0:x0=wN u 64)(h1:Y=(x0/2&&&6148914691236517205)+(x0&&&6148914691236517205))
  (h2:v=(Y/4&&&3689348814741910323)+(Y&&&3689348814741910323))(h3:x3=(v/16+v)&&&1085102592571150095)(h4:x4=x3+x3/256)(h5:O=x4+x4/65536)(h6:x6=O+O/4294967296):
  Y<18446744073709551616/\v<18446744073709551616/\v/16+v<18446744073709551616/\x4<18446744073709551616/\O<18446744073709551616/\x6<9223372036854775808/\x6 %128=cN u 64:=by
 obtain⟨d,hd⟩: ∃d:Nat->Nat,∀j,d j=(u j).toNat:=⟨_,λ_=>rfl⟩;have hb: ∀j,d j<=1:=λj=>by rw[hd];exact Bool.toNat_le (u j)
 have hz: ∀j,64<=j->d j=0:=λj T=>by rw[hd,hu j T];rfl
 have e0:x0=D 2 64 d:=by rw[h0,zS];exact OG λj _=>(hd j).symm
 have m1:(6148914691236517205:Nat)=D 2 64 (lK λ_=>2-1):=by decide+kernel
 have m2:(3689348814741910323:Nat)=D 4 32 (lK λ_=>4-1):=by decide+kernel
 have m3:(1085102592571150095:Nat)=D 16 16 (lK λ_=>16-1):=by decide+kernel
 have q1: ∀d,D 2 64 (lK d)=D 4 32 λj=>d (2*j):=λd=>m6 2 32 d;have q2: ∀d,D 4 32 (lK d)=D 16 16 λj=>d (2*j):=λd=>m6 4 16 d;have q3: ∀d,D 16 16 (lK d)=D 256 8 λj=>d (2*j):=λd=>m6 16 8 d;obtain⟨c,y⟩: ∃c:Nat->Nat,∀j,c j=d (2*j+1)+d (2*j):=⟨_,λ_=>rfl⟩;have bc: ∀j,c j<=2:=λj=>by rw[y];grind
 have zc: ∀j,32<=j->c j=0:=λj T=>by rw[y,hz _ (by omega),hz _ (by omega)]
 have e1:Y=D 4 32 c:=by
  rw[h1,e0,YI (by have:=hb 0;omega) (hz 64 (by omega)),m1,Tm (b:=1) rfl 64 _ (λj=>by have:=hb (j+1);omega),Tm (b:=1) rfl 64 _ (λj=>by have:=hb j;omega),q1,q1,Tl];exact OG λj _=>(y j).symm
 have l1:Y<4^32:=by rw[e1];exact bD λj=>by have:=bc j;omega
 obtain⟨e,J⟩: ∃e:Nat->Nat,∀j,e j=c (2*j+1)+c (2*j):=⟨_,λ_=>rfl⟩;have be: ∀j,e j<=4:=λj=>by rw[J];grind
 have ze: ∀j,16<=j->e j=0:=λj T=>by rw[J,zc _ (by omega),zc _ (by omega)]
 have e2:v=D 16 16 e:=by
  rw[h2,e1,YI (by have:=bc 0;omega) (zc 32 (by omega)),m2,Tm (b:=2) rfl 32 _ (λj=>by have:=bc (j+1);omega),Tm (b:=2) rfl 32 _ (λj=>by have:=bc j;omega),q2,q2,Tl];exact OG λj _=>(J j).symm
 have l2:v<16^16:=by rw[e2];exact bD λj=>by have:=be j;omega
 have aC:v/16+v=D 16 16 λj=>e (j+1)+e j:=by
  rw[e2,YI (by have:=be 0;omega) (ze 16 (by omega)),Tl]
 have l3:v/16+v<16^16:=by rw[aC];exact bD λj=>by grind
 obtain⟨g,K⟩: ∃g:Nat->Nat,∀j,g j=e (2*j+1)+e (2*j):=⟨_,λ_=>rfl⟩;have bg: ∀j,g j<=8:=λj=>by rw[K];grind
 have zg: ∀j,8<=j->g j=0:=λj T=>by rw[K,ze _ (by omega),ze _ (by omega)]
 have e3:x3=D 256 8 g:=by
  rw[h3,aC,m3,Tm (b:=4) rfl 16 _ (λj=>by grind),q3];exact OG λj _=>(K j).symm
 have e4:x4=D 256 8 λj=>g j+g (j+1):=by
  rw[h4,e3,YI (by have:=bg 0;omega) (zg 8 (by omega)),Tl]
 have l4:x4<256^8:=by rw[e4];exact bD λj=>by grind
 have e5:O=D 256 8 λj=>g j+g (j+1)+(g (j+2)+g (j+3)):=by
  have:=Wm (B:=256) (n:=8) (d:=λj=>g j+g (j+1)) (λj=>by grind) (λj T=>by grind) 2;rw[h5,e4,show(65536:Nat)=256^2 from rfl,this,Tl]
 have l5:O<256^8:=by rw[e5];exact bD λj=>by grind
 obtain⟨k,hk⟩: ∃k:Nat->Nat,∀j,k j=g j+g (j+1)+(g (j+2)+g (j+3)):=⟨_,λ_=>rfl⟩;have bk: ∀j,k j<=32:=λj=>by rw[hk];grind
 have zk: ∀j,8<=j->k j=0:=λj T=>by rw[hk,zg _ (by omega),zg _ (by omega),zg _ (by omega),zg _ (by omega)]
 have aH:O=D 256 8 k:=by rw[e5];exact OG λj _=>(hk j).symm
 have e6:x6=D 256 8 λj=>k j+k (j+4):=by
  have:=Wm (B:=256) (n:=8) (d:=k) (λj=>by have:=bk j;omega) zk 4;rw[h6,aH,show(4294967296:Nat)=256^4 from rfl,this,Tl]
 have l6:x6<9223372036854775808:=by
  rw[e6,Wl];have h1:D 256 7 (λj=>k j+k (j+4))<256^7:=bD λj=>by grind
  grind
 have p1:(4:Nat)^32=18446744073709551616:=by decide
 have p2:(16:Nat)^16=18446744073709551616:=by decide
 have p3:(256:Nat)^8=18446744073709551616:=by decide
 rw[p1]at l1;rw[p2]at l2 l3;rw[p3]at l4 l5;refine⟨l1,l2,l3,l4,l5,l6,?_⟩;have e7:x6 %128=k 0+k 4:=by
  rw[e6];have b0:=bk 0;have b4:=bk 4;rw[show(8:Nat)=7+1 from rfl];simp only[D,Nat.zero_add];omega
 have aQ:cN u 64=k 0+k 4:=by
  simp only[hk,K,J,y,hd,Nat.reduceMul,Nat.reduceAdd];simp only[cN,Nat.reduceMul,Nat.reduceAdd];omega
 omega
def Wn{α:Type}(n:Nat)(z:Nat->α):List α:=(List.range n).map z
def Tn{α:Type}(n:Nat)(z:Nat->α):(Wn n z).length=n:=by simp[Wn]
def m8{α:Type}{n i:Nat}(z:Nat->α)(d:i<n):(Wn n z)[i]? =some (z i):=by simp[Wn,d]
def bE{w:World}{k:IntKind}{ok:Int->Prop}{s:Aa}{z:Nat->Int}(h:a8 w (.int k) ok s z):rowAt w s.base s.len (ints k (Wn s.len z)):=by
 cases hb:s.base with
 | none=>
  have:s.len=0:=by
   rcases Nat.eq_zero_or_pos s.len with e|e
   .exact e
   .obtain⟨x,J,_⟩:=h.mR e
    grind
  show ints k (Wn s.len z)=[];rw[this];rfl
 | some a=>
  refine⟨by simp[ints,Tn],λj v y=> ?_⟩;have d:j<s.len:=by
   have:=(List.getElem?_eq_some_iff.1 y).1;simpa[ints,Tn]using this
  rw[IF (m8 z d)]at y;cases y;obtain⟨x,J,K,_⟩:=h.mR d
  grind
def a8.oldI{w w':World}{k:IntKind}{s:Aa}{z:Nat->Int}(h:Wc w (.int k) s z)(he:Ext AP w w'):Wc w' (.int k) s z:=
 ⟨h.1,h.2.1,λj y=>by
  obtain⟨x,h1,h2,d⟩:=h.2.2 j y;exact⟨x,h1,λi v J=>he.cell (h2 i v J) λf=>f,d⟩⟩
def rT{w:World}{s:Aa}{z:Nat->Int}(h:Wc w (.int .u64) s z): ∀x∈Wn s.len z,0<=x/\x<18446744073709551616:=by
 intro x d;simp only[Wn,List.mem_map,List.mem_range]at d;obtain⟨j,v,rfl⟩:=d;obtain⟨_,_,_,y⟩:=h.mR v;exact bB y
structure RgF(k:IntKind)(es:Array MapEntry)(c:Nat)(seen:Array Nat)(last:Nat)(m:List (Int×Value))(cur:Option Int)(done:List Int):Prop where
 ok:MapI k es c m
 lst:seen.isEmpty=true∨last=c
 nd:done.Nodup
 sub: ∀n∈done,aget m n≠none
 met: ∀e∈es.toList,seen.contains e.born=true↔ ∃n∈done,e.key= .int k n
 cur: ∀n,cur=some n->last=c/\ ∃e,e∈es.toList/\seen.back?=some e.born/\e.key= .int k n/\aget m n=some e.val
def MapI.key_inj{k:IntKind}{es:Array MapEntry}{c:Nat}{m:List (Int×Value)}(h:MapI k es c m){x y:MapEntry}(j:x∈es.toList)(v:y∈es.toList)(he:x.key=y.key):x=y:=by
 have h1:(es.toList.map (·.key)).Nodup:=by
  have e:es.toList.map (·.key)=m.map λp=>Value.int k p.1:=by
   have:=congrArg (List.map Prod.fst) h.keys;simpa[List.map_map,Function.comp_def]using this
  rw[e,show(m.map λp=>Value.int k p.1)=(m.map (·.1)).map (Value.int k) by simp];refine List.Pairwise.map _ (λa b d=> ?_) h.nodup
  grind
 exact KH h1 j v he
def MapI.Qw{k:IntKind}{es:Array MapEntry}{c:Nat}{m:List (Int×Value)}(h:MapI k es c m){e:MapEntry}(he:e∈es.toList):es.find? (λx:MapEntry=>x.born==e.born)=some e:=by
 rw[<-Array.find?_toList];have: ∀l:List MapEntry,(l.map (·.born)).Nodup->e∈l->l.find? (λx:MapEntry=>x.born==e.born)=some e:=by
  intro l
  induction l with
  | nil=>grind
  | cons x r ih=>grind
 exact this es.toList h.born he
def U8(r mb:Nat)(k:IntKind)(g:Int->Option Value)(cur:Option Int)(done:List Int)(N:Nat):Pr where
 holds D w:=(∀i,D i↔i=r∨i=mb)/\r≠mb/\ ∃es c seen last m,w.heap[r]? =some (.mapIter (some mb) c seen last)/\w.heap[mb]? =some (.map es c)/\
  RgF k es c seen last m cur done/\(∀i,aget m i=g i)/\Ig es seen=N
 loc h he hS:=⟨h.1,h.2.1,let⟨es,c,seen,last,m,h1,h2,d⟩:=h.2.2;⟨es,c,seen,last,m,he.obj h1 (hS _ ((h.1 _).2 (.inl rfl))),he.obj h2 (hS _ ((h.1 _).2 (.inr rfl))),d⟩⟩
 lt h hk:=by
  obtain⟨es,c,seen,last,m,h1,h2,d⟩:=h.2.2;rcases(h.1 _).1 hk with rfl|rfl
  .exact F4 h1
  .exact F4 h2
def nA(r mb:Nat)(w:World):Nat:=match w.heap[r]?,w.heap[mb]? with
 | some (.mapIter _ _ seen _),some (.map es _)=>Ig es seen
 | _,_=>0
section
variable{F:List Pr}{w w':World}{r mb:Nat}{k:IntKind}{g:Int->Option Value}{cur:Option Int}{done:List Int}{N:Nat}
def Sat.fG(H:Sat (U8 r mb k g cur done N::F) w):nA r mb w=N:=by
 obtain⟨_,h⟩:=H.head;obtain⟨es,c,seen,last,m,h1,h2,j,v,d⟩:=h.2.2;simp only[nA,h1,h2];exact d
def Sat.fH(H:Sat (U8 r mb k g cur done N::F) w):done.Nodup/\ ∀n∈done,g n≠none:=by
 obtain⟨_,h⟩:=H.head;obtain⟨es,c,seen,last,m,h1,h2,d,j,y⟩:=h.2.2;exact⟨d.nd,λn v=>by rw[<-j];exact d.sub n v⟩
def Sat.wH(H:Sat (U8 r mb k g cur done N::F) w):Sat (Dm mb k g::F) w:=by
 obtain⟨D,h,hs⟩:=H.step;obtain⟨es,c,seen,last,m,h1,h2,d,j,y⟩:=h.2.2;exact hs w (λi=>i=mb) _ (Ext.refl _ _) ⟨λ_=>Iff.rfl,es,c,m,h2,d.ok,j⟩ λi v=>.inl ((h.1 i).2 (.inr v))
def wI(H:Sat (Dm mb k g::F) w){K:Nat->World->Prop}(J: ∀r N w',Sat (U8 r mb k g none [] N::F) w'->K r w'): ∃v,RY w (some mb) v/\AL (Lm (some mb) v) w K:=by
 obtain⟨es,c,m,h1,h2,y⟩:=H.Pt;refine⟨c,⟨es,h1⟩,BS λw' O hs he=> ?_⟩;obtain⟨D,h,j⟩:=H.step;have T:mb<w.heap.size:=F4 h1;refine J _ (Ig es #[]) w' (j w' (λi=>i=w.heap.size∨i=mb) _ (he.mono λ_ _ f=>f.elim) ⟨λ_=>Iff.rfl,by omega,es,c,#[],c,m,O,he.obj h1 λf=>f,⟨h2,.inl rfl,List.nodup_nil,(λn d=>by cases d),(λe _=>by simp),(λn d=>by cases d)⟩,y,rfl⟩ ?_);rintro i (rfl|rfl)
 .exact .inr (Nat.le_refl _)
 .exact .inl ((h.1 _).2 rfl)
def nB(H:Sat (U8 r mb k g cur done N::F) w){Kn:World->Prop}{Ks:Value->Value->World->Prop}(h0: ∀w',Sat (U8 r mb k g cur done N::F) w'->(∀n,n∈done↔g n≠none)->Kn w')
  (h1: ∀n v w' N',g n=some v->n∉done->N'<N->Sat (U8 r mb k g (some n) (done++[n]) N'::F) w'->Ks (.int k n) v w'):WR r w Kn Ks:=by
 have HN: ∀w',(w'=w∨w'=w.drew)->Sat (U8 r mb k g cur done N::F) w':=λw' h=>by rcases h with rfl|rfl;exact H;exact H.drew
 obtain⟨D,h,_⟩:=H.step;obtain⟨es,c,seen,last,m,g1,g2,g3,g4,g5⟩:=h.2.2;refine⟨some mb,c,seen,last,g1,es,c,g2,?_,?_,?_⟩
 .rcases g3.lst with hl|rfl
  .simp[hl]
  .by_cases he:es.isEmpty=true
   .simp[he]
   .have:es.all (λx=>decide (x.born≥last))=false:=by
     have aP:0<es.size:=Nat.pos_of_ne_zero λe=>he (by grind);have hm:es[0]∈es.toList:=by simp
     have:=g3.ok.lt _ hm
     grind
    simp[this]
 .intro w' j O;refine h0 w' (HN w' j) λn=>⟨λT=>by rw[<-g4];exact g3.sub n T,λT=> ?_⟩;have hf:(leftOf es seen).filter (λx=>decide (x.born<c))=leftOf es seen:=by
   apply Array.filter_eq_self.2;intro e he;exact decide_eq_true (g3.ok.lt e (HF.1 he).1)
  rw[hf]at O;rw[<-g4]at T;cases hg:aget m n with
  | none=>grind
  | some v=>
   obtain⟨e,he,hk,hv⟩:=g3.ok.Ss hg;have hs:seen.contains e.born=true:=by
    cases hsc:seen.contains e.born with
    | true=>rfl
    | false=>
     have:e∈leftOf es seen:=HF.2 ⟨he,hsc⟩
     grind
   obtain⟨n',d,J⟩:=(g3.met e he).1 hs
   grind
 .intro w' e j he;obtain⟨q1,q2⟩:=HF.1 he;obtain⟨n,y,aF⟩:=g3.ok.Pn q1;rw[y];have aI:n∉done:=λT=>by
   have:=(g3.met e q1).2 ⟨n,T,y⟩
   grind
  have K:Ig es (seen.push e.born)<Ig es seen:=by
   unfold Ig;refine filter_lt (λx _ hx=> ?_) ⟨e,q1,by grind,by simp⟩
   grind
  refine h1 n e.val _ (Ig es (seen.push e.born)) (by rw[<-g4];exact aF) aI (by rw[<-g5];exact K) ?_;obtain⟨D',h',aJ⟩:=(HN w' j).step;have Y:Ext AP w w':=by rcases j with rfl|rfl;exact Ext.refl _ _;exact Ext.drew _ _
  have aE:=Y.obj g2 λf=>f;have aH:r<w'.heap.size:=by have:=F4 g1;have:=Y.size;omega
  refine aJ _ D' _ ((Ext.Gd w' r _).mono λi _ hi=>(h'.1 i).2 (.inl hi)) ⟨h'.1,h'.2.1,es,c,seen.push e.born,c,m,?_,?_,⟨g3.ok,.inr rfl,?_,?_,?_,?_⟩,g4,rfl⟩ λi hi=>.inl hi
  .simp[World.Gd,aH]
  .exact(Ext.Gd w' r _).obj aE λe:mb=r=>h'.2.1 e.symm
  .rw[List.nodup_append];exact⟨g3.nd,by simp,λa ha b hb=>by simp at hb;subst hb;rintro rfl;grind⟩
  .intro n' d;rcases List.mem_append.1 d with h|h
   .exact g3.sub n' h
   grind
  .intro x hx;constructor
   .intro hs;simp at hs;rcases hs with hs|hs
    .obtain⟨n',d,J⟩:=(g3.met x hx).1 (by grind)
     grind
    .have:x=e:=KH g3.ok.born hx q1 hs
     grind
   .rintro⟨n',d,J⟩;rcases List.mem_append.1 d with h|h
    .have:=(g3.met x hx).2 ⟨n',h,J⟩
     grind
    .simp at h;subst h;have:x=e:=g3.ok.key_inj hx q1 (by grind)
     grind
  grind
def rU{n:Int}(H:Sat (U8 r mb k g (some n) done N::F) w){K:Value->Value->HB->Prop}(j: ∀v S,g n=some v->K (.int k n) v S):rK r w K:=by
 obtain⟨_,h⟩:=H.head;obtain⟨es,c,seen,last,m,g1,g2,g3,g4,g5⟩:=h.2.2;obtain⟨rfl,e,he,d,hk,y⟩:=g3.cur n rfl;refine⟨mb,last,last,seen,es,last,e.born,e,⟨g1,g2⟩,d,rfl,g3.ok.Qw he,?_⟩
 grind
end
abbrev Kd:=Int×Bool×Bool×Bool
def NF(k:Kd):List Value:=[.int .i64 k.1,.bool k.2.1,.bool k.2.2.1,.bool k.2.2.2]
def kget:List (Kd×Value)->Kd->Option Value
 | [],_=>none
 | p::r,n=>if p.1=n then some p.2 else kget r n
structure LA(es:Array MapEntry)(clock:Nat)(m:List (Kd×Value)):Prop where
 keys:es.toList.map (λe=>(e.key,e.val))=m.map (λp=>(Value.agg ⟨NF p.1⟩,p.2))
 nodup:(m.map (·.1)).Nodup
 born:(es.toList.map (·.born)).Nodup
 lt: ∀e∈es.toList,e.born<clock
def LA.empty:LA #[] 0 []:=⟨rfl,by simp,by simp,by simp⟩
def wJ(a b:Kd):eqA (NF a) (NF b)=some (decide (a=b)):=by
 obtain⟨a1,a2,d,j⟩:=a;obtain⟨b1,b2,v,y⟩:=b;by_cases h1:a1=b1
 .subst h1;cases a2<;>cases b2<;>cases d<;>cases v<;>cases j<;>cases y<;>simp[NF,eqA]
 .have:(a1==b1)=false:=by simp[h1]
  simp[NF,eqA,h1,this]
def To(n:Kd): ∀(es:List MapEntry) (m:List (Kd×Value)) (i:Nat),es.map (λe=>(e.key,e.val))=m.map (λp=>(Value.agg ⟨NF p.1⟩,p.2))->
  ∃res,findA (NF n) es i=some res/\
   ((res=none/\kget m n=none)∨ ∃j v,res=some (i+j,v)/\kget m n=some v/\m[j]? =some (n,v)/\j<es.length)
 | [],[],i,_=>⟨none,rfl,.inl ⟨rfl,rfl⟩⟩
 | [],_::_,i,h=>by simp at h
 | _::_,[],i,h=>by simp at h
 | e::r,p::m,i,h=>by
  simp only[List.map_cons,List.cons.injEq,Prod.mk.injEq]at h;obtain⟨⟨hk,K⟩,J⟩:=h;simp only[findA,hk,wJ];by_cases hn:n=p.1
  .subst hn;refine⟨some (i,e.val),by simp,.inr ⟨0,p.2,by simp[K],by simp[kget],by simp,by simp⟩⟩
  .simp only[hn,decide_false];obtain⟨res,h1,h2⟩:=To n r m (i+1) J;refine⟨res,h1,?_⟩;rcases h2 with ⟨d,y⟩|⟨j,v,d,y,O,T⟩
   .exact .inl ⟨d,by simp[kget,Ne.symm hn,y]⟩
   .refine .inr ⟨j+1,v,by rw[d];grind,by simp[kget,Ne.symm hn,y],by grind,by simp;omega⟩
def LA.find{es:Array MapEntry}{c:Nat}{m:List (Kd×Value)}(h:LA es c m)(n:Kd):
  ∃res,findA (NF n) es.toList 0=some res/\((res=none/\kget m n=none)∨ ∃j v,res=some (j,v)/\kget m n=some v/\m[j]? =some (n,v)/\j<es.size):=by
 obtain⟨res,h1,h2⟩:=To n es.toList m 0 h.keys
 grind
def iT{n:Kd}{b:Nat}{w:World}{z:Value}{K:Value->Bool->Array MapEntry->Prop}{es:Array MapEntry}{c:Nat}{m:List (Kd×Value)}
  (J:w.heap[b]? =some (.map es c))(h:LA es c m)(d:K ((kget m n).getD z) (kget m n).isSome es):zM (NF n) (some b) w z K:=by
 obtain⟨res,h1,h2⟩:=h.find n;refine⟨es,res,⟨c,J⟩,h1,?_⟩;rcases h2 with ⟨rfl,y⟩|⟨j,v,rfl,y,_⟩
 .rw[y]at d;exact d
 .rw[y]at d;exact d
def L6{m:List (Kd×Value)}{n:Kd}{q:List (Kd×Value)}(h:kget m n=none):kget (m++q) n=kget q n:=by
 induction m with
 | nil=>rfl
 | cons p r ih=>
  simp only[kget]at h;split at h
  .cases h
  .rename_i hp;simp[kget,hp,ih h]
def U9{m:List (Kd×Value)}{n:Kd}:kget m n=none↔n∉m.map (·.1):=by
 induction m with
 | nil=>simp[kget]
 | cons p r ih=>
  simp only[kget,List.map_cons,List.mem_cons,not_or]
  grind
def Qx{m q:List (Kd×Value)}{n:Kd}{v:Value}(h:kget m n=some v):kget (m++q) n=some v:=by
 induction m with
 | nil=>cases h
 | cons p r ih=>
  simp only[kget]at h;by_cases hp:p.1=n
  .rw[if_pos hp]at h;simp[kget,hp,h]
  .rw[if_neg hp]at h;simp[kget,hp,ih h]
def nC{m:List (Kd×Value)}{n:Kd}{v:Value}{j:Nat}{u:Value}(d:m[j]? =some (n,u))(J:(m.map (·.1)).Nodup):
  (∀i,kget (m.set j (n,v)) i=if i=n then some v else kget m i)/\(m.set j (n,v)).map (·.1)=m.map (·.1):=by
 induction m generalizing j with
 | nil=>simp at d
 | cons p r ih=>
  cases j with
  | zero=>
   simp at d;subst d;refine⟨λi=> ?_,by simp⟩;simp only[List.set_cons_zero,kget]
   grind
  | succ j=>
   simp only[List.map_cons,List.nodup_cons]at J;obtain⟨h1,h2⟩:=ih (by simpa using d) J.2;have y:n∈r.map (·.1):=List.mem_map.2 ⟨_,List.mem_of_getElem? (by simpa using d),rfl⟩;have K:p.1≠n:=λe=>J.1 (e▸y);refine⟨λi=> ?_,by grind⟩;simp only[List.set_cons_succ,kget,h1]
   grind
def LA.put{es:Array MapEntry}{c:Nat}{m:List (Kd×Value)}(h:LA es c m)(n:Kd)(v:Value){res:Option (Nat×Value)}(hf:findA (NF n) es.toList 0=some res):
  ∃d Y m',mapPut es c (.agg ⟨NF n⟩) v res= .map d Y/\LA d Y m'/\(∀i,kget m' i=if i=n then some v else kget m i)/\m'.length<=m.length+1/\
   (kget m n=none->m'.length=m.length+1)/\(kget m n≠none->m'.length=m.length):=by
 obtain⟨J,h1,h2⟩:=h.find n;have:J=res:=by rw[h1]at hf;exact Option.some.inj hf
 subst this;rcases h2 with ⟨rfl,K⟩|⟨j,u,rfl,K,h4,h5⟩
 .refine⟨_,_,m++[(n,v)],rfl,⟨?_,?_,?_,?_⟩,λi=> ?_,by simp,by simp,λh=>absurd K h⟩
  .simp[h.keys]
  .rw[List.map_append,List.nodup_append];refine⟨h.nodup,by simp,λa T b O=> ?_⟩;simp at O;subst O;intro e;subst e;exact U9.1 K T
  .simp only[Array.toList_push,List.map_append,List.nodup_append];refine⟨h.born,by simp,λa T b O=> ?_⟩;simp at O;obtain⟨e,he,rfl⟩:=List.mem_map.1 T;have:=h.lt e he;omega
  .intro e he;simp only[Array.toList_push,List.mem_append,List.mem_singleton]at he;rcases he with he|rfl
   .have:=h.lt e he;omega
   .simp
  .by_cases y:i=n
   .subst y;rw[if_pos rfl,L6 K];simp[kget]
   .rw[if_neg y];cases hg:kget m i with
    | none=>rw[L6 hg];simp[kget,Ne.symm y]
    | some u=>exact Qx hg
 .obtain⟨g1,g2⟩:=nC (v:=v) h4 h.nodup;refine⟨_,_,m.set j (n,v),rfl,⟨?_,by rw[g2];exact h.nodup,?_,?_⟩,g1,by simp,(λh=>by grind),λ_=>by simp⟩
  .apply List.ext_getElem?;intro i;have hk:=congrArg (λl=>l[i]?) h.keys
   grind
  .have:(es.modify j λe=>{e with key:=.agg ⟨NF n⟩,val:=v}).toList.map (·.born)=es.toList.map (·.born):=by
    apply List.ext_getElem?
    grind
   rw[this];exact h.born
  .intro e he;obtain⟨i,y,rfl⟩:=List.mem_iff_getElem.1 he;simp only[Array.getElem_toList,Array.getElem_modify];have aB:i<es.size:=by simpa using y
   split
   .exact h.lt es[i] (by simp)
   .exact h.lt es[i] (by simp)
def bF{n:Kd}{v:Value}{b:Nat}{w:World}{K:World->Prop}{es:Array MapEntry}{c:Nat}{m:List (Kd×Value)}
  (J:w.heap[b]? =some (.map es c))(h:LA es c m)
  (hK: ∀w' d j m',w'.heap[b]? =some (.map d j)->LA d j m'->(∀i,kget m' i=if i=n then some v else kget m i)->m'.length<=m.length+1->
   (kget m n=none->m'.length=m.length+1)->(kget m n≠none->m'.length=m.length)->Ext (KF b) w w'->w'.heap.size=w.heap.size->K w'):aT (NF n) v (some b) w K:=by
 obtain⟨res,h1,_⟩:=h.find n;refine⟨b,es,c,res,rfl,J,h1,?_⟩;obtain⟨d,j,m',h2,O,T,Y,h6,h7⟩:=h.put n v h1;rw[h2];have y:=F4 J;exact hK _ d j m' (by simp[World.Gd,y]) O T Y h6 h7 (Ext.Gd w b _) (by simp[World.Gd])
def LA.Pn{es:Array MapEntry}{c:Nat}{m:List (Kd×Value)}(h:LA es c m){e:MapEntry}(he:e∈es.toList):
  ∃n,e.key= .agg ⟨NF n⟩/\kget m n=some e.val:=by
 obtain⟨i,j⟩:=List.mem_iff_getElem?.1 he;have d:=congrArg (λl=>l[i]?) h.keys;simp only[List.getElem?_map,j,Option.map_some]at d;cases hm:m[i]? with
 | none=>grind
 | some p=>
  rw[hm]at d;simp only[Option.map_some,Option.some.injEq,Prod.mk.injEq]at d;refine⟨p.1,d.1,?_⟩;have: ∀(m:List (Kd×Value)) (i:Nat),(m.map (·.1)).Nodup->m[i]? =some p->kget m p.1=some p.2:=by
   intro m
   induction m with
   | nil=>grind
   | cons q r ih=>
    intro i y j;simp only[List.map_cons,List.nodup_cons]at y;cases i with
    | zero=>simp at j;subst j;simp[kget]
    | succ i=>
     have v:p.1∈r.map (·.1):=List.mem_map.2 ⟨_,List.mem_of_getElem? (by simpa using j),rfl⟩;have J:q.1≠p.1:=λe=>y.1 (e▸v);simp[kget,J,ih i y.2 (by grind)]
  rw[this m i h.nodup hm,d.2]
def LA.Ss{es:Array MapEntry}{c:Nat}{m:List (Kd×Value)}(h:LA es c m){n:Kd}{v:Value}(y:kget m n=some v):
  ∃e∈es.toList,e.key= .agg ⟨NF n⟩/\e.val=v:=by
 obtain⟨res,h1,h2⟩:=h.find n;rcases h2 with ⟨_,d⟩|⟨j,u,rfl,d,K,O⟩
 .grind
 .rw[d]at y;cases y;have J:=congrArg (λl=>l[j]?) h.keys
  grind
def nD{a b:Kd}(h:Value.agg ⟨NF a⟩=Value.agg ⟨NF b⟩):a=b:=by
 obtain⟨a1,a2,d,j⟩:=a;obtain⟨b1,b2,v,y⟩:=b;simp only[NF,Value.agg.injEq,Array.mk.injEq,List.cons.injEq,Value.int.injEq,Value.bool.injEq,true_and,and_true]at h
 grind
def MapK(b:Nat)(g:Kd->Option Value):Pr where
 holds D w:=(∀i,D i↔i=b)/\ ∃es c m,w.heap[b]? =some (.map es c)/\LA es c m/\ ∀i,kget m i=g i
 loc h he hS:=⟨h.1,let⟨es,c,m,h1,h2⟩:=h.2;⟨es,c,m,he.obj h1 (hS _ ((h.1 _).2 rfl)),h2⟩⟩
 lt h hk:=by have:=(h.1 _).1 hk;grind
section
variable{F:List Pr}{w w':World}{b:Nat}{g:Kd->Option Value}
def fI(H:Sat F w){K:Nat->World->Prop}(d: ∀b w',Sat (MapK b (λ_=>none)::F) w'->Ext AP w w'->K b w'):AL (.map #[] 0) w K:=
 BS λw' j hs he=>d _ _ (H.new (P:=MapK w.heap.size λ_=>none) (D:=λk=>k=w.heap.size) he ⟨λ_=>Iff.rfl,_,_,[],j,LA.empty,λ_=>rfl⟩ λk hk=>by omega) he
def Sat.Tp(H:Sat (MapK b g::F) w): ∃es c m,w.heap[b]? =some (.map es c)/\LA es c m/\ ∀i,kget m i=g i:=let⟨_,h⟩:=H.head;h.2
def bG(H:Sat (MapK b g::F) w){n:Kd}{z:Value}{K:Value->Bool->Array MapEntry->Prop}(j: ∀es,(∃c,w.heap[b]? =some (.map es c))->K ((g n).getD z) (g n).isSome es):zM (NF n) (some b) w z K:=by
 obtain⟨es,c,m,h1,h2,d⟩:=H.Tp;refine iT h1 h2 ?_;rw[d];exact j es ⟨c,h1⟩
def Sat.nE(H:Sat (MapK b g::F) w){d:Array MapEntry}{j:Nat}{m':List (Kd×Value)}{g':Kd->Option Value}(he:Ext (KF b) w w')(h1:w'.heap[b]? =some (.map d j))(h2:LA d j m')(v: ∀i,kget m' i=g' i):
  Sat (MapK b g'::F) w':=by
 obtain⟨D,h,hs⟩:=H.step;exact hs w' D _ (he.mono λi _ y=>(h.1 i).2 y) ⟨h.1,d,j,m',h1,h2,v⟩ λk hk=>.inl hk
def Wo(H:Sat (MapK b g::F) w){n:Kd}{v:Value}{K:World->Prop}(y: ∀w',Sat (MapK b (λi=>if i=n then some v else g i)::F) w'->K w'):aT (NF n) v (some b) w K:=by
 obtain⟨es,c,m,h1,h2,j⟩:=H.Tp;refine bF h1 h2 λw' d J m' g1 g2 g3 _ _ _ he _=>y w' (H.nE he g1 g2 λi=> ?_);rw[g3,j]
end
def fJ{F:List Pr}{w:World}{b:Nat}{k:IntKind}{g:Int->Option Value}(H:Sat (Dm b k g::F) w){n:Int}{z v:Value}{K:World->Prop}(hK: ∀w',Sat (Dm b k (λi=>if i=n then some v else g i)::F) w'->K w'):
  rL k n z (some b) w λ_ s w1=>rM s v (some b) w1 K:=by
 obtain⟨es,c,m,h1,h2,h3⟩:=H.Pt;obtain⟨res,f1,f2⟩:=h2.find n;obtain⟨J,Y,m',y,p2,p3,_⟩:=h2.put n v f1;have d:=F4 h1;have fin: ∀w',Ext (KF b) w w'->w'.heap[b]? =some (.map J Y)->K w':=λw' he O=>hK w' (H.mapStep he O p2 λi=>by rw[p3,h3]);refine⟨b,es,c,res,rfl,h1,f1,?_⟩;rcases f2 with ⟨rfl,_⟩|⟨j,u,rfl,_,_,T⟩
 .simp only[mapPut,Obj.map.injEq]at y;obtain⟨rfl,rfl⟩:=y;refine⟨b,_,_,es.size,rfl,by simp[World.Gd,d];exact⟨rfl,rfl⟩,?_,?_⟩
  .rw[Array.findIdx?_push];have:es.findIdx? (λe=>(e.born:Int)==(c:Int))=none:=by
    rw[Array.findIdx?_eq_none_iff];intro e he;have:=h2.lt e (by simpa using he);simp;omega
   simp[this]
  .refine fin _ ((Ext.Gd w b _).trans' (Ext.Gd _ b _)) ?_;have e:(es.push {key:=Value.int k n,val:=z,born:=c}).modify es.size (λe=>{key:=e.key,val:=v,born:=e.born})=es.push {key:=Value.int k n,val:=v,born:=c}:=by grind
   simp[World.Gd,d,e]
 .simp only[mapPut,Obj.map.injEq]at y;obtain⟨rfl,rfl⟩:=y;refine⟨es[j],Array.getElem?_eq_getElem T,b,_,_,j,rfl,by simp[World.Gd,d];exact⟨rfl,rfl⟩,?_,?_⟩
  .rw[Array.findIdx?_eq_some_iff_getElem];refine⟨by simpa using T,by grind,λi hi=> ?_⟩;have O:=h2.born;simp only[Array.getElem_modify];have aD:es[i].born≠es[j].born:=λe=>by
    have:=List.pairwise_iff_getElem.1 O i j (by simp;omega) (by simpa using T) hi
    grind
   grind
  .refine fin _ ((Ext.Gd w b _).trans' (Ext.Gd _ b _)) ?_;have e:(es.modify j λe=>{key:=Value.int k n,val:=e.val,born:=e.born}).modify j (λe=>{key:=e.key,val:=v,born:=e.born})=es.modify j λe=>{key:=Value.int k n,val:=v,born:=e.born}:=by grind
   simp[World.Gd,d,e]
structure RgA(es:Array MapEntry)(c:Nat)(seen:Array Nat)(last:Nat)(m:List (Kd×Value))(cur:Option Kd)(done:List Kd):Prop where
 ok:LA es c m
 lst:seen.isEmpty=true∨last=c
 nd:done.Nodup
 sub: ∀n∈done,kget m n≠none
 met: ∀e∈es.toList,seen.contains e.born=true↔ ∃n∈done,e.key= .agg ⟨NF n⟩
 cur: ∀n,cur=some n->last=c/\ ∃e,e∈es.toList/\seen.back?=some e.born/\e.key= .agg ⟨NF n⟩/\kget m n=some e.val
def LA.key_inj{es:Array MapEntry}{c:Nat}{m:List (Kd×Value)}(h:LA es c m){x y:MapEntry}(j:x∈es.toList)(v:y∈es.toList)(he:x.key=y.key):x=y:=by
 have h1:(es.toList.map (·.key)).Nodup:=by
  have e:es.toList.map (·.key)=m.map λp=>Value.agg ⟨NF p.1⟩:=by
   have:=congrArg (List.map Prod.fst) h.keys;simpa[List.map_map,Function.comp_def]using this
  rw[e,show(m.map λp=>Value.agg ⟨NF p.1⟩)=(m.map (·.1)).map (λn=>Value.agg ⟨NF n⟩) by simp];refine List.Pairwise.map _ (λa b d=> ?_) h.nodup;intro e;exact d (nD e)
 exact KH h1 j v he
def LA.Qw{es:Array MapEntry}{c:Nat}{m:List (Kd×Value)}(h:LA es c m){e:MapEntry}(he:e∈es.toList):es.find? (λx:MapEntry=>x.born==e.born)=some e:=by
 rw[<-Array.find?_toList];have: ∀l:List MapEntry,(l.map (·.born)).Nodup->e∈l->l.find? (λx:MapEntry=>x.born==e.born)=some e:=by
  intro l
  induction l with
  | nil=>grind
  | cons x r ih=>grind
 exact this es.toList h.born he
def OW(r mb:Nat)(g:Kd->Option Value)(cur:Option Kd)(done:List Kd)(N:Nat):Pr where
 holds D w:=(∀i,D i↔i=r∨i=mb)/\r≠mb/\ ∃es c seen last m,w.heap[r]? =some (.mapIter (some mb) c seen last)/\w.heap[mb]? =some (.map es c)/\
  RgA es c seen last m cur done/\(∀i,kget m i=g i)/\Ig es seen=N
 loc h he hS:=⟨h.1,h.2.1,let⟨es,c,seen,last,m,h1,h2,d⟩:=h.2.2;⟨es,c,seen,last,m,he.obj h1 (hS _ ((h.1 _).2 (.inl rfl))),he.obj h2 (hS _ ((h.1 _).2 (.inr rfl))),d⟩⟩
 lt h hk:=by
  obtain⟨es,c,seen,last,m,h1,h2,d⟩:=h.2.2;rcases(h.1 _).1 hk with rfl|rfl
  .exact F4 h1
  .exact F4 h2
def MX(r mb:Nat)(w:World):Nat:=match w.heap[r]?,w.heap[mb]? with
 | some (.mapIter _ _ seen _),some (.map es _)=>Ig es seen
 | _,_=>0
section
variable{F:List Pr}{w w':World}{r mb:Nat}{g:Kd->Option Value}{cur:Option Kd}{done:List Kd}{N:Nat}
def Sat.L7(H:Sat (OW r mb g cur done N::F) w):MX r mb w=N:=by
 obtain⟨_,h⟩:=H.head;obtain⟨es,c,seen,last,m,h1,h2,j,v,d⟩:=h.2.2;simp only[MX,h1,h2];exact d
def Sat.YJ(H:Sat (OW r mb g cur done N::F) w):done.Nodup/\ ∀n∈done,g n≠none:=by
 obtain⟨_,h⟩:=H.head;obtain⟨es,c,seen,last,m,h1,h2,d,j,y⟩:=h.2.2;exact⟨d.nd,λn v=>by rw[<-j];exact d.sub n v⟩
def Sat.fK(H:Sat (OW r mb g cur done N::F) w):Sat (MapK mb g::F) w:=by
 obtain⟨D,h,hs⟩:=H.step;obtain⟨es,c,seen,last,m,h1,h2,d,j,y⟩:=h.2.2;exact hs w (λi=>i=mb) _ (Ext.refl _ _) ⟨λ_=>Iff.rfl,es,c,m,h2,d.ok,j⟩ λi v=>.inl ((h.1 i).2 (.inr v))
def Wp(H:Sat (MapK mb g::F) w){K:Nat->World->Prop}(J: ∀r N w',Sat (OW r mb g none [] N::F) w'->K r w'): ∃v,RY w (some mb) v/\AL (Lm (some mb) v) w K:=by
 obtain⟨es,c,m,h1,h2,y⟩:=H.Tp;refine⟨c,⟨es,h1⟩,BS λw' O hs he=> ?_⟩;obtain⟨D,h,j⟩:=H.step;have T:mb<w.heap.size:=F4 h1;refine J _ (Ig es #[]) w' (j w' (λi=>i=w.heap.size∨i=mb) _ (he.mono λ_ _ f=>f.elim) ⟨λ_=>Iff.rfl,by omega,es,c,#[],c,m,O,he.obj h1 λf=>f,⟨h2,.inl rfl,List.nodup_nil,(λn d=>by cases d),(λe _=>by simp),(λn d=>by cases d)⟩,y,rfl⟩ ?_);rintro i (rfl|rfl)
 .exact .inr (Nat.le_refl _)
 .exact .inl ((h.1 _).2 rfl)
def Qy(H:Sat (OW r mb g cur done N::F) w){Kn:World->Prop}{Ks:Value->Value->World->Prop}(h0: ∀w',Sat (OW r mb g cur done N::F) w'->(∀n,n∈done↔g n≠none)->Kn w')
  (h1: ∀n v w' N',g n=some v->n∉done->N'<N->Sat (OW r mb g (some n) (done++[n]) N'::F) w'->Ks (.agg ⟨NF n⟩) v w'):WR r w Kn Ks:=by
 have HN: ∀w',(w'=w∨w'=w.drew)->Sat (OW r mb g cur done N::F) w':=λw' h=>by rcases h with rfl|rfl;exact H;exact H.drew
 obtain⟨D,h,_⟩:=H.step;obtain⟨es,c,seen,last,m,g1,g2,g3,g4,g5⟩:=h.2.2;refine⟨some mb,c,seen,last,g1,es,c,g2,?_,?_,?_⟩
 .rcases g3.lst with hl|rfl
  .simp[hl]
  .by_cases he:es.isEmpty=true
   .simp[he]
   .have:es.all (λx=>decide (x.born≥last))=false:=by
     have aP:0<es.size:=Nat.pos_of_ne_zero λe=>he (by grind);have hm:es[0]∈es.toList:=by simp
     have:=g3.ok.lt _ hm
     grind
    simp[this]
 .intro w' y O;refine h0 w' (HN w' y) λn=>⟨λT=>by rw[<-g4];exact g3.sub n T,λT=> ?_⟩;have hf:(leftOf es seen).filter (λx=>decide (x.born<c))=leftOf es seen:=by
   apply Array.filter_eq_self.2;intro e he;exact decide_eq_true (g3.ok.lt e (HF.1 he).1)
  rw[hf]at O;rw[<-g4]at T;cases hg:kget m n with
  | none=>grind
  | some v=>
   obtain⟨e,he,hk,hv⟩:=g3.ok.Ss hg;have hs:seen.contains e.born=true:=by
    cases hsc:seen.contains e.born with
    | true=>rfl
    | false=>
     have:e∈leftOf es seen:=HF.2 ⟨he,hsc⟩
     grind
   obtain⟨n',d,j⟩:=(g3.met e he).1 hs;rw[hk]at j;rw[nD j];exact d
 .intro w' e y he;obtain⟨q1,q2⟩:=HF.1 he;obtain⟨n,J,aF⟩:=g3.ok.Pn q1;rw[J];have aI:n∉done:=λT=>by
   have:=(g3.met e q1).2 ⟨n,T,J⟩
   grind
  have K:Ig es (seen.push e.born)<Ig es seen:=by
   unfold Ig;refine filter_lt (λx _ hx=> ?_) ⟨e,q1,by grind,by simp⟩
   grind
  refine h1 n e.val _ (Ig es (seen.push e.born)) (by rw[<-g4];exact aF) aI (by rw[<-g5];exact K) ?_;obtain⟨D',h',aJ⟩:=(HN w' y).step;have Y:Ext AP w w':=by rcases y with rfl|rfl;exact Ext.refl _ _;exact Ext.drew _ _
  have aE:=Y.obj g2 λf=>f;have aH:r<w'.heap.size:=by have:=F4 g1;have:=Y.size;omega
  refine aJ _ D' _ ((Ext.Gd w' r _).mono λi _ hi=>(h'.1 i).2 (.inl hi)) ⟨h'.1,h'.2.1,es,c,seen.push e.born,c,m,?_,?_,⟨g3.ok,.inr rfl,?_,?_,?_,?_⟩,g4,rfl⟩ λi hi=>.inl hi
  .simp[World.Gd,aH]
  .exact(Ext.Gd w' r _).obj aE λe:mb=r=>h'.2.1 e.symm
  .rw[List.nodup_append];exact⟨g3.nd,by simp,λa ha b hb=>by simp at hb;subst hb;rintro rfl;grind⟩
  .intro n' d;rcases List.mem_append.1 d with h|h
   .exact g3.sub n' h
   grind
  .intro x hx;constructor
   .intro hs;simp at hs;rcases hs with hs|hs
    .obtain⟨n',d,j⟩:=(g3.met x hx).1 (by grind)
     grind
    .have:x=e:=KH g3.ok.born hx q1 hs
     grind
   .rintro⟨n',d,j⟩;rcases List.mem_append.1 d with h|h
    .have:=(g3.met x hx).2 ⟨n',h,j⟩
     grind
    .simp at h;subst h;have:x=e:=g3.ok.key_inj hx q1 (by grind)
     grind
  grind
def Tq{n:Kd}(H:Sat (OW r mb g (some n) done N::F) w){K:Value->Value->HB->Prop}(j: ∀v S,g n=some v->K (.agg ⟨NF n⟩) v S):rK r w K:=by
 obtain⟨_,h⟩:=H.head;obtain⟨es,c,seen,last,m,g1,g2,g3,g4,g5⟩:=h.2.2;obtain⟨rfl,e,he,d,hk,y⟩:=g3.cur n rfl;refine⟨mb,last,last,seen,es,last,e.born,e,⟨g1,g2⟩,d,rfl,g3.ok.Qw he,?_⟩
 grind
end
end Go.Sh

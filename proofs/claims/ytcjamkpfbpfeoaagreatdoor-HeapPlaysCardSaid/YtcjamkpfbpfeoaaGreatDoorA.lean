/- What a law's arguments are, read once for all. No further condition. -/
import Derived.Test.YtcjamkpfbpfeoaaGreatDoorM
import Derived.WalkKit
import Derived.ProofKit
import Derived.OpenShut
import Derived.ChangeOld
import Derived.Below
import Derived.Carry
import Derived.DataReads
import Derived.Test.YtcjamkpfbpfeoaaGreatDoorSh
import Derived.Lib.TrailingZeros
set_option linter.all false
namespace Go.Sh
open Go.ChangeShapes Go.WideShapes Go.ChangeAt Go.RowKit
inductive AT where
 | int (k:IntKind)|bool|sl (e:AT)|nil|cons (f r:AT)
def AT.size:AT->Nat
 | .int _=>1| .bool=>1| .sl _=>1| .nil=>0| .cons f r=>f.size+r.size
def R7(w:World):AT->List Value->Prop
 | .int k,cs=> ∃n,cs=[.int k n]/\(Lit.int k n).wf=true
 | .bool,cs=> ∃b,cs=[.bool b]
 | .sl e,cs=> ∃s:AZ,cs=[.slice s.base s.len s.cap]/\s.len<=s.cap/\s.cap<=maxLen/\
   ∀j,j<s.len-> ∃x l,s.base=some x/\l.length=e.size/\(∀i v,l[i]? =some v->w.cell? (x.add (j*e.size+i))=some v)/\R7 w e l
 | .nil,cs=>cs=[]
 | .cons f r,cs=> ∃a b,cs=a++b/\R7 w f a/\R7 w r b
def shapeF(P:Program)(sh:TypeId->Option AT):List Field->Nat->Option AT
 | [],_=>some .nil
 | f::r,off=>match Nat.beq f.offset off with
  | true=>match sh f.type with
   | some a=>match Nat.beq a.size (P.cellsOf f.type)with
    | true=>match shapeF P sh r (off+a.size)with
     | some b=>some (.cons a b)
     | none=>none
    | false=>none
   | none=>none
  | false=>none
def shapeP(P:Program):Nat->TypeId->Option AT
 | 0,_=>none
 | n+1,t=>match P.underlying t with
  | some .bool=>some .bool
  | some (.int k)=>some (.int k)
  | some (.slice e)=>match shapeP P n e with
   | some a=>match Nat.beq a.size (P.cellsOf e)with
    | true=>some (.sl a)
    | false=>none
   | none=>none
  | some (.struct fs)=>match shapeF P (shapeP P n) fs.toList 0 with
   | some a=>match Nat.beq a.size (P.cellsOf t)with
    | true=>some a
    | false=>none
   | none=>none
  | _=>none
section
variable{H:Type}{enc:TypeId×Value->H}{P:Program}{w:World}{base:Nat}{sp:Nat->Bool}{held:Bool}
theorem ZZ{w:World}{base:Nat}{a:Addr}{n:Nat}{l:List Value}(h:w.cells? base a n=some l):l.length=n/\ ∀i v,l[i]? =some v->w.cell? (a.add i)=some v:=by
 unfold World.cells? at h;split at h
 ·have key: ∀(m:Nat) (k:Nat) (l:List Value),((List.range' k m).mapM fun i=>w.cell? (a.add i))=some l->l.length=m/\ ∀i v,l[i]? =some v->w.cell? (a.add (k+i))=some v:=by
   intro m
   induction m with
   | zero=>intro k l h;simp at h;subst h;simp
   | succ m ih=>
    intro k l h;rw[List.range'_succ,List.mapM_cons]at h;cases hx:w.cell? (a.add k)with
    | none=>simp[hx]at h
    | some y=>
     cases hl:(List.range' (k+1) m).mapM fun i=>w.cell? (a.add i)with
     | none=>simp[hx,hl]at h
     | some ys=>
      simp[hx,hl]at h;subst h;obtain⟨h1,j⟩:=ih (k+1) ys hl;refine⟨by simp[h1],fun i v d=> ?_⟩;cases i with
      | zero=>simp at d;subst d;simpa using hx
      | succ i=>have:=j i v (by simpa using d);rw[show k+(i+1)=k+1+i from by omega];exact this
  rw[List.range_eq_range']at h;have:=key n 0 l h;simpa using this
 ·cases h
theorem Nc{sh:TypeId->Option AT}{tr:TypeId->List Value->Prop}(v: ∀t a cs,sh t=some a->tr t cs->R7 w a cs):
  ∀(y:List Field) (off:Nat) (a:AT) (cs:List Value),shapeF P sh y off=some a->cs.length=off+a.size->(∀f∈y,tr f.type ((cs.drop f.offset).take (P.cellsOf f.type)))->R7 w a (cs.drop off)
 | [],off,a,cs,h,hl,_=>by
  simp only[shapeF,Option.some.injEq]at h;subst h;show cs.drop off=[];rw[List.drop_eq_nil_iff];simp[AT.size]at hl;omega
 | f::r,off,a,cs,h,hl,ht=>by
  unfold shapeF at h;split at h
  ·rename_i d;have d:=Nat.eq_of_beq_eq_true d;split at h
   ·rename_i a1 ha1;split at h
    ·rename_i j;have j:=Nat.eq_of_beq_eq_true j;split at h
     ·rename_i b hb;cases h;have h1:=v _ _ _ ha1 (ht f (by simp));have C:=Nc v r (off+a1.size) b cs hb (by simp[AT.size]at hl;omega) (fun g J=>ht g (by simp[J]));refine⟨_,_,?_,h1,C⟩;rw[d,<-j,<-List.drop_drop];exact(List.take_append_drop _ _).symm
     ·cases h
    ·cases h
   ·cases h
  ·cases h
theorem Kx: ∀(n:Nat) (t:TypeId) (a:AT) (cs:List Value),shapeP P n t=some a->(∃m x,DataW.trod enc P w base sp held m t cs=some x)->R7 w a cs
 | 0,_,_,_,h,_=>by simp[shapeP]at h
 | n+1,t,a,cs,h,⟨m,x,T⟩=>by
  unfold shapeP at h;split at h
  ·rename_i hu;cases h;obtain⟨b,hb,_⟩:=DataW.trod_bool hu T;exact⟨b,hb⟩
  ·rename_i k hu;cases h;obtain⟨z,hb,_,hw⟩:=DataW.trod_int hu T;exact⟨z,hb,hw⟩
  ·rename_i e hu;split at h
   ·rename_i a1 ha1;split at h
    ·rename_i d;have d:=Nat.eq_of_beq_eq_true d;cases h;rcases DataW.trod_slice hu T with ⟨h1,_⟩|⟨p,len,cap,elems,rest,m',_,aE,_,_,aC,Y,aI,y,_⟩
     ·exact⟨⟨none,0,0⟩,h1,Nat.le_refl _,Nat.zero_le _,fun j C=>by cases C⟩
     ·refine⟨⟨some p,len,cap⟩,aE,aC,Y,fun j C=> ?_⟩;have C:j<len:=C;have K:=y j C;rw[List.getElem?_eq_getElem (by omega)]at K;cases hl:w.cells? base (p.add (j*P.cellsOf e)) (P.cellsOf e)with
      | none=>rw[hl]at K;cases K
      | some l=>
       rw[hl]at K;obtain⟨g1,g2⟩:=ZZ hl;refine⟨p,l,rfl,by omega,fun i v hv=> ?_,Kx n e a1 l ha1 ⟨m',_,K⟩⟩;have:=g2 i v hv;rw[d,<-add_add];exact this
    ·cases h
   ·cases h
  ·rename_i fs hu;split at h
   ·rename_i a1 ha1;split at h
    ·rename_i d;have d:=Nat.eq_of_beq_eq_true d;cases h;obtain⟨xs,m',_,_,hlen,aF,hf⟩:=DataW.trod_struct hu T;have:=Nc (P:=P) (sh:=shapeP P n) (tr:=fun t cs=> ∃m x,DataW.trod enc P w base sp held m t cs=some x)
      (fun t a cs h1 O=>Kx n t a cs h1 O) fs.toList 0 a cs ha1 (by omega) (fun f aB=>by
       obtain⟨i,hi⟩:=List.mem_iff_getElem?.1 aB;have J:fs[i]? =some f:=by simpa using hi
       have O:=hf i f J;have aA:i<xs.length:=by
        have:=(Array.getElem?_eq_some_iff.1 J).1;omega
       rw[List.getElem?_eq_getElem aA]at O;exact⟨m',_,O⟩)
     simpa using this
    ·cases h
   ·cases h
  ·cases h
def oF(w:World):AT->Value->Prop
 | .int k,v=> ∃n,v= .int k n/\(Lit.int k n).wf=true
 | .bool,v=> ∃b,v= .bool b
 | .sl e,v=> ∃s:AZ,v= .slice s.base s.len s.cap/\R7 w (.sl e) [.slice s.base s.len s.cap]
 | a,v=> ∃l,v= .agg ⟨l⟩/\R7 w a l
def bY(w:World):List AT->List Value->Prop
 | [],vs=>vs=[]
 | a::r,vs=> ∃v s,vs=v::s/\oF w a v/\bY w r s
def shapesP(P:Program):List TypeId->Option (List AT)
 | []=>some []
 | t::r=>match shapeP P 9 t with
  | some a=>match shapesP P r with
   | some l=>some (a::l)
   | none=>none
  | none=>none
theorem Uy{sh:TypeId->Option AT}: ∀{d:List Field} {off:Nat} {a:AT},shapeF P sh d off=some a->a= .nil∨ ∃f r,a= .cons f r
 | [],_,_,h=>by simp[shapeF]at h;exact .inl h.symm
 | f::r,off,a,h=>by
  unfold shapeF at h
  repeat' split at h
  all_goals first
   | (cases h;done)
   | (cases h;exact .inr ⟨_,_,rfl⟩)
theorem oG{r:Reach}{b0:Nat}{n:Nat}{t:TypeId}{a:AT}{v:Value}{d:DataW H}{T:List MemPlace}(hs:shapeP P n t=some a)(j:Value.okWide P w r b0 t v)
  (O:DataW.Trod enc P w base sp held t v d T):oF w a v:=by
 obtain⟨m,hm⟩:=O;have C:=Kx n t a v.cells.toList hs ⟨m,_,hm⟩;cases n with
 | zero=>simp[shapeP]at hs
 | succ n=>
 unfold shapeP at hs;split at hs
 ·rename_i hu;cases hs;obtain⟨b,rfl⟩:=okWide_bool hu j;exact⟨b,rfl⟩
 ·rename_i k hu;cases hs;obtain⟨z,rfl⟩:=okWide_int hu j;obtain⟨Y,h1,J⟩:=C;simp[Value.cells]at h1;subst h1;exact⟨z,rfl,J⟩
 ·rename_i e hu;obtain⟨x,l,c,rfl⟩:=okWide_slice hu j;split at hs
  ·split at hs
   ·cases hs;exact⟨⟨x,l,c⟩,rfl,C⟩
   ·cases hs
  ·cases hs
 ·rename_i fs hu;obtain⟨cs,rfl,K⟩:=okWide_struct hu j;split at hs
  ·rename_i a1 y;split at hs
   ·cases hs;have:R7 w a cs.toList:=C;rcases Uy y with rfl|⟨f,r,rfl⟩
    ·exact⟨cs.toList,rfl,this⟩
    ·exact⟨cs.toList,rfl,this⟩
   ·cases hs
  ·cases hs
 ·cases hs
theorem YA{r:Reach}{b0:Nat}: ∀{C:List TypeId} {shs:List AT} {vs:List Value} {y:List (DataW H)} {p:List MemPlace},shapesP P C=some shs->
  (∀(j:Nat) t v,C[j]? =some t->vs[j]? =some v->Value.okWide P w r b0 t v)->DataW.TrodAll enc P w base sp held C vs y p->bY w shs vs
 | [],shs,vs,y,p,hs,_,h=>by
  simp[shapesP]at hs;subst hs;cases vs with
  | nil=>rfl
  | cons v vs=>cases y<;>simp[DataW.TrodAll]at h
 | t::C,shs,vs,y,p,hs,hval,h=>by
  unfold shapesP at hs;split at hs
  ·rename_i a ha;split at hs
   ·rename_i l hl;cases hs;cases vs with
    | nil=>cases y<;>simp[DataW.TrodAll]at h
    | cons v vs=>
     cases y with
     | nil=>simp[DataW.TrodAll]at h
     | cons d y=>
      obtain⟨p1,q1,h1,J,_⟩:=h;exact⟨v,vs,rfl,oG ha (hval 0 t v rfl rfl) h1,YA hl (fun j T Y O K=>hval (j+1) T Y (by simpa using O) (by simpa using K)) J⟩
   ·cases hs
  ·cases hs
def Lo(P:Program):List TypeId->Bool
 | []=>true
 | t::r=>match P.readableRec t with
  | true=>match Nat.ble (t+1) P.types.size with
   | true=>Lo P r
   | false=>false
  | false=>false
theorem Mn(J:laidOutB P=true){W W':World}(O:Below W.heap.size W W'): ∀{y:List TypeId} {vs:List Value} {j:List (DataW H)} {p:List MemPlace},Lo P y=true->
  DataW.TrodAll enc P W 0 (fun _=>true) true y vs j p->DataW.TrodAll enc P W' 0 (fun b=>decide (b<W.heap.size)) true y vs j p
 | [],vs,j,p,_,h=>by
  cases vs<;>cases j<;>simp[DataW.TrodAll]at h⊢ <;>exact h
 | t::y,vs,j,p,hr,h=>by
  unfold Lo at hr;split at hr
  ·rename_i h1;split at hr
   ·rename_i C;have C:=Nat.le_of_ble_eq_true C;cases vs with
    | nil=>cases j<;>simp[DataW.TrodAll]at h
    | cons v vs=>
     cases j with
     | nil=>simp[DataW.TrodAll]at h
     | cons d j=>
      obtain⟨T,q1,K,Y,k3⟩:=h;exact⟨T,q1,Below.trod J h1 C K O (by obtain⟨m,hm⟩:=K;exact DataW.trod_lt m _ _ _ hm),Mn J O hr Y,k3⟩
   ·cases hr
  ·cases hr
theorem PD: ∀{y:List TypeId} {vs:List Value} {j:List (DataW H)} {p:List MemPlace},DataW.TrodAll enc P w base sp held y vs j p->j.length=y.length
 | [],vs,j,p,h=>by cases vs<;>cases j<;>simp[DataW.TrodAll]at h⊢
 | t::y,vs,j,p,h=>by
  cases vs with
  | nil=>cases j<;>simp[DataW.TrodAll]at h
  | cons v vs=>
   cases j with
   | nil=>simp[DataW.TrodAll]at h
   | cons d j=>
    obtain⟨O,J,T,C,K⟩:=h;simp[PD C]
end
def Nd:AT->Type
 | .int _=>Int| .bool=>Bool| .sl _=>AZ| .nil=>Unit| .cons f r=>Nd f×Nd r
def Nd.bJ:(a:AT)->Nd a
 | .int _=>(0:Int)| .bool=>false| .sl _=>(⟨none,0,0⟩:AZ)| .nil=>()| .cons f r=>(Nd.bJ f,Nd.bJ r)
def MV:(a:AT)->Nd a->List Value
 | .int k,n=>[.int k n]
 | .bool,b=>[.bool b]
 | .sl _,s=>[.slice (AZ.base s) (AZ.len s) (AZ.cap s)]
 | .nil,_=>[]
 | .cons f r,x=>MV f x.1++MV r x.2
def Nf(w:World)(e:AT)(ok:Nd e->Prop)(s:AZ)(z:Nat->Nd e):Prop:=s.len<=s.cap/\s.cap<9223372036854775808/\
 ∀j,j<s.len-> ∃x,s.base=some x/\(∀i v,(MV e (z j))[i]? =some v->w.cell? (x.add (j*e.size+i))=some v)/\ok (z j)
def Uz(w:World):(a:AT)->Nd a->Prop
 | .int k,n=>(Lit.int k n).wf=true
 | .bool,_=>True
 | .sl e,s=> ∃z,Nf w e (Uz w e) s z
 | .nil,_=>True
 | .cons f r,x=>Uz w f x.1/\Uz w r x.2
abbrev Lp(w:World)(e:AT):AZ->(Nat->Nd e)->Prop:=Nf w e (Uz w e)
theorem KY{w:World}:(a:AT)->(cs:List Value)->R7 w a cs-> ∃x:Nd a,cs=MV a x/\Uz w a x
 | .int k,cs,h=>let⟨n,h1,d⟩:=h;⟨n,h1,d⟩
 | .bool,cs,h=>let⟨b,h1⟩:=h;⟨b,h1,trivial⟩
 | .sl e,cs,h=>by
  obtain⟨s,h1,d,h3,K⟩:=h;have key: ∀j,∃y:Nd e,j<s.len-> ∃x,s.base=some x/\(∀i v,(MV e y)[i]? =some v->w.cell? (x.add (j*e.size+i))=some v)/\Uz w e y:=by
   intro j;by_cases C:j<s.len
   ·obtain⟨x,l,Y,g2,O,g4⟩:=K j C;obtain⟨y,rfl,J⟩:=KY e l g4;exact⟨y,fun _=>⟨x,Y,O,J⟩⟩
   ·exact⟨Nd.bJ e,fun h=>absurd h C⟩
  refine⟨s,h1,fun j=>Classical.choose (key j),d,?_,fun j C=>Classical.choose_spec (key j) C⟩;have:maxLen=9223372036854775807:=by decide
  omega
 | .nil,cs,h=>⟨(),h,trivial⟩
 | .cons f r,cs,h=>by
  obtain⟨a,b,rfl,h1,d⟩:=h;obtain⟨x,rfl,T⟩:=KY f a h1;obtain⟨y,rfl,J⟩:=KY r b d;exact⟨(x,y),rfl,T,J⟩
def elV:(a:AT)->Nd a->Value
 | .int k,n=>.int k n
 | .bool,b=>.bool b
 | .sl _,s=>.slice (AZ.base s) (AZ.len s) (AZ.cap s)
 | .nil,_=>.agg ⟨[]⟩
 | .cons f r,x=>.agg ⟨MV (.cons f r) x⟩
theorem Wq{w:World}{a:AT}{v:Value}(h:oF w a v): ∃x:Nd a,v=elV a x/\Uz w a x:=by
 cases a with
 | int k=>exact h
 | bool=>obtain⟨b,h⟩:=h;exact⟨b,h,trivial⟩
 | sl e=>
  obtain⟨s,rfl,h⟩:=h;obtain⟨s',h1,y⟩:=KY _ _ h;have d:[Value.slice s.base s.len s.cap]=[Value.slice (AZ.base s') (AZ.len s') (AZ.cap s')]:=h1;simp only[List.cons.injEq,Value.slice.injEq,and_true]at d;obtain⟨C,j,K⟩:=d;refine⟨s',?_,y⟩;show Value.slice s.base s.len s.cap=Value.slice (AZ.base s') (AZ.len s') (AZ.cap s');rw[C,j,K]
 | nil=>obtain⟨l,rfl,h⟩:=h;have:l=[]:=h;subst this;exact⟨(),rfl,trivial⟩
 | cons f r=>
  obtain⟨l,rfl,h⟩:=h;obtain⟨x,rfl,J⟩:=KY _ _ h;exact⟨x,rfl,J⟩
def U0:List AT->Type
 | []=>Unit
 | a::r=>Nd a×U0 r
def Pz:(l:List AT)->U0 l->List Value
 | [],_=>[]
 | a::r,x=>elV a x.1::Pz r x.2
def Wr(w:World):(l:List AT)->U0 l->Prop
 | [],_=>True
 | a::r,x=>Uz w a x.1/\Wr w r x.2
theorem Qg{w:World}:{l:List AT}->{vs:List Value}->bY w l vs-> ∃x:U0 l,vs=Pz l x/\Wr w l x
 | [],vs,h=>⟨(),h,trivial⟩
 | a::r,vs,h=>by
  obtain⟨v,s,rfl,h1,j⟩:=h;obtain⟨x,rfl,d⟩:=Wq h1;obtain⟨y,rfl,C⟩:=Qg j;exact⟨(x,y),rfl,d,C⟩
theorem TY{n:Int}(h:(Lit.int .u64 n).wf=true):0<=n/\n<18446744073709551616:=by
 have h1:(decide (IntKind.u64.min<=n)&&decide (n<=IntKind.u64.max))=true:=h;rw[Bool.and_eq_true,decide_eq_true_iff,decide_eq_true_iff]at h1;have d:IntKind.u64.min=0:=by decide
 have j:IntKind.u64.max=18446744073709551615:=by decide
 omega
theorem oH{n:Int}(h:(Lit.int .i64 n).wf=true): -9223372036854775808<=n/\n<9223372036854775808:=by
 have h1:(decide (IntKind.i64.min<=n)&&decide (n<=IntKind.i64.max))=true:=h;rw[Bool.and_eq_true,decide_eq_true_iff,decide_eq_true_iff]at h1;have d:IntKind.i64.min= -9223372036854775808:=by decide
 have j:IntKind.i64.max=9223372036854775807:=by decide
 omega
theorem Nf.bZ{w:World}{k:IntKind}{ok:Int->Prop}{s:AZ}{z:Nat->Int}(h:Nf w (.int k) ok s z){j:Nat}(d:j<s.len): ∃x,s.base=some x/\w.cell? (x.add j)=some (.int k (z j))/\ok (z j):=by
 obtain⟨x,h1,v,y⟩:=h.2.2 j d;have:=v 0 _ rfl;simp only[AT.size,Nat.mul_one,Nat.add_zero]at this;exact⟨x,h1,this,y⟩
theorem Nf.nB{w:World}{ok:Bool->Prop}{s:AZ}{z:Nat->Bool}(h:Nf w .bool ok s z){j:Nat}(d:j<s.len): ∃x,s.base=some x/\w.cell? (x.add j)=some (.bool (z j)):=by
 obtain⟨x,h1,v,y⟩:=h.2.2 j d;have:=v 0 _ rfl;simp only[AT.size,Nat.mul_one,Nat.add_zero]at this;exact⟨x,h1,this⟩
end Go.Sh
set_option linter.all false
set_option maxRecDepth 4000
namespace Go.Sh
theorem Sat.DR{P0:Pr}{Ps:List Pr}{w:World}{P:Pr}(i:Nat)(H:Sat (P0::Ps) w)(hi:Ps[i]? =some P):Sat (P0::P::Ps.eraseIdx i) w:=H.perm ((Dm hi).cons P0)
theorem Sat.Ng{P0 P':Pr}{Ps:List Pr}{w:World}(i:Nat)(H:Sat (P0::P'::Ps.eraseIdx i) w)(hi:i<Ps.length:=by simp):Sat (P0::Ps.set i P') w:=H.perm ((Oe hi).cons P0)
def YB:Pr where
 holds D _:= ∀k,¬D k
 loc h _ _:=h
 lt h hk:=(h _ hk).elim
theorem Sat.emp{F:List Pr}{w:World}(H:Sat F w):Sat (YB::F) w:=H.new (P:=YB) (D:=fun _=>False) (Ext.refl _ _) (fun _ f=>f) fun _ f=>f.elim
def flags(n:Nat)(u:Int->Bool):List Value:=(List.range n).map fun i:Nat=>.bool (u i)
theorem Gd{n:Nat}{u:Int->Bool}{i:Nat}(hi:i<n):(flags n u)[i]? =some (.bool (u i)):=by simp[flags,hi]
theorem Je{n:Nat}{u:Int->Bool}{i:Int}(h0:0<=i)(hi:i<n):(flags n u)[0+i.toNat]? =some (.bool (u i)):=by
 rw[Nat.zero_add,Gd (by omega)];rw[show((i.toNat:Nat):Int)=i by omega]
theorem KZ{n:Nat}{u:Int->Bool}{i:Int}(h0:0<=i)(v:Bool):(flags n u).set (0+i.toNat) (.bool v)=flags n fun j=>if j=i then v else u j:=by
 rw[Nat.zero_add];apply List.ext_getElem?;intro j;rw[List.getElem?_set];by_cases hj:j<n
 ·rw[Gd hj,Gd hj];simp only[flags,List.length_map,List.length_range];by_cases e:i.toNat=j
  ·rw[if_pos e,if_pos (by omega),if_pos (by omega)]
  ·rw[if_neg e,if_neg (by omega)]
 ·simp only[flags,List.length_map,List.length_range];simp[hj];omega
theorem BA{n:Nat}{u:Int->Bool}:(flags n u).length=n:=by simp[flags]
theorem U1{v:Value}{n i:Nat}(hi:i<n):(Hx #[v] n)[i]? =some v:=by
 unfold Hx;simp[hi,Nat.mod_one]
theorem TZ(n:Nat):Hx #[.bool false] n=⟨flags n fun _=>false⟩:=by
 apply Array.ext';apply List.ext_getElem?;intro i;by_cases hi:i<n
 ·rw[Gd hi];simpa using U1 (v:=.bool false) hi
 ·rw[List.getElem?_eq_none (by simp[Hx];omega),List.getElem?_eq_none (by simp[flags];omega)]
def ints(k:IntKind)(l:List Int):List Value:=l.map fun n=>.int k n
theorem Iz{k:IntKind}{l:List Int}{i:Nat}{n:Int}(h:l[i]? =some n):(ints k l)[i]? =some (.int k n):=by simp[ints,h]
def A6(l:List Bool):List Value:=l.map fun b=>.bool b
theorem JR{l:List Bool}{i:Nat}{n:Bool}(h:l[i]? =some n):(A6 l)[i]? =some (.bool n):=by simp[A6,h]
def Ef(b:Nat)(k:IntKind)(g:Int->Option Value):Pr where
 holds D w:=(∀i,D i↔i=b)/\ ∃es c m,w.heap[b]? =some (.map es c)/\MapI k es c m/\ ∀i,aget m i=g i
 loc h he hS:=⟨h.1,let⟨es,c,m,h1,h2⟩:=h.2;⟨es,c,m,he.obj h1 (hS _ ((h.1 _).2 rfl)),h2⟩⟩
 lt h hk:=by have:=(h.1 _).1 hk;subst this;obtain⟨es,c,m,h1,_⟩:=h.2;exact FU h1
section
variable{F:List Pr}{w w':World}{b:Nat}{k:IntKind}{g:Int->Option Value}
theorem cA(H:Sat F w)(k:IntKind){K:Nat->World->Prop}(d: ∀b w',Sat (Ef b k (fun _=>none)::F) w'->Ext AN w w'->K b w'):AL (.map #[] 0) w K:=
 BK fun w' j hs he=>d _ _ (H.new (P:=Ef w.heap.size k fun _=>none) (D:=fun k=>k=w.heap.size) he ⟨fun _=>Iff.rfl,_,_,[],j,MapI.empty k,fun _=>rfl⟩ fun k v=>by omega) he
theorem Sat.Nh(H:Sat (Ef b k g::F) w): ∃es c m,w.heap[b]? =some (.map es c)/\MapI k es c m/\ ∀i,aget m i=g i:=let⟨_,h⟩:=H.head;h.2
theorem Of(H:Sat (Ef b k g::F) w){n:Int}{z:Value}{K:Value->Bool->Array MapEntry->Prop}(j: ∀es,w.heap[b]? =some (.map es (es.size))∨True->K ((g n).getD z) (g n).isSome es):bB k n (some b) w z K:=by
 obtain⟨es,c,m,h1,d,v⟩:=H.Nh;refine KV h1 d ?_;rw[v];exact j es (.inr trivial)
theorem Sat.mapStep(H:Sat (Ef b k g::F) w){d:Array MapEntry}{j:Nat}{m':List (Int×Value)}{g':Int->Option Value}(he:Ext (Ix b) w w')(h1:w'.heap[b]? =some (.map d j))(v:MapI k d j m')(C: ∀i,aget m' i=g' i):
  Sat (Ef b k g'::F) w':=by
 obtain⟨D,h,hs⟩:=H.step;exact hs w' D _ (he.mono fun i _ hi=>(h.1 i).2 hi) ⟨h.1,d,j,m',h1,v,C⟩ fun k y=>.inl y
theorem Ta(H:Sat (Ef b k g::F) w){n:Int}{v:Value}{K:World->Prop}(y: ∀w',Sat (Ef b k (fun i=>if i=n then some v else g i)::F) w'->K w'):R5 k n v (some b) w K:=by
 obtain⟨es,c,m,h1,d,T⟩:=H.Nh;refine Qd h1 d fun w' j Y m' O C J _ _ _ he _=>y w' (H.mapStep he O C fun i=> ?_);rw[J,T]
theorem Tb(H:Sat (Ef b k g::F) w){n:Int}{K:World->Prop}(v: ∀w',Sat (Ef b k (fun i=>if i=n then none else g i)::F) w'->K w'):MDEL k n (some b) w K:=by
 obtain⟨es,c,m,h1,d,O⟩:=H.Nh;refine M3 h1 d fun w' j m' J y C _ _ _ he _=>v w' (H.mapStep he J y fun i=> ?_);rw[C,O]
end
def IJ(s:AZ)(vs:List Value):Pr where
 holds D w:=(∀k,D k↔Nb s k)/\s.len<=s.cap/\vs.length=s.len/\s.cap<9223372036854775808/\(∀a,s.base=some a->a.block<w.heap.size)/\rowAt w s.base s.len vs
 loc h he hS:=⟨h.1,h.2.1,h.2.2.1,h.2.2.2.1,fun a d=>by have:=h.2.2.2.2.1 a d;have:=he.size;omega,ZV h.2.2.2.2.2 he fun a d _=>hS _ ((h.1 _).2 ⟨a,d,rfl⟩)⟩
 lt h hk:=by obtain⟨a,d,rfl⟩:=(h.1 _).1 hk;exact h.2.2.2.2.1 a d
section
variable{F:List Pr}{w w':World}{t:Nat}{s:AZ}{vs:List Value}
theorem Sat.iD(H:Sat (Row t 1 s vs::F) w):Sat (IJ s vs::F) w:=by
 obtain⟨D,h,hs⟩:=H.step;have d:=h.2;refine hs w D _ (Ext.refl _ _) ⟨h.1,d.cap,by simpa using d.len,d.top,fun a j=>(d.lt j).2.1,by simpa using d.rowAt⟩ fun k v=>.inl v
theorem Sat.Ky(H:Sat (IJ s vs::F) w):vs.length=s.len/\s.len<=s.cap/\s.cap<9223372036854775808:=let⟨_,h⟩:=H.head;⟨h.2.2.1,h.2.1,h.2.2.2.1⟩
theorem Sat.Lq(H:Sat (IJ s vs::F) w){j:Nat}{v:Value}(y:vs[j]? =some v): ∃a,s.base=some a/\w.cell? (a.add j)=some v:=by
 obtain⟨D,h⟩:=H.head;have d:=h.2.2.2.2.2;cases hb:s.base with
 | none=>rw[hb]at d;have:vs=[]:=d;subst this;simp at y
 | some a=>rw[hb]at d;exact⟨a,rfl,d.2 j v y⟩
theorem YC{b:Option Addr}{c m z:Nat}{k:Nat}:(∃a,Gp b c m z=some a/\k=a.block)↔ ∃a,b=some a/\k=a.block:=by
 unfold Gp;split
 ·exact Iff.rfl
 ·cases b with
  | none=>simp
  | some a=>simp[SZ]
theorem Sat.Lr(H:Sat (IJ s vs::F) w){n:Nat}(v:n<=s.len):Sat (IJ ⟨Gp s.base s.cap n 1,s.len-n,s.cap-n⟩ (vs.drop n)::F) w:=by
 obtain⟨D,h,hs⟩:=H.step;refine hs w D _ (Ext.refl _ _) ⟨fun k=> ?_,?_,?_,?_,?_,?_⟩ fun k C=>.inl C
 ·rw[h.1];exact YC.symm
 ·simp only;have:=h.2.1;omega
 ·simp only[List.length_drop,h.2.2.1]
 ·simp only;have:=h.2.2.2.1;omega
 ·intro a j;obtain⟨y,d,e⟩:=(YC (k:=a.block)).1 ⟨a,j,rfl⟩;rw[e];exact h.2.2.2.2.1 y d
 ·have:=Ja (z:=1) h.2.2.2.2.2 (by simp) v h.2.1 h.2.2.1;simpa using this
theorem Sat.iE{F:List Pr}{w:World}(H:Sat F w):Sat (IJ ⟨none,0,0⟩ []::F) w:=
 H.new (P:=IJ ⟨none,0,0⟩ []) (D:=Nb ⟨none,0,0⟩) (Ext.refl _ _) ⟨fun _=>Iff.rfl,Nat.le_refl _,rfl,by decide,fun _ h=>(by cases h),rfl⟩ fun k j=>by obtain⟨a,d,_⟩:=j;cases d
end
abbrev xH:=Int->Option (Nat×(Int->Int))
def KM(n:Nat)(G:xH):Pr where
 holds D w:=(∀k,D k↔ ∃p x,G p=some x/\k=x.1)/\(∀p q x y,G p=some x->G q=some y->x.1=y.1->p=q)/\
  ∀p x,G p=some x->x.1<w.heap.size/\ ∀j:Nat,j<n->w.cell? ⟨x.1,j,none⟩=some (.int .u64 (x.2 j))/\w.frozen? ⟨x.1,j,none⟩=false
 loc h he hS:=⟨h.1,h.2.1,fun p x hp=>⟨by have:=(h.2.2 p x hp).1;have:=he.size;omega,fun j d=>⟨he.cell ((h.2.2 p x hp).2 j d).1 (hS _ ((h.1 _).2 ⟨p,x,hp,rfl⟩)),by
  rw[he.frozen (p:=⟨x.1,j,none⟩) (h.2.2 p x hp).1 (hS _ ((h.1 _).2 ⟨p,x,hp,rfl⟩))];exact((h.2.2 p x hp).2 j d).2⟩⟩⟩
 lt h hk:=by obtain⟨p,x,hp,rfl⟩:=(h.1 _).1 hk;exact(h.2.2 p x hp).1
section
variable{F:List Pr}{w w':World}{n:Nat}{G:xH}
theorem Sat.xI(H:Sat F w)(n:Nat):Sat (KM n (fun _=>none)::F) w:=
 H.new (P:=KM n fun _=>none) (D:=fun _=>False) (Ext.refl _ _) ⟨fun k=>⟨fun f=>f.elim,fun⟨_,_,h,_⟩=>(by cases h)⟩,fun _ _ _ _ h=>(by cases h),fun _ _ h=>(by cases h)⟩ fun _ f=>f.elim
theorem Sat.oJ(H:Sat (KM n G::F) w){p:Int}{x:Nat×(Int->Int)}(hp:G p=some x){j:Nat}(d:j<n):w.cell? ⟨x.1,j,none⟩=some (.int .u64 (x.2 j)):=
 let⟨_,h⟩:=H.head;((h.2.2 p x hp).2 j d).1
theorem Sat.oK(H:Sat (KM n G::F) w){G':xH}(d: ∀p x,G' p=some x->G p=some x):Sat (KM n G'::F) w:=by
 obtain⟨D,h,hs⟩:=H.step;refine hs w (fun k=> ∃p x,G' p=some x/\k=x.1) _ (Ext.refl _ _) ⟨fun _=>Iff.rfl,fun p q x y hp j=>h.2.1 p q x y (d p x hp) (d q y j),fun p x hp=>h.2.2 p x (d p x hp)⟩ fun k v=>.inl ?_;obtain⟨p,x,hp,rfl⟩:=v;exact(h.1 _).2 ⟨p,x,d p x hp,rfl⟩
theorem Sat.xJ{b t:Nat}{vs:List Value}{ws:Int->Int}(H:Sat (Cells b t vs::KM n G::F) w){p:Int}(hp:G p=none)(hv: ∀j:Nat,j<n->vs[j]? =some (.int .u64 (ws j))):
  Sat (KM n (fun q=>if q=p then some (b,ws)else G q)::F) w:=by
 obtain⟨D,T,D2,J,⟨D3,D4,C,hF,Y,v⟩,hd,hD⟩:=H;have get: ∀q x,(if q=p then some (b,ws)else G q)=some x->(q=p/\x=(b,ws))∨(q≠p/\G q=some x):=by
  intro q x h;by_cases e:q=p
  ·rw[if_pos e]at h;cases h;exact .inl ⟨e,rfl⟩
  ·rw[if_neg e]at h;exact .inr ⟨e,h⟩
 have K: ∀q x,G q=some x->x.1≠b:=fun q x d e=>hd b ((J.1 _).2 rfl) ((v _).2 (.inl ((C.1 _).2 ⟨q,x,d,e.symm⟩)));refine⟨fun k=>T k∨D2 k,fun k=>T k∨D3 k,D4,⟨fun k=> ?_,fun q r x y d hr e=> ?_,fun q x d=> ?_⟩,hF,?_,fun k=> ?_⟩
 ·constructor
  ·rintro(h|h)
   ·exact⟨p,(b,ws),by simp,(J.1 k).1 h⟩
   ·obtain⟨q,x,d,rfl⟩:=(C.1 k).1 h;refine⟨q,x,?_,rfl⟩;have:q≠p:=fun e=>by rw[e,hp]at d;cases d
    simp[this,d]
  ·rintro⟨q,x,d,rfl⟩;rcases get q x d with ⟨_,rfl⟩|⟨_,h⟩
   ·exact .inl ((J.1 _).2 rfl)
   ·exact .inr ((C.1 _).2 ⟨q,x,h,rfl⟩)
 ·rcases get q x d with ⟨e1,rfl⟩|⟨e1,h1⟩
  ·rcases get r y hr with ⟨O,rfl⟩|⟨O,h2⟩
   ·rw[e1,O]
   ·exact absurd e.symm (K r y h2)
  ·rcases get r y hr with ⟨O,rfl⟩|⟨O,h2⟩
   ·exact absurd e (K q x h1)
   ·exact C.2.1 q r x y h1 h2 e
 ·rcases get q x d with ⟨_,rfl⟩|⟨_,h⟩
  ·exact⟨J.2.1,fun j hj=>J.2.2 j _ (hv j hj)⟩
  ·exact C.2.2 q x h
 ·rintro k (h|h) h4
  ·exact hd k h ((v k).2 (.inr h4))
  ·exact Y k h h4
 ·show T k∨D2 k↔(T k∨D3 k)∨D4 k;rw[v k,or_assoc]
theorem iF(H:Sat (KM n G::F) w){p:Int}{x:Nat×(Int->Int)}(hp:G p=some x){j:Nat}(hj:j<n){v:Int}{K:World->Prop}
  (hK: ∀w',Sat (KM n (fun q=>if q=p then some (x.1,fun i=>if i=j then v else x.2 i)else G q)::F) w'->K w'):stCells ⟨x.1,j,none⟩ 0 [.int .u64 v] w K:=by
 obtain⟨D,h,hs⟩:=H.step;have T:=h.2.2 p x hp;refine JZ (T.2 j hj).1 (T.2 j hj).2 rfl fun w' d=>hK w' ?_;have get: ∀q y,(if q=p then some (x.1,fun i=>if i=(j:Int)then v else x.2 i)else G q)=some y->(q=p/\y=(x.1,fun i=>if i=(j:Int)then v else x.2 i))∨(q≠p/\G q=some y):=by
  intro q y h;by_cases e:q=p
  ·rw[if_pos e]at h;cases h;exact .inl ⟨e,rfl⟩
  ·rw[if_neg e]at h;exact .inr ⟨e,h⟩
 refine hs w' D _ (d.ext.mono fun i _ hi=>(h.1 i).2 ⟨p,x,hp,hi⟩) ⟨fun k=> ?_,fun q r y z J hr e=> ?_,fun q y J=> ?_⟩ fun k hk=>.inl hk
 ·rw[h.1];constructor
  ·rintro⟨q,y,J,rfl⟩;by_cases e:q=p
   ·subst e;rw[hp]at J;cases J;exact⟨q,(x.1,fun i=>if i=(j:Int)then v else x.2 i),by simp,rfl⟩
   ·exact⟨q,y,by simp[e,J],rfl⟩
  ·rintro⟨q,y,J,rfl⟩;rcases get q y J with ⟨_,rfl⟩|⟨_,h⟩
   ·exact⟨p,x,hp,rfl⟩
   ·exact⟨q,y,h,rfl⟩
 ·rcases get q y J with ⟨O,rfl⟩|⟨O,h1⟩
  ·rcases get r z hr with ⟨C,rfl⟩|⟨C,h2⟩
   ·rw[O,C]
   ·rw[O];exact h.2.1 p r x z hp h2 e
  ·rcases get r z hr with ⟨C,rfl⟩|⟨C,h2⟩
   ·rw[C];exact h.2.1 q p y x h1 hp e
   ·exact h.2.1 q r y z h1 h2 e
 ·rcases get q y J with ⟨O,rfl⟩|⟨O,h1⟩
  ·refine⟨by rw[d.size];exact T.1,fun i hi=>⟨?_,by rw[d.frozen];exact(T.2 i hi).2⟩⟩;by_cases e:i=j
   ·subst e;simp only[if_true];exact d.same
   ·have e': ¬((i:Int)=(j:Int)):=by omega
    simp only[if_neg e'];rw[d.other _ (by intro C;injection C with _ C;exact e C)];exact(T.2 i hi).1
  ·have hy:=h.2.2 q y h1;have Y:y.1≠x.1:=fun e=>O (h.2.1 q p y x h1 hp e);refine⟨by rw[d.size];exact hy.1,fun i hi=>⟨?_,by rw[d.frozen];exact(hy.2 i hi).2⟩⟩;rw[d.other _ (by intro C;injection C with C _;exact Y C)];exact(hy.2 i hi).1
end
theorem HH{σ:Type}{first:(σ->World->Prop)->Prop}{rest:σ->(Nat->Value)->World->Prop}(J:σ->World->Prop)(h1:first J)(d: ∀s j w,J s w->rest s j w):Am σ first rest:=⟨J,h1,d⟩
end Go.Sh
set_option linter.all false
set_option maxRecDepth 4000
namespace Go.Sh
def Ap{α:Type}(R:α->Pr)(L:List α):Pr:=Qe (L.map R)
section
variable{α:Type}{R R':α->Pr}{L L':List α}{F:List Pr}{w:World}
theorem Sat.many:Sat (Ap R L::F) w↔Sat (L.map R++F) w:=Sat.star
theorem Sat.Ls(H:Sat (Ap R L::F) w)(h:L.Perm L'):Sat (Ap R L'::F) w:=
 Sat.many.2 ((Sat.many.1 H).perm ((h.map R).append_right F))
theorem Sat.Lt{x:α}:Sat (Ap R (x::L)::F) w↔Sat (R x::Ap R L::F) w:=by
 constructor
 ·intro H;have h1:Sat (R x::(L.map R++F)) w:=Sat.many.1 H;have d:Sat (L.map R++(R x::F)) w:=h1.perm List.perm_middle.symm;exact(Sat.many.2 d).perm (.swap _ _ _)
 ·intro H;have d:Sat (L.map R++(R x::F)) w:=Sat.many.1 (H.perm (.swap _ _ _));exact Sat.many.2 (d.perm List.perm_middle)
theorem Sat.Hs(H:Sat (Ap R L::F) w){i:Nat}{x:α}(hi:L[i]? =some x):Sat (R x::Ap R (L.eraseIdx i)::F) w:=
 Sat.Lt.1 (H.Ls (Dm hi))
theorem Sat.Gq{i:Nat}{x:α}(H:Sat (R x::Ap R (L.eraseIdx i)::F) w)(hi:L[i]? =some x):Sat (Ap R L::F) w:=
 (Sat.Lt.2 H).Ls (Dm hi).symm
theorem Sat.Qh{x:α}(H:Sat (R x::Ap R L::F) w):Sat (Ap R (L++[x])::F) w:=
 (Sat.Lt.2 H).Ls (List.perm_append_singleton x L).symm
theorem Sat.MW(H:Sat F w)(R:α->Pr):Sat (Ap R []::F) w:=Sat.many.2 H
theorem Sat.iG:Sat (Ap R (L++L')::F) w↔Sat (Ap R L::Ap R L'::F) w:=by
 rw[Sat.many,Sat.many,List.map_append,List.append_assoc];constructor
 ·intro H;have h1:Sat (L'.map R++(L.map R++F)) w:=by
   refine H.perm ?_;rw[<-List.append_assoc,<-List.append_assoc];exact List.perm_append_comm.append_right F
  exact(Sat.many.2 h1).perm List.perm_middle.symm
 ·intro H;have h1:Sat (Ap R L'::(L.map R++F)) w:=H.perm List.perm_middle;refine(Sat.many.1 h1).perm ?_;rw[<-List.append_assoc,<-List.append_assoc];exact List.perm_append_comm.append_right F
theorem Ap.congr(h: ∀x∈L,R x=R' x):Ap R L=Ap R' L:=by
 unfold Ap;rw[List.map_congr_left h]
end
theorem Hu{t n z:Nat}{vs:List Value}{Rs:List Pr}{w:World}(H:Sat Rs w)(d:vs.length=n*z)(v:n<9223372036854775808){K:Nat->World->Prop}
  (j: ∀b w',Sat (Row t z ⟨some ⟨b,0,none⟩,n,n⟩ vs::Rs) w'->K b w'):AL (.cells ⟨vs⟩ t) w K:=
 BK fun w' J hs he=>j _ _ (H.new (P:=Row t z ⟨some ⟨w.heap.size,0,none⟩,n,n⟩ vs) (D:=Nb ⟨some ⟨w.heap.size,0,none⟩,n,n⟩) he
  ⟨fun _=>Iff.rfl,TU J d (Nat.zero_le _) v⟩ fun k C=>by obtain⟨x,y,rfl⟩:=C;cases y;exact Nat.le_refl _)
theorem EL{n:Nat}{u v:Int->Bool}(h: ∀k,0<=k->k<(n:Int)->u k=v k):flags n u=flags n v:=by
 unfold flags;refine List.map_congr_left fun k d=> ?_;rw[List.mem_range]at d;rw[h k (by omega) (by omega)]
end Go.Sh
set_option linter.all false
set_option maxRecDepth 4000
namespace Go.Sh
def wN(u:Nat->Bool):Nat->Nat
 | 0=>0
 | n+1=>wN u n|||(if u n then 2^n else 0)
theorem Da(u:Nat->Bool): ∀(n i:Nat),(wN u n).testBit i=(decide (i<n)&&u i)
 | 0,i=>by simp[wN]
 | n+1,i=>by
  simp only[wN,Nat.testBit_or,Da u n i];by_cases e:i=n
  ·subst e;cases hu:u i<;>simp[hu,Nat.testBit_two_pow_self]
  ·have d:(if u n then 2^n else 0:Nat).testBit i=false:=by
    split
    ·exact Nat.testBit_two_pow_of_ne (fun h=>e h.symm)
    ·simp
   rw[d,Bool.or_false];have:decide (i<n)=decide (i<n+1):=decide_eq_decide.2 (by omega);rw[this]
theorem LO(u:Nat->Bool)(n:Nat):wN u n<2^n:=
 Nat.lt_pow_two_of_testBit _ fun i hi=>by rw[Da];simp;omega
theorem oL(u:Nat->Bool)(n:Nat):wN u (n+1)=wN u n+2^n*(u n).toNat:=by
 simp only[wN];cases h:u n
 ·simp
 ·rw[if_pos rfl,Nat.or_two_pow_eq_add_of_lt (LO u n)];simp
theorem cB{u v:Nat->Bool}{n:Nat}(h: ∀i,i<n->u i=v i):wN u n=wN v n:=by
 apply Nat.eq_of_testBit_eq;intro i;rw[Da,Da];by_cases hi:i<n
 ·rw[h i hi]
 ·simp[hi]
theorem oM{u v:Nat->Bool}{n:Nat}(h:wN u n=wN v n){i:Nat}(hi:i<n):u i=v i:=by
 have:=congrArg (fun x=>x.testBit i) h;simpa[Da,hi]using this
def W(u:Nat->Bool):Int:=(wN u 64:Nat)
theorem xK(u:Nat->Bool):0<=W u/\W u<18446744073709551616:=by
 have:=LO u 64;unfold W;have e:(2:Nat)^64=18446744073709551616:=by decide
 omega
theorem FI{u v:Nat->Bool}(h: ∀i,i<64->u i=v i):W u=W v:=by unfold W;rw[cB h]
theorem nC{u v:Nat->Bool}(h:W u=W v){i:Nat}(hi:i<64):u i=v i:=by
 unfold W at h;exact oM (Int.ofNat.inj h) hi
theorem nD{u v:Nat->Bool}:W u=W v↔ ∀i,i<64->u i=v i:=⟨fun h i hi=>nC h hi,FI⟩
theorem Og:W (fun _=>false)=0:=by
 unfold W;have:wN (fun _=>false) 64=0:=by
  apply Nat.eq_of_testBit_eq;intro i;rw[Da];simp
 rw[this];rfl
theorem Tc:W (fun _=>true)=18446744073709551615:=by
 unfold W;have:wN (fun _=>true) 64=18446744073709551615:=by
  have e:(18446744073709551615:Nat)=2^64-1:=by decide
  rw[e];apply Nat.eq_of_testBit_eq;intro i;rw[Da,Nat.testBit_two_pow_sub_one];simp
 rw[this];rfl
theorem cC:W (fun i=>i==0)=1:=by
 unfold W;have:wN (fun i=>i==0) 64=1:=by
  apply Nat.eq_of_testBit_eq;intro i;rw[Da];have:Nat.testBit 1 i=decide (0=i):=Nat.testBit_two_pow (n:=0) (m:=i);rw[this];cases i<;>simp
 rw[this];rfl
theorem Fh{u:Nat->Bool}:W u=0↔ ∀i,i<64->u i=false:=by
 rw[<-Og,nD]
theorem nE(u:Nat->Bool):(BitVec.ofInt 64 (W u)).toNat=wN u 64:=by
 unfold W;rw[BitVec.ofInt_natCast,BitVec.toNat_ofNat];exact Nat.mod_eq_of_lt (LO u 64)
theorem Qi{n:Nat}(h:n<18446744073709551616):IntKind.wrap .u64 (n:Int)=(n:Int):=AM
theorem cD(u v:Nat->Bool):D8 .u64 0 (W u) (W v)=W fun i=>u i&&v i:=by
 show IntKind.wrap .u64 ((BitVec.ofInt 64 (W u)&&&BitVec.ofInt 64 (W v)).toNat:Int)=_;rw[BitVec.toNat_and,nE,nE];have e:wN u 64&&&wN v 64=wN (fun i=>u i&&v i) 64:=by
  apply Nat.eq_of_testBit_eq;intro i;rw[Nat.testBit_and,Da,Da,Da];cases decide (i<64)<;>simp
 rw[e,Qi (LO _ 64)];rfl
theorem cE(u v:Nat->Bool):D8 .u64 1 (W u) (W v)=W fun i=>u i||v i:=by
 show IntKind.wrap .u64 ((BitVec.ofInt 64 (W u)|||BitVec.ofInt 64 (W v)).toNat:Int)=_;rw[BitVec.toNat_or,nE,nE];have e:wN u 64|||wN v 64=wN (fun i=>u i||v i) 64:=by
  apply Nat.eq_of_testBit_eq;intro i;rw[Nat.testBit_or,Da,Da,Da];cases decide (i<64)<;>simp
 rw[e,Qi (LO _ 64)];rfl
theorem Lu(u v:Nat->Bool):D8 .u64 3 (W u) (W v)=W fun i=>u i&& !v i:=by
 show IntKind.wrap .u64 ((BitVec.ofInt 64 (W u)&&& ~~~BitVec.ofInt 64 (W v)).toNat:Int)=_;rw[BitVec.toNat_and,nE,BitVec.toNat_not,nE];have e:wN u 64&&&(2^64-1-wN v 64)=wN (fun i=>u i&& !v i) 64:=by
  apply Nat.eq_of_testBit_eq;intro i;have d:2^64-1-wN v 64=2^64-(wN v 64+1):=by omega
  rw[Nat.testBit_and,d,Nat.testBit_two_pow_sub_succ (LO v 64),Da,Da,Da];cases decide (i<64)<;>simp
 rw[e,Qi (LO _ 64)];rfl
theorem cG(u:Nat->Bool){n:Int}(h0:0<=n)(h1:n<=64):Int.fdiv (W u) (2^(min n.toNat (IntKind.bits .u64)))=W fun i=>decide (i+n.toNat<64)&&u (i+n.toNat):=by
 have d:IntKind.bits .u64=64:=rfl;rw[d,Nat.min_eq_left (by omega),Int.fdiv_eq_ediv_of_nonneg _ (Int.pow_nonneg (by decide))];generalize n.toNat=k;unfold W;have e:((wN u 64:Nat):Int)/2^k=((wN u 64/2^k:Nat):Int):=by
  rw[Int.natCast_ediv,Int.natCast_pow];rfl
 rw[e];congr 1;apply Nat.eq_of_testBit_eq;intro i;rw[Nat.testBit_div_two_pow,Da,Da];by_cases h:i+k<64
 ·have:i<64:=by omega
  simp[h,this]
 ·simp[h]
theorem cH(u:Nat->Bool){n:Int}(h0:0<=n)(h1:n<=64):u64 (W u*2^(min n.toNat (IntKind.bits .u64)))=W fun i=>decide (n.toNat<=i)&&u (i-n.toNat):=by
 have d:IntKind.bits .u64=64:=rfl;rw[d,Nat.min_eq_left (by omega)];generalize n.toNat=k;unfold W;have e:((wN u 64:Nat):Int)*2^k=((wN u 64*2^k:Nat):Int):=by
  rw[Int.natCast_mul,Int.natCast_pow];rfl
 rw[e,Pu];have j:(((wN u 64*2^k:Nat):Int) %18446744073709551616)=((wN u 64*2^k %2^64:Nat):Int):=by
  rw[Int.natCast_emod];rfl
 rw[j];congr 1;apply Nat.eq_of_testBit_eq;intro i;rw[Nat.testBit_mod_two_pow,Nat.testBit_mul_two_pow,Da,Da];by_cases h:i<64
 ·by_cases h2:k<=i
  ·have:i-k<64:=by omega
   simp[h,h2,this]
  ·simp[h,h2]
 ·simp[h]
theorem cI(u:Nat->Bool){n:Int}(h0:0<=n)(h1:n<64):D8 .u64 0 (Int.fdiv (W u) (2^(min n.toNat (IntKind.bits .u64)))) 1=if u n.toNat then 1 else 0:=by
 rw[cG u h0 (by omega),<-cC,cD];cases hu:u n.toNat
 ·rw[if_neg (by decide),Fh];intro i hi;by_cases e:i=0
  ·subst e;simp[hu]
  ·simp[e]
 ·rw[if_pos rfl,nD];intro i hi;by_cases e:i=0
  ·subst e;simp[hu];omega
  ·simp[e]
theorem cJ{x:Nat}(h0:x≠0)(h:x<2^64):D8 .u64 0 (x:Int) (u64 (0-x))=((x&&&(2^64-x):Nat):Int):=by
 have e:u64 (0-(x:Int))=((2^64-x:Nat):Int):=by
  rw[Pu];have d:(2:Nat)^64=18446744073709551616:=by decide
  omega
 rw[e];show IntKind.wrap .u64 ((BitVec.ofInt 64 (x:Int)&&&BitVec.ofInt 64 ((2^64-x:Nat):Int)).toNat:Int)=_;rw[BitVec.toNat_and,BitVec.ofInt_natCast,BitVec.ofInt_natCast,BitVec.toNat_ofNat,BitVec.toNat_ofNat,Nat.mod_eq_of_lt h,Nat.mod_eq_of_lt (by omega)];exact Qi (Nat.lt_of_le_of_lt Nat.and_le_left h)
theorem iH{x:Nat}(h0:x≠0)(h:x<2^64):Lib.ctz 64 x<64/\x.testBit (Lib.ctz 64 x)=true/\ ∀i,i<Lib.ctz 64 x->x.testBit i=false:=by
 obtain⟨m,hm,d⟩:=Lib.ctzFrom_spec 64 x (by omega) h;have e:Lib.ctz 64 x=Lib.ctzFrom 64 x:=by simp[Lib.ctz,h0]
 rw[e];generalize Lib.ctzFrom 64 x=k at hm d;refine⟨d,?_,fun i hi=> ?_⟩
 ·rw[hm,Nat.testBit_two_pow_mul];simp
 ·rw[hm,Nat.testBit_two_pow_mul];simp;omega
def GV(g:Nat)(w:World):Prop:= ∀i,i<64->w.cell? ⟨g,i,none⟩=some (.int .u8 (Lib.deBruijn64tab.getD i 0:Nat))
theorem GV.ext{g:Nat}{w w':World}(h:GV g w)(he:Ext AN w w'):GV g w':=fun i hi=>he.cell (h i hi) fun f=>f
def D(B:Nat):Nat->(Nat->Nat)->Nat
 | 0,_=>0
 | n+1,d=>d 0+B*D B n fun j=>d (j+1)
theorem Kz{B:Nat}: ∀{n:Nat} {d e:Nat->Nat},(∀j,j<n->d j=e j)->D B n d=D B n e
 | 0,_,_,_=>rfl
 | n+1,d,e,h=>by
  simp only[D];rw[h 0 (by omega),Kz fun j v=>h (j+1) (by omega)]
theorem Td(B:Nat): ∀(n:Nat) (d:Nat->Nat),D B (n+1) d=D B n d+B^n*d n
 | 0,d=>by simp[D]
 | n+1,d=>by
  have v:=Td B n fun j=>d (j+1);show d 0+B*D B (n+1) (fun j=>d (j+1))=d 0+B*D B n (fun j=>d (j+1))+B^(n+1)*d (n+1);rw[v,Nat.mul_add,Nat.pow_succ,Nat.mul_comm (B^n) B,Nat.mul_assoc];omega
theorem Ws{B:Nat}: ∀{n:Nat} {d:Nat->Nat},(∀j,d j<B)->D B n d<B^n
 | 0,_,_=>by simp[D]
 | n+1,d,h=>by
  have v:=Ws (B:=B) (n:=n) (d:=fun j=>d (j+1)) fun j=>h (j+1);have h0:=h 0;have e:B^(n+1)=B*B^n:=by rw[Nat.pow_succ,Nat.mul_comm]
  have:B*(D B n (fun j=>d (j+1))+1)<=B*B^n:=Nat.mul_le_mul_left _ v;rw[Nat.mul_add]at this;rw[e];simp only[D];omega
theorem Qj(B:Nat): ∀(n:Nat) (d e:Nat->Nat),D B n d+D B n e=D B n fun j=>d j+e j
 | 0,_,_=>rfl
 | n+1,d,e=>by
  simp only[D];rw[<-Qj B n,Nat.mul_add];omega
theorem U2{B:Nat}{n:Nat}{d:Nat->Nat}(h0:d 0<B)(v:d n=0):D B n d/B=D B n fun j=>d (j+1):=by
 cases n with
 | zero=>simp[D]
 | succ n=>
  have e:D B (n+1) (fun j=>d (j+1))=D B n fun j=>d (j+1):=by rw[Td];simp[v]
  rw[e];simp only[D];rw[Nat.add_mul_div_left _ _ (by omega),Nat.div_eq_of_lt h0,Nat.zero_add]
theorem Te{B n:Nat}{d:Nat->Nat}(h: ∀j,d j<B)(hz: ∀j,n<=j->d j=0): ∀k,D B n d/B^k=D B n fun j=>d (j+k)
 | 0=>by simp
 | k+1=>by
  rw[Nat.pow_succ,<-Nat.div_div_eq_div_mul,Te h hz k,U2 (d:=fun j=>d (j+k)) (h _) (hz _ (by omega))];exact Kz fun j _=>by rw[Nat.add_right_comm,Nat.add_assoc]
theorem Za{b x y X Y:Nat}(j:x<2^b)(d:y<2^b):(x+2^b*X)&&&(y+2^b*Y)=(x&&&y)+2^b*(X&&&Y):=by
 apply Nat.eq_of_testBit_eq;intro i;rw[Nat.add_comm x,Nat.add_comm y,Nat.add_comm (x&&&y),Nat.testBit_and,Nat.testBit_two_pow_mul_add _ j,Nat.testBit_two_pow_mul_add _ d,Nat.testBit_two_pow_mul_add _ (Nat.and_lt_two_pow x d)];split<;>rw[Nat.testBit_and]
theorem nF{b:Nat}: ∀(n:Nat) (d m:Nat->Nat),(∀j,d j<2^b)->(∀j,m j<2^b)->D (2^b) n d&&&D (2^b) n m=D (2^b) n fun j=>d j&&&m j
 | 0,_,_,_,_=>by simp[D]
 | n+1,d,m,h1,h2=>by
  simp only[D];rw[Za (h1 0) (h2 0),nF n _ _ (fun j=>h1 (j+1)) fun j=>h2 (j+1)]
theorem cK(B:Nat): ∀(n:Nat) (d:Nat->Nat),D B (2*n) d=D (B*B) n fun j=>d (2*j)+B*d (2*j+1)
 | 0,_=>rfl
 | n+1,d=>by
  rw[show 2*(n+1)=2*n+1+1 by omega];simp only[D];rw[cK B n];have e:(fun j=>d (2*j+1+1)+B*d (2*j+1+1+1))=fun j=>d (2*(j+1))+B*d (2*(j+1)+1):=by
   funext j;rw[show 2*(j+1)=2*j+1+1 by omega]
  rw[e,Nat.mul_add,Nat.mul_assoc,Nat.mul_zero,Nat.zero_add];omega
def bC(f:Nat->Nat):Nat->Nat:=fun j=>if j %2=0 then f j else 0
theorem Qk{b B:Nat}(v:B=2^b)(n:Nat)(d:Nat->Nat)(h: ∀j,d j<B):D B n d&&&D B n (bC fun _=>B-1)=D B n (bC d):=by
 subst v;have hp:0<2^b:=Nat.two_pow_pos b;rw[nF n d _ h fun j=>by dsimp only[bC];split<;>omega];congr 1;funext j;dsimp only[bC];split
 ·exact Nat.and_two_pow_sub_one_of_lt_two_pow (h j)
 ·simp
theorem cL(B n:Nat)(d:Nat->Nat):D B (2*n) (bC d)=D (B*B) n fun j=>d (2*j):=by
 rw[cK];congr 1;funext j;unfold bC;rw[if_pos (by omega),if_neg (by omega)];omega
theorem xL(u:Nat->Bool): ∀n,wN u n=D 2 n fun j=>(u j).toNat
 | 0=>rfl
 | n+1=>by rw[oL,Td,xL u n]
def cN(u:Nat->Bool):Nat->Nat
 | 0=>0
 | n+1=>cN u n+(u n).toNat
theorem PE(u:Nat->Bool)(n:Nat):cN u n<=n:=by
 induction n with
 | zero=>exact Nat.le_refl _
 | succ n ih=>simp only[cN];have:=Bool.toNat_le (u n);omega
theorem swar{u:Nat->Bool}(hu: ∀i,64<=i->u i=false){x0 x1 y x3 x4 T x6:Nat}(h0:x0=wN u 64)(h1:x1=(x0/2&&&6148914691236517205)+(x0&&&6148914691236517205))
  (h2:y=(x1/4&&&3689348814741910323)+(x1&&&3689348814741910323))(h3:x3=(y/16+y)&&&1085102592571150095)(h4:x4=x3+x3/256)(h5:T=x4+x4/65536)(h6:x6=T+T/4294967296):
  x1<18446744073709551616/\y<18446744073709551616/\y/16+y<18446744073709551616/\x4<18446744073709551616/\T<18446744073709551616/\x6<9223372036854775808/\x6 %128=cN u 64:=by
 obtain⟨d,hd⟩: ∃d:Nat->Nat,∀j,d j=(u j).toNat:=⟨_,fun _=>rfl⟩;have hb: ∀j,d j<=1:=fun j=>by rw[hd];exact Bool.toNat_le (u j)
 have hz: ∀j,64<=j->d j=0:=fun j Y=>by rw[hd,hu j Y];rfl
 have e0:x0=D 2 64 d:=by rw[h0,xL];exact Kz fun j _=>(hd j).symm
 have m1:(6148914691236517205:Nat)=D 2 64 (bC fun _=>2-1):=by decide+kernel
 have m2:(3689348814741910323:Nat)=D 4 32 (bC fun _=>4-1):=by decide+kernel
 have m3:(1085102592571150095:Nat)=D 16 16 (bC fun _=>16-1):=by decide+kernel
 have q1: ∀d,D 2 64 (bC d)=D 4 32 fun j=>d (2*j):=fun d=>cL 2 32 d;have q2: ∀d,D 4 32 (bC d)=D 16 16 fun j=>d (2*j):=fun d=>cL 4 16 d;have q3: ∀d,D 16 16 (bC d)=D 256 8 fun j=>d (2*j):=fun d=>cL 16 8 d;obtain⟨c,C⟩: ∃c:Nat->Nat,∀j,c j=d (2*j+1)+d (2*j):=⟨_,fun _=>rfl⟩;have bc: ∀j,c j<=2:=fun j=>by rw[C];have:=hb (2*j);have:=hb (2*j+1);omega
 have zc: ∀j,32<=j->c j=0:=fun j Y=>by rw[C,hz _ (by omega),hz _ (by omega)]
 have e1:x1=D 4 32 c:=by
  rw[h1,e0,U2 (by have:=hb 0;omega) (hz 64 (by omega)),m1,Qk (b:=1) rfl 64 _ (fun j=>by have:=hb (j+1);omega),Qk (b:=1) rfl 64 _ (fun j=>by have:=hb j;omega),q1,q1,Qj];exact Kz fun j _=>(C j).symm
 have l1:x1<4^32:=by rw[e1];exact Ws fun j=>by have:=bc j;omega
 obtain⟨e,J⟩: ∃e:Nat->Nat,∀j,e j=c (2*j+1)+c (2*j):=⟨_,fun _=>rfl⟩;have be: ∀j,e j<=4:=fun j=>by rw[J];have:=bc (2*j);have:=bc (2*j+1);omega
 have ze: ∀j,16<=j->e j=0:=fun j Y=>by rw[J,zc _ (by omega),zc _ (by omega)]
 have e2:y=D 16 16 e:=by
  rw[h2,e1,U2 (by have:=bc 0;omega) (zc 32 (by omega)),m2,Qk (b:=2) rfl 32 _ (fun j=>by have:=bc (j+1);omega),Qk (b:=2) rfl 32 _ (fun j=>by have:=bc j;omega),q2,q2,Qj];exact Kz fun j _=>(J j).symm
 have l2:y<16^16:=by rw[e2];exact Ws fun j=>by have:=be j;omega
 have aG:y/16+y=D 16 16 fun j=>e (j+1)+e j:=by
  rw[e2,U2 (by have:=be 0;omega) (ze 16 (by omega)),Qj]
 have l3:y/16+y<16^16:=by rw[aG];exact Ws fun j=>by have:=be j;have:=be (j+1);omega
 obtain⟨g,K⟩: ∃g:Nat->Nat,∀j,g j=e (2*j+1)+e (2*j):=⟨_,fun _=>rfl⟩;have v: ∀j,g j<=8:=fun j=>by rw[K];have:=be (2*j);have:=be (2*j+1);omega
 have O: ∀j,8<=j->g j=0:=fun j Y=>by rw[K,ze _ (by omega),ze _ (by omega)]
 have e3:x3=D 256 8 g:=by
  rw[h3,aG,m3,Qk (b:=4) rfl 16 _ (fun j=>by have:=be j;have:=be (j+1);omega),q3];exact Kz fun j _=>(K j).symm
 have e4:x4=D 256 8 fun j=>g j+g (j+1):=by
  rw[h4,e3,U2 (by have:=v 0;omega) (O 8 (by omega)),Qj]
 have l4:x4<256^8:=by rw[e4];exact Ws fun j=>by have:=v j;have:=v (j+1);omega
 have e5:T=D 256 8 fun j=>g j+g (j+1)+(g (j+2)+g (j+3)):=by
  have:=Te (B:=256) (n:=8) (d:=fun j=>g j+g (j+1)) (fun j=>by have:=v j;have:=v (j+1);omega) (fun j Y=>by rw[O _ Y,O _ (by omega)]) 2;rw[h5,e4,show(65536:Nat)=256^2 from rfl,this,Qj]
 have l5:T<256^8:=by rw[e5];exact Ws fun j=>by have:=v j;have:=v (j+1);have:=v (j+2);have:=v (j+3);omega
 obtain⟨k,hk⟩: ∃k:Nat->Nat,∀j,k j=g j+g (j+1)+(g (j+2)+g (j+3)):=⟨_,fun _=>rfl⟩;have bk: ∀j,k j<=32:=fun j=>by rw[hk];have:=v j;have:=v (j+1);have:=v (j+2);have:=v (j+3);omega
 have zk: ∀j,8<=j->k j=0:=fun j Y=>by rw[hk,O _ (by omega),O _ (by omega),O _ (by omega),O _ (by omega)]
 have aO:T=D 256 8 k:=by rw[e5];exact Kz fun j _=>(hk j).symm
 have e6:x6=D 256 8 fun j=>k j+k (j+4):=by
  have:=Te (B:=256) (n:=8) (d:=k) (fun j=>by have:=bk j;omega) zk 4;rw[h6,aO,show(4294967296:Nat)=256^4 from rfl,this,Qj]
 have l6:x6<9223372036854775808:=by
  rw[e6,Td];have h1:D 256 7 (fun j=>k j+k (j+4))<256^7:=Ws fun j=>by have:=bk j;have:=bk (j+4);omega
  have b7:=bk 7;have aL:=zk 11 (by omega);have e:(256:Nat)^7=72057594037927936:=by decide
  rw[e]at h1⊢;have:k (7+4)=0:=aL;rw[this];omega
 have p1:(4:Nat)^32=18446744073709551616:=by decide
 have p2:(16:Nat)^16=18446744073709551616:=by decide
 have p3:(256:Nat)^8=18446744073709551616:=by decide
 rw[p1]at l1;rw[p2]at l2 l3;rw[p3]at l4 l5;refine⟨l1,l2,l3,l4,l5,l6,?_⟩;have e7:x6 %128=k 0+k 4:=by
  rw[e6];have b0:=bk 0;have b4:=bk 4;rw[show(8:Nat)=7+1 from rfl];simp only[D,Nat.zero_add];omega
 have aF:cN u 64=k 0+k 4:=by
  simp only[hk,K,J,C,hd,Nat.reduceMul,Nat.reduceAdd];simp only[cN,Nat.reduceMul,Nat.reduceAdd];omega
 rw[e7,aF]
end Go.Sh
set_option linter.all false
set_option maxRecDepth 4000
namespace Go.Sh
def K0{α:Type}(n:Nat)(z:Nat->α):List α:=(List.range n).map z
theorem FV{α:Type}(n:Nat)(z:Nat->α):(K0 n z).length=n:=by simp[K0]
theorem U3{α:Type}{n i:Nat}(z:Nat->α)(hi:i<n):(K0 n z)[i]? =some (z i):=by simp[K0,hi]
theorem Ql{w:World}{k:IntKind}{ok:Int->Prop}{s:AZ}{z:Nat->Int}(h:Nf w (.int k) ok s z):rowAt w s.base s.len (ints k (K0 s.len z)):=by
 cases hb:s.base with
 | none=>
  have:s.len=0:=by
   rcases Nat.eq_zero_or_pos s.len with e|e
   ·exact e
   ·obtain⟨x,y,_⟩:=h.bZ e;rw[hb]at y;cases y
  show ints k (K0 s.len z)=[];rw[this];rfl
 | some a=>
  refine⟨by simp[ints,FV],fun j v C=> ?_⟩;have d:j<s.len:=by
   have:=(List.getElem?_eq_some_iff.1 C).1;simpa[ints,FV]using this
  rw[Iz (U3 z d)]at C;cases C;obtain⟨x,y,J,_⟩:=h.bZ d;rw[hb]at y;cases y;exact J
theorem Nf.xM{w w':World}{k:IntKind}{s:AZ}{z:Nat->Int}(h:Lp w (.int k) s z)(he:Ext AN w w'):Lp w' (.int k) s z:=
 ⟨h.1,h.2.1,fun j d=>by
  obtain⟨x,h1,y,J⟩:=h.2.2 j d;exact⟨x,h1,fun i v C=>he.cell (y i v C) fun f=>f,J⟩⟩
theorem iI{w:World}{s:AZ}{z:Nat->Int}(h:Lp w (.int .u64) s z): ∀x∈K0 s.len z,0<=x/\x<18446744073709551616:=by
 intro x d;simp only[K0,List.mem_map,List.mem_range]at d;obtain⟨j,y,rfl⟩:=d;obtain⟨_,_,_,v⟩:=h.bZ y;exact TY v
end Go.Sh
set_option linter.all false
set_option maxRecDepth 4000
set_option maxHeartbeats 1000000
namespace Go.Sh
structure RgF(k:IntKind)(es:Array MapEntry)(c:Nat)(seen:Array Nat)(last:Nat)(m:List (Int×Value))(cur:Option Int)(done:List Int):Prop where
 ok:MapI k es c m
 lst:seen.isEmpty=true∨last=c
 nd:done.Nodup
 sub: ∀n∈done,aget m n≠none
 met: ∀e∈es.toList,seen.contains e.born=true↔ ∃n∈done,e.key= .int k n
 cur: ∀n,cur=some n->last=c/\ ∃e,e∈es.toList/\seen.back?=some e.born/\e.key= .int k n/\aget m n=some e.val
theorem MapI.key_inj{k:IntKind}{es:Array MapEntry}{c:Nat}{m:List (Int×Value)}(h:MapI k es c m){x y:MapEntry}(j:x∈es.toList)(v:y∈es.toList)(he:x.key=y.key):x=y:=by
 have h1:(es.toList.map (·.key)).Nodup:=by
  have e:es.toList.map (·.key)=m.map fun p=>Value.int k p.1:=by
   have:=congrArg (List.map Prod.fst) h.keys;simpa[List.map_map,Function.comp_def]using this
  rw[e,show(m.map fun p=>Value.int k p.1)=(m.map (·.1)).map (Value.int k) by simp];refine List.Pairwise.map _ (fun a b d=> ?_) h.nodup;intro e;injection e with _ e;exact d e
 exact KX h1 j v he
theorem MapI.Zb{k:IntKind}{es:Array MapEntry}{c:Nat}{m:List (Int×Value)}(h:MapI k es c m){e:MapEntry}(he:e∈es.toList):es.find? (fun x:MapEntry=>x.born==e.born)=some e:=by
 rw[<-Array.find?_toList];have: ∀l:List MapEntry,(l.map (·.born)).Nodup->e∈l->l.find? (fun x:MapEntry=>x.born==e.born)=some e:=by
  intro l
  induction l with
  | nil=>intro _ h;cases h
  | cons x r ih=>
   intro d hm;simp only[List.map_cons,List.nodup_cons]at d;rcases List.mem_cons.1 hm with rfl|hm
   ·simp[List.find?_cons]
   ·have:x.born≠e.born:=fun j=>d.1 (j▸List.mem_map.2 ⟨e,hm,rfl⟩);have v:(x.born==e.born)=false:=by simp[this]
    simp only[List.find?_cons,v];exact ih d.2 hm
 exact this es.toList h.born he
def R8(r mb:Nat)(k:IntKind)(g:Int->Option Value)(cur:Option Int)(done:List Int)(N:Nat):Pr where
 holds D w:=(∀i,D i↔i=r∨i=mb)/\r≠mb/\ ∃es c seen last m,w.heap[r]? =some (.mapIter (some mb) c seen last)/\w.heap[mb]? =some (.map es c)/\
  RgF k es c seen last m cur done/\(∀i,aget m i=g i)/\Jd es seen=N
 loc h he hS:=⟨h.1,h.2.1,let⟨es,c,seen,last,m,h1,d,j⟩:=h.2.2;⟨es,c,seen,last,m,he.obj h1 (hS _ ((h.1 _).2 (.inl rfl))),he.obj d (hS _ ((h.1 _).2 (.inr rfl))),j⟩⟩
 lt h v:=by
  obtain⟨es,c,seen,last,m,h1,d,j⟩:=h.2.2;rcases(h.1 _).1 v with rfl|rfl
  ·exact FU h1
  ·exact FU d
def cM(r mb:Nat)(w:World):Nat:=match w.heap[r]?,w.heap[mb]? with
 | some (.mapIter _ _ seen _),some (.map es _)=>Jd es seen
 | _,_=>0
section
variable{F:List Pr}{w w':World}{r mb:Nat}{k:IntKind}{g:Int->Option Value}{cur:Option Int}{done:List Int}{N:Nat}
theorem Sat.YD(H:Sat (R8 r mb k g cur done N::F) w):cM r mb w=N:=by
 obtain⟨_,h⟩:=H.head;obtain⟨es,c,seen,last,m,h1,d,y,v,j⟩:=h.2.2;simp only[cM,h1,d];exact j
theorem Sat.YE(H:Sat (R8 r mb k g cur done N::F) w):done.Nodup/\ ∀n∈done,g n≠none:=by
 obtain⟨_,h⟩:=H.head;obtain⟨es,c,seen,last,m,h1,y,d,j,C⟩:=h.2.2;exact⟨d.nd,fun n v=>by rw[<-j];exact d.sub n v⟩
theorem Sat.oO(H:Sat (R8 r mb k g cur done N::F) w):Sat (Ef mb k g::F) w:=by
 obtain⟨D,h,hs⟩:=H.step;obtain⟨es,c,seen,last,m,h1,j,v,d,y⟩:=h.2.2;exact hs w (fun i=>i=mb) _ (Ext.refl _ _) ⟨fun _=>Iff.rfl,es,c,m,j,v.ok,d⟩ fun i hi=>.inl ((h.1 i).2 (.inr hi))
theorem oQ(H:Sat (Ef mb k g::F) w){K:Nat->World->Prop}(J: ∀r N w',Sat (R8 r mb k g none [] N::F) w'->K r w'): ∃v,QL w (some mb) v/\AL (Km (some mb) v) w K:=by
 obtain⟨es,c,m,h1,y,T⟩:=H.Nh;refine⟨c,⟨es,h1⟩,BK fun w' O hs he=> ?_⟩;obtain⟨D,h,j⟩:=H.step;have C:mb<w.heap.size:=FU h1;refine J _ (Jd es #[]) w' (j w' (fun i=>i=w.heap.size∨i=mb) _ (he.mono fun _ _ f=>f.elim) ⟨fun _=>Iff.rfl,by omega,es,c,#[],c,m,O,he.obj h1 fun f=>f,⟨y,.inl rfl,List.nodup_nil,(fun n d=>by cases d),(fun e _=>by simp),(fun n d=>by cases d)⟩,T,rfl⟩ ?_);rintro i (rfl|rfl)
 ·exact .inr (Nat.le_refl _)
 ·exact .inl ((h.1 _).2 rfl)
theorem cO(H:Sat (R8 r mb k g cur done N::F) w){Kn:World->Prop}{Ks:Value->Value->World->Prop}(h0: ∀w',Sat (R8 r mb k g cur done N::F) w'->(∀n,n∈done↔g n≠none)->Kn w')
  (h1: ∀n v w' N',g n=some v->n∉done->N'<N->Sat (R8 r mb k g (some n) (done++[n]) N'::F) w'->Ks (.int k n) v w'):Um r w Kn Ks:=by
 have HN: ∀w',(w'=w∨w'=w.drew)->Sat (R8 r mb k g cur done N::F) w':=fun w' h=>by rcases h with rfl|rfl;exact H;exact H.drew
 obtain⟨D,h,_⟩:=H.step;obtain⟨es,c,seen,last,m,g1,g2,C,g4,g5⟩:=h.2.2;refine⟨some mb,c,seen,last,g1,es,c,g2,?_,?_,?_⟩
 ·rcases C.lst with hl|rfl
  ·simp[hl]
  ·by_cases he:es.isEmpty=true
   ·simp[he]
   ·have:es.all (fun x=>decide (x.born≥last))=false:=by
     have aC:0<es.size:=Nat.pos_of_ne_zero fun e=>he (by simpa[Array.isEmpty]using e);have hm:es[0]∈es.toList:=by simp
     have:=C.ok.lt _ hm;rw[Bool.eq_false_iff];intro aG;have:=(Array.all_eq_true_iff_forall_mem.1 aG) es[0] (Array.getElem_mem aC);simp at this;omega
    simp[this]
 ·intro w' J K;refine h0 w' (HN w' J) fun n=>⟨fun hn=>by rw[<-g4];exact C.sub n hn,fun hn=> ?_⟩;have hf:(leftOf es seen).filter (fun x=>decide (x.born<c))=leftOf es seen:=by
   apply Array.filter_eq_self.2;intro e he;exact decide_eq_true (C.ok.lt e (Ik.1 he).1)
  rw[hf]at K;rw[<-g4]at hn;cases hg:aget m n with
  | none=>exact absurd hg hn
  | some v=>
   obtain⟨e,he,hk,hv⟩:=C.ok.X8 hg;have hs:seen.contains e.born=true:=by
    cases hsc:seen.contains e.born with
    | true=>rfl
    | false=>
     have:e∈leftOf es seen:=Ik.2 ⟨he,hsc⟩;have h0:leftOf es seen= #[]:=by simpa[Array.isEmpty_iff]using K
     rw[h0]at this;cases this with|mk h=>cases h
   obtain⟨T,j,d⟩:=(C.met e he).1 hs;rw[hk]at d;injection d with _ d
   rw[d];exact j
 ·intro w' e J he;obtain⟨q1,q2⟩:=Ik.1 he;obtain⟨n,y,O⟩:=C.ok.TX q1;rw[y];have aD:n∉done:=fun hn=>by
   have:=(C.met e q1).2 ⟨n,hn,y⟩;rw[q2]at this;cases this
  have aE:Jd es (seen.push e.born)<Jd es seen:=by
   unfold Jd;refine filter_lt (fun x _ Y=> ?_) ⟨e,q1,by rw[q2];rfl,by simp⟩;simp at Y⊢;exact Y.1
  refine h1 n e.val _ (Jd es (seen.push e.born)) (by rw[<-g4];exact O) aD (by rw[<-g5];exact aE) ?_;obtain⟨D',h',aL⟩:=(HN w' J).step;have aF:Ext AN w w':=by rcases J with rfl|rfl;exact Ext.refl _ _;exact Ext.drew _ _
  have aK:=aF.obj g2 fun f=>f;have aJ:r<w'.heap.size:=by have:=FU g1;have:=aF.size;omega
  refine aL _ D' _ ((Ext.IL w' r _).mono fun i _ hi=>(h'.1 i).2 (.inl hi)) ⟨h'.1,h'.2.1,es,c,seen.push e.born,c,m,?_,?_,⟨C.ok,.inr rfl,?_,?_,?_,?_⟩,g4,rfl⟩ fun i hi=>.inl hi
  ·simp[World.IL,aJ]
  ·exact(Ext.IL w' r _).obj aK fun e:mb=r=>h'.2.1 e.symm
  ·rw[List.nodup_append];exact⟨C.nd,by simp,fun a ha b hb=>by simp at hb;subst hb;rintro rfl;exact aD ha⟩
  ·intro T j;rcases List.mem_append.1 j with h|h
   ·exact C.sub T h
   ·simp at h;subst h;rw[O];intro h;cases h
  ·intro x Y;constructor
   ·intro hs;simp at hs;rcases hs with hs|hs
    ·obtain⟨T,j,d⟩:=(C.met x Y).1 (by simpa using hs);exact⟨T,List.mem_append_left _ j,d⟩
    ·have:x=e:=KX C.ok.born Y q1 hs;subst this;exact⟨n,by simp,y⟩
   ·rintro⟨T,j,d⟩;rcases List.mem_append.1 j with h|h
    ·have:=(C.met x Y).2 ⟨T,h,d⟩;simp at this⊢;exact .inl this
    ·simp at h;subst h;have:x=e:=C.ok.key_inj Y q1 (by rw[d,y]);subst this;simp
  ·intro T j;cases j;exact⟨rfl,e,q1,by simp,y,O⟩
theorem iJ{n:Int}(H:Sat (R8 r mb k g (some n) done N::F) w){K:Value->Value->Gm->Prop}(j: ∀v S,g n=some v->K (.int k n) v S):m8 r w K:=by
 obtain⟨_,h⟩:=H.head;obtain⟨es,c,seen,last,m,O,y,d,Y,g5⟩:=h.2.2;obtain⟨rfl,e,he,T,J,C⟩:=d.cur n rfl;refine⟨mb,last,last,seen,es,last,e.born,e,⟨O,y⟩,T,rfl,d.ok.Zb he,?_⟩;rw[J];exact j _ _ (by rw[<-Y];exact C)
end
end Go.Sh

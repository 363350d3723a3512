/- What a law's arguments are, read once for all. No further condition. -/
import Derived.Test.YtbkjmfgdoceogaaGreatDoorM
import Derived.WalkKit
import Derived.ProofKit
import Derived.OpenShut
import Derived.ChangeOld
import Derived.Below
import Derived.Carry
import Derived.DataReads
import Derived.Test.YtbkjmfgdoceogaaGreatDoorSh
import Derived.Lib.TrailingZeros
set_option linter.all false
namespace Go.Sh
open Go.ChangeShapes Go.WideShapes Go.ChangeAt Go.RowKit
inductive AT where
 | int (k:IntKind)|bool|sl (e:AT)|nil|cons (f r:AT)
def AT.size:AT->Nat
 | .int _=>1| .bool=>1| .sl _=>1| .nil=>0| .cons f r=>f.size+r.size
def PA(w:World):AT->List Value->Prop
 | .int k,cs=> ∃n,cs=[.int k n]/\(Lit.int k n).wf=true
 | .bool,cs=> ∃b,cs=[.bool b]
 | .sl e,cs=> ∃s:AZ,cs=[.slice s.base s.len s.cap]/\s.len<=s.cap/\s.cap<=maxLen/\
   ∀j,j<s.len-> ∃x l,s.base=some x/\l.length=e.size/\(∀i v,l[i]? =some v->w.cell? (x.add (j*e.size+i))=some v)/\PA w e l
 | .nil,cs=>cs=[]
 | .cons f r,cs=> ∃a b,cs=a++b/\PA w f a/\PA w r b
def shapeF(P:Program)(sh:TypeId->Option AT):List Field->Nat->Option AT
 | [],_=>some .nil
 | f::r,off=>match Nat.beq f.offset off with
  | true=>match sh f.type with
   | some a=>match Nat.beq a.size (P.cellsOf f.type)with
    | true=>match shapeF P sh r (off+a.size)with
     | some b=>some (.cons a b)
     | none=>none
    | false=>none
   | none=>none
  | false=>none
def shapeP(P:Program):Nat->TypeId->Option AT
 | 0,_=>none
 | n+1,t=>match P.underlying t with
  | some .bool=>some .bool
  | some (.int k)=>some (.int k)
  | some (.slice e)=>match shapeP P n e with
   | some a=>match Nat.beq a.size (P.cellsOf e)with
    | true=>some (.sl a)
    | false=>none
   | none=>none
  | some (.struct fs)=>match shapeF P (shapeP P n) fs.toList 0 with
   | some a=>match Nat.beq a.size (P.cellsOf t)with
    | true=>some a
    | false=>none
   | none=>none
  | _=>none
section
variable{H:Type}{enc:TypeId×Value->H}{P:Program}{w:World}{base:Nat}{sp:Nat->Bool}{held:Bool}
theorem Vn{w:World}{base:Nat}{a:Addr}{n:Nat}{l:List Value}(h:w.cells? base a n=some l):l.length=n/\ ∀i v,l[i]? =some v->w.cell? (a.add i)=some v:=by
 unfold World.cells? at h;split at h
 ·have key: ∀(m:Nat) (k:Nat) (l:List Value),((List.range' k m).mapM fun i=>w.cell? (a.add i))=some l->l.length=m/\ ∀i v,l[i]? =some v->w.cell? (a.add (k+i))=some v:=by
   intro m
   induction m with
   | zero=>intro k l h;simp at h;subst h;simp
   | succ m ih=>
    intro k l h;rw[List.range'_succ,List.mapM_cons]at h;cases hx:w.cell? (a.add k)with
    | none=>simp[hx]at h
    | some y=>
     cases hl:(List.range' (k+1) m).mapM fun i=>w.cell? (a.add i)with
     | none=>simp[hx,hl]at h
     | some ys=>
      simp[hx,hl]at h;subst h;obtain⟨h1,j⟩:=ih (k+1) ys hl;refine⟨by simp[h1],fun i v d=> ?_⟩;cases i with
      | zero=>simp at d;subst d;simpa using hx
      | succ i=>have:=j i v (by simpa using d);rw[show k+(i+1)=k+1+i from by omega];exact this
  rw[List.range_eq_range']at h;have:=key n 0 l h;simpa using this
 ·cases h
theorem LY{sh:TypeId->Option AT}{tr:TypeId->List Value->Prop}(v: ∀t a cs,sh t=some a->tr t cs->PA w a cs):
  ∀(C:List Field) (off:Nat) (a:AT) (cs:List Value),shapeF P sh C off=some a->cs.length=off+a.size->(∀f∈C,tr f.type ((cs.drop f.offset).take (P.cellsOf f.type)))->PA w a (cs.drop off)
 | [],off,a,cs,h,hl,_=>by
  simp only[shapeF,Option.some.injEq]at h;subst h;show cs.drop off=[];rw[List.drop_eq_nil_iff];simp[AT.size]at hl;omega
 | f::r,off,a,cs,h,hl,ht=>by
  unfold shapeF at h;split at h
  ·rename_i d;have d:=Nat.eq_of_beq_eq_true d;split at h
   ·rename_i a1 ha1;split at h
    ·rename_i j;have j:=Nat.eq_of_beq_eq_true j;split at h
     ·rename_i b hb;cases h;have h1:=v _ _ _ ha1 (ht f (by simp));have K:=LY v r (off+a1.size) b cs hb (by simp[AT.size]at hl;omega) (fun g J=>ht g (by simp[J]));refine⟨_,_,?_,h1,K⟩;rw[d,<-j,<-List.drop_drop];exact(List.take_append_drop _ _).symm
     ·cases h
    ·cases h
   ·cases h
  ·cases h
theorem Ix: ∀(n:Nat) (t:TypeId) (a:AT) (cs:List Value),shapeP P n t=some a->(∃m x,DataW.trod enc P w base sp held m t cs=some x)->PA w a cs
 | 0,_,_,_,h,_=>by simp[shapeP]at h
 | n+1,t,a,cs,h,⟨m,x,O⟩=>by
  unfold shapeP at h;split at h
  ·rename_i hu;cases h;obtain⟨b,hb,_⟩:=DataW.trod_bool hu O;exact⟨b,hb⟩
  ·rename_i k hu;cases h;obtain⟨z,hb,_,hw⟩:=DataW.trod_int hu O;exact⟨z,hb,hw⟩
  ·rename_i e hu;split at h
   ·rename_i a1 ha1;split at h
    ·rename_i d;have d:=Nat.eq_of_beq_eq_true d;cases h;rcases DataW.trod_slice hu O with ⟨h1,_⟩|⟨p,len,cap,elems,rest,m',_,Y,_,_,aE,aB,aH,C,_⟩
     ·exact⟨⟨none,0,0⟩,h1,Nat.le_refl _,Nat.zero_le _,fun j K=>by cases K⟩
     ·refine⟨⟨some p,len,cap⟩,Y,aE,aB,fun j K=> ?_⟩;have K:j<len:=K;have J:=C j K;rw[List.getElem?_eq_getElem (by omega)]at J;cases hl:w.cells? base (p.add (j*P.cellsOf e)) (P.cellsOf e)with
      | none=>rw[hl]at J;cases J
      | some l=>
       rw[hl]at J;obtain⟨g1,g2⟩:=Vn hl;refine⟨p,l,rfl,by omega,fun i v hv=> ?_,Ix n e a1 l ha1 ⟨m',_,J⟩⟩;have:=g2 i v hv;rw[d,<-add_add];exact this
    ·cases h
   ·cases h
  ·rename_i fs hu;split at h
   ·rename_i a1 ha1;split at h
    ·rename_i d;have d:=Nat.eq_of_beq_eq_true d;cases h;obtain⟨xs,m',_,_,hlen,aG,hf⟩:=DataW.trod_struct hu O;have:=LY (P:=P) (sh:=shapeP P n) (tr:=fun t cs=> ∃m x,DataW.trod enc P w base sp held m t cs=some x)
      (fun t a cs h1 T=>Ix n t a cs h1 T) fs.toList 0 a cs ha1 (by omega) (fun f aA=>by
       obtain⟨i,hi⟩:=List.mem_iff_getElem?.1 aA;have N:fs[i]? =some f:=by simpa using hi
       have T:=hf i f N;have aD:i<xs.length:=by
        have:=(Array.getElem?_eq_some_iff.1 N).1;omega
       rw[List.getElem?_eq_getElem aD]at T;exact⟨m',_,T⟩)
     simpa using this
    ·cases h
   ·cases h
  ·cases h
def bV(w:World):AT->Value->Prop
 | .int k,v=> ∃n,v= .int k n/\(Lit.int k n).wf=true
 | .bool,v=> ∃b,v= .bool b
 | .sl e,v=> ∃s:AZ,v= .slice s.base s.len s.cap/\PA w (.sl e) [.slice s.base s.len s.cap]
 | a,v=> ∃l,v= .agg ⟨l⟩/\PA w a l
def XI(w:World):List AT->List Value->Prop
 | [],vs=>vs=[]
 | a::r,vs=> ∃v s,vs=v::s/\bV w a v/\XI w r s
def shapesP(P:Program):List TypeId->Option (List AT)
 | []=>some []
 | t::r=>match shapeP P 9 t with
  | some a=>match shapesP P r with
   | some l=>some (a::l)
   | none=>none
  | none=>none
theorem Rj{sh:TypeId->Option AT}: ∀{d:List Field} {off:Nat} {a:AT},shapeF P sh d off=some a->a= .nil∨ ∃f r,a= .cons f r
 | [],_,_,h=>by simp[shapeF]at h;exact .inl h.symm
 | f::r,off,a,h=>by
  unfold shapeF at h
  repeat' split at h
  all_goals first
   | (cases h;done)
   | (cases h;exact .inr ⟨_,_,rfl⟩)
theorem bW{r:Reach}{b0:Nat}{n:Nat}{t:TypeId}{a:AT}{v:Value}{d:DataW H}{O:List MemPlace}(hs:shapeP P n t=some a)(j:Value.okWide P w r b0 t v)
  (T:DataW.Trod enc P w base sp held t v d O):bV w a v:=by
 obtain⟨m,hm⟩:=T;have J:=Ix n t a v.cells.toList hs ⟨m,_,hm⟩;cases n with
 | zero=>simp[shapeP]at hs
 | succ n=>
 unfold shapeP at hs;split at hs
 ·rename_i hu;cases hs;obtain⟨b,rfl⟩:=okWide_bool hu j;exact⟨b,rfl⟩
 ·rename_i k hu;cases hs;obtain⟨z,rfl⟩:=okWide_int hu j;obtain⟨Y,h1,N⟩:=J;simp[Value.cells]at h1;subst h1;exact⟨z,rfl,N⟩
 ·rename_i e hu;obtain⟨x,l,c,rfl⟩:=okWide_slice hu j;split at hs
  ·split at hs
   ·cases hs;exact⟨⟨x,l,c⟩,rfl,J⟩
   ·cases hs
  ·cases hs
 ·rename_i fs hu;obtain⟨cs,rfl,K⟩:=okWide_struct hu j;split at hs
  ·rename_i a1 C;split at hs
   ·cases hs;have:PA w a cs.toList:=J;rcases Rj C with rfl|⟨f,r,rfl⟩
    ·exact⟨cs.toList,rfl,this⟩
    ·exact⟨cs.toList,rfl,this⟩
   ·cases hs
  ·cases hs
 ·cases hs
theorem Un{r:Reach}{b0:Nat}: ∀{J:List TypeId} {shs:List AT} {vs:List Value} {C:List (DataW H)} {p:List MemPlace},shapesP P J=some shs->
  (∀(j:Nat) t v,J[j]? =some t->vs[j]? =some v->Value.okWide P w r b0 t v)->DataW.TrodAll enc P w base sp held J vs C p->XI w shs vs
 | [],shs,vs,C,p,hs,_,h=>by
  simp[shapesP]at hs;subst hs;cases vs with
  | nil=>rfl
  | cons v vs=>cases C<;>simp[DataW.TrodAll]at h
 | t::J,shs,vs,C,p,hs,hval,h=>by
  unfold shapesP at hs;split at hs
  ·rename_i a ha;split at hs
   ·rename_i l hl;cases hs;cases vs with
    | nil=>cases C<;>simp[DataW.TrodAll]at h
    | cons v vs=>
     cases C with
     | nil=>simp[DataW.TrodAll]at h
     | cons d C=>
      obtain⟨p1,q1,h1,N,_⟩:=h;exact⟨v,vs,rfl,bW ha (hval 0 t v rfl rfl) h1,Un hl (fun j O Y K T=>hval (j+1) O Y (by simpa using K) (by simpa using T)) N⟩
   ·cases hs
  ·cases hs
def Jh(P:Program):List TypeId->Bool
 | []=>true
 | t::r=>match P.readableRec t with
  | true=>match Nat.ble (t+1) P.types.size with
   | true=>Jh P r
   | false=>false
  | false=>false
theorem Kg(K:laidOutB P=true){W W':World}(N:Below W.heap.size W W'): ∀{C:List TypeId} {vs:List Value} {j:List (DataW H)} {p:List MemPlace},Jh P C=true->
  DataW.TrodAll enc P W 0 (fun _=>true) true C vs j p->DataW.TrodAll enc P W' 0 (fun b=>decide (b<W.heap.size)) true C vs j p
 | [],vs,j,p,_,h=>by
  cases vs<;>cases j<;>simp[DataW.TrodAll]at h⊢ <;>exact h
 | t::C,vs,j,p,hr,h=>by
  unfold Jh at hr;split at hr
  ·rename_i h1;split at hr
   ·rename_i J;have J:=Nat.le_of_ble_eq_true J;cases vs with
    | nil=>cases j<;>simp[DataW.TrodAll]at h
    | cons v vs=>
     cases j with
     | nil=>simp[DataW.TrodAll]at h
     | cons d j=>
      obtain⟨p1,T,O,Y,k3⟩:=h;exact⟨p1,T,Below.trod K h1 J O N (by obtain⟨m,hm⟩:=O;exact DataW.trod_lt m _ _ _ hm),Kg K N hr Y,k3⟩
   ·cases hr
  ·cases hr
theorem Mn: ∀{C:List TypeId} {vs:List Value} {j:List (DataW H)} {p:List MemPlace},DataW.TrodAll enc P w base sp held C vs j p->j.length=C.length
 | [],vs,j,p,h=>by cases vs<;>cases j<;>simp[DataW.TrodAll]at h⊢
 | t::C,vs,j,p,h=>by
  cases vs with
  | nil=>cases j<;>simp[DataW.TrodAll]at h
  | cons v vs=>
   cases j with
   | nil=>simp[DataW.TrodAll]at h
   | cons d j=>
    obtain⟨T,N,K,J,O⟩:=h;simp[Mn J]
end
def NM:AT->Type
 | .int _=>Int| .bool=>Bool| .sl _=>AZ| .nil=>Unit| .cons f r=>NM f×NM r
def NM.W1:(a:AT)->NM a
 | .int _=>(0:Int)| .bool=>false| .sl _=>(⟨none,0,0⟩:AZ)| .nil=>()| .cons f r=>(NM.W1 f,NM.W1 r)
def KM:(a:AT)->NM a->List Value
 | .int k,n=>[.int k n]
 | .bool,b=>[.bool b]
 | .sl _,s=>[.slice (AZ.base s) (AZ.len s) (AZ.cap s)]
 | .nil,_=>[]
 | .cons f r,x=>KM f x.1++KM r x.2
def LZ(w:World)(e:AT)(ok:NM e->Prop)(s:AZ)(z:Nat->NM e):Prop:=s.len<=s.cap/\s.cap<9223372036854775808/\
 ∀j,j<s.len-> ∃x,s.base=some x/\(∀i v,(KM e (z j))[i]? =some v->w.cell? (x.add (j*e.size+i))=some v)/\ok (z j)
def Rk(w:World):(a:AT)->NM a->Prop
 | .int k,n=>(Lit.int k n).wf=true
 | .bool,_=>True
 | .sl e,s=> ∃z,LZ w e (Rk w e) s z
 | .nil,_=>True
 | .cons f r,x=>Rk w f x.1/\Rk w r x.2
abbrev KY(w:World)(e:AT):AZ->(Nat->NM e)->Prop:=LZ w e (Rk w e)
theorem Ia{w:World}:(a:AT)->(cs:List Value)->PA w a cs-> ∃x:NM a,cs=KM a x/\Rk w a x
 | .int k,cs,h=>let⟨n,h1,d⟩:=h;⟨n,h1,d⟩
 | .bool,cs,h=>let⟨b,h1⟩:=h;⟨b,h1,trivial⟩
 | .sl e,cs,h=>by
  obtain⟨s,h1,d,h3,Y⟩:=h;have key: ∀j,∃y:NM e,j<s.len-> ∃x,s.base=some x/\(∀i v,(KM e y)[i]? =some v->w.cell? (x.add (j*e.size+i))=some v)/\Rk w e y:=by
   intro j;by_cases C:j<s.len
   ·obtain⟨x,l,T,g2,K,O⟩:=Y j C;obtain⟨y,rfl,J⟩:=Ia e l O;exact⟨y,fun _=>⟨x,T,K,J⟩⟩
   ·exact⟨NM.W1 e,fun h=>absurd h C⟩
  refine⟨s,h1,fun j=>Classical.choose (key j),d,?_,fun j C=>Classical.choose_spec (key j) C⟩;have:maxLen=9223372036854775807:=by decide
  omega
 | .nil,cs,h=>⟨(),h,trivial⟩
 | .cons f r,cs,h=>by
  obtain⟨a,b,rfl,h1,d⟩:=h;obtain⟨x,rfl,N⟩:=Ia f a h1;obtain⟨y,rfl,J⟩:=Ia r b d;exact⟨(x,y),rfl,N,J⟩
def sH:(a:AT)->NM a->Value
 | .int k,n=>.int k n
 | .bool,b=>.bool b
 | .sl _,s=>.slice (AZ.base s) (AZ.len s) (AZ.cap s)
 | .nil,_=>.agg ⟨[]⟩
 | .cons f r,x=>.agg ⟨KM (.cons f r) x⟩
theorem TT{w:World}{a:AT}{v:Value}(h:bV w a v): ∃x:NM a,v=sH a x/\Rk w a x:=by
 cases a with
 | int k=>exact h
 | bool=>obtain⟨b,h⟩:=h;exact⟨b,h,trivial⟩
 | sl e=>
  obtain⟨s,rfl,h⟩:=h;obtain⟨s',h1,J⟩:=Ia _ _ h;have d:[Value.slice s.base s.len s.cap]=[Value.slice (AZ.base s') (AZ.len s') (AZ.cap s')]:=h1;simp only[List.cons.injEq,Value.slice.injEq,and_true]at d;obtain⟨j,N,K⟩:=d;refine⟨s',?_,J⟩;show Value.slice s.base s.len s.cap=Value.slice (AZ.base s') (AZ.len s') (AZ.cap s');rw[j,N,K]
 | nil=>obtain⟨l,rfl,h⟩:=h;have:l=[]:=h;subst this;exact⟨(),rfl,trivial⟩
 | cons f r=>
  obtain⟨l,rfl,h⟩:=h;obtain⟨x,rfl,C⟩:=Ia _ _ h;exact⟨x,rfl,C⟩
def Rl:List AT->Type
 | []=>Unit
 | a::r=>NM a×Rl r
def NY:(l:List AT)->Rl l->List Value
 | [],_=>[]
 | a::r,x=>sH a x.1::NY r x.2
def TU(w:World):(l:List AT)->Rl l->Prop
 | [],_=>True
 | a::r,x=>Rk w a x.1/\TU w r x.2
theorem OB{w:World}:{l:List AT}->{vs:List Value}->XI w l vs-> ∃x:Rl l,vs=NY l x/\TU w l x
 | [],vs,h=>⟨(),h,trivial⟩
 | a::r,vs,h=>by
  obtain⟨v,s,rfl,h1,j⟩:=h;obtain⟨x,rfl,d⟩:=TT h1;obtain⟨y,rfl,C⟩:=OB j;exact⟨(x,y),rfl,d,C⟩
theorem XJ{n:Int}(h:(Lit.int .u64 n).wf=true):0<=n/\n<18446744073709551616:=by
 have h1:(decide (IntKind.u64.min<=n)&&decide (n<=IntKind.u64.max))=true:=h;rw[Bool.and_eq_true,decide_eq_true_iff,decide_eq_true_iff]at h1;have j:IntKind.u64.min=0:=by decide
 have d:IntKind.u64.max=18446744073709551615:=by decide
 omega
theorem LZ.XK{w:World}{k:IntKind}{ok:Int->Prop}{s:AZ}{z:Nat->Int}(h:LZ w (.int k) ok s z){j:Nat}(d:j<s.len): ∃x,s.base=some x/\w.cell? (x.add j)=some (.int k (z j))/\ok (z j):=by
 obtain⟨x,h1,C,v⟩:=h.2.2 j d;have:=C 0 _ rfl;simp only[AT.size,Nat.mul_one,Nat.add_zero]at this;exact⟨x,h1,this,v⟩
theorem LZ.aZ{w:World}{ok:Bool->Prop}{s:AZ}{z:Nat->Bool}(h:LZ w .bool ok s z){j:Nat}(d:j<s.len): ∃x,s.base=some x/\w.cell? (x.add j)=some (.bool (z j)):=by
 obtain⟨x,h1,v,C⟩:=h.2.2 j d;have:=v 0 _ rfl;simp only[AT.size,Nat.mul_one,Nat.add_zero]at this;exact⟨x,h1,this⟩
end Go.Sh
set_option linter.all false
set_option maxRecDepth 4000
namespace Go.Sh
theorem Sat.DF{P0:Pr}{Ps:List Pr}{w:World}{P:Pr}(i:Nat)(H:Sat (P0::Ps) w)(d:Ps[i]? =some P):Sat (P0::P::Ps.eraseIdx i) w:=H.perm ((DD d).cons P0)
theorem Sat.Mo{P0 P':Pr}{Ps:List Pr}{w:World}(i:Nat)(H:Sat (P0::P'::Ps.eraseIdx i) w)(d:i<Ps.length:=by simp):Sat (P0::Ps.set i P') w:=H.perm ((MP d).cons P0)
def Uo:Pr where
 holds D _:= ∀k,¬D k
 loc h _ _:=h
 lt h hk:=(h _ hk).elim
theorem Sat.emp{F:List Pr}{w:World}(H:Sat F w):Sat (Uo::F) w:=H.new (P:=Uo) (D:=fun _=>False) (Ext.refl _ _) (fun _ f=>f) fun _ f=>f.elim
def flags(n:Nat)(u:Int->Bool):List Value:=(List.range n).map fun i:Nat=>.bool (u i)
theorem E4{n:Nat}{u:Int->Bool}{i:Nat}(d:i<n):(flags n u)[i]? =some (.bool (u i)):=by simp[flags,d]
theorem He{n:Nat}{u:Int->Bool}{i:Int}(h0:0<=i)(d:i<n):(flags n u)[0+i.toNat]? =some (.bool (u i)):=by
 rw[Nat.zero_add,E4 (by omega)];rw[show((i.toNat:Nat):Int)=i by omega]
theorem Ib{n:Nat}{u:Int->Bool}{i:Int}(h0:0<=i)(v:Bool):(flags n u).set (0+i.toNat) (.bool v)=flags n fun j=>if j=i then v else u j:=by
 rw[Nat.zero_add];apply List.ext_getElem?;intro j;rw[List.getElem?_set];by_cases hj:j<n
 ·rw[E4 hj,E4 hj];simp only[flags,List.length_map,List.length_range];by_cases e:i.toNat=j
  ·rw[if_pos e,if_pos (by omega),if_pos (by omega)]
  ·rw[if_neg e,if_neg (by omega)]
 ·simp only[flags,List.length_map,List.length_range];simp[hj];omega
theorem As{n:Nat}{u:Int->Bool}:(flags n u).length=n:=by simp[flags]
theorem Rm{v:Value}{n i:Nat}(d:i<n):(Fu #[v] n)[i]? =some v:=by
 unfold Fu;simp[d,Nat.mod_one]
theorem QX(n:Nat):Fu #[.bool false] n=⟨flags n fun _=>false⟩:=by
 apply Array.ext';apply List.ext_getElem?;intro i;by_cases hi:i<n
 ·rw[E4 hi];simpa using Rm (v:=.bool false) hi
 ·rw[List.getElem?_eq_none (by simp[Fu];omega),List.getElem?_eq_none (by simp[flags];omega)]
def ints(k:IntKind)(l:List Int):List Value:=l.map fun n=>.int k n
theorem Rn{k:IntKind}{l:List Int}{i:Nat}{n:Int}(h:l[i]? =some n):(ints k l)[i]? =some (.int k n):=by simp[ints,h]
def BS(l:List Bool):List Value:=l.map fun b=>.bool b
theorem MR{l:List Bool}{i:Nat}{n:Bool}(h:l[i]? =some n):(BS l)[i]? =some (.bool n):=by simp[BS,h]
def Dx(b:Nat)(k:IntKind)(g:Int->Option Value):Pr where
 holds D w:=(∀i,D i↔i=b)/\ ∃es c m,w.heap[b]? =some (.map es c)/\MapI k es c m/\ ∀i,aget m i=g i
 loc h he hS:=⟨h.1,let⟨es,c,m,h1,h2⟩:=h.2;⟨es,c,m,he.obj h1 (hS _ ((h.1 _).2 rfl)),h2⟩⟩
 lt h hk:=by have:=(h.1 _).1 hk;subst this;obtain⟨es,c,m,h1,_⟩:=h.2;exact Ff h1
section
variable{F:List Pr}{w w':World}{b:Nat}{k:IntKind}{g:Int->Option Value}
theorem XL(H:Sat F w)(k:IntKind){K:Nat->World->Prop}(d: ∀b w',Sat (Dx b k (fun _=>none)::F) w'->Ext AK w w'->K b w'):AL (.map #[] 0) w K:=
 A7 fun w' j hs he=>d _ _ (H.new (P:=Dx w.heap.size k fun _=>none) (D:=fun k=>k=w.heap.size) he ⟨fun _=>Iff.rfl,_,_,[],j,MapI.empty k,fun _=>rfl⟩ fun k v=>by omega) he
theorem Sat.NZ(H:Sat (Dx b k g::F) w): ∃es c m,w.heap[b]? =some (.map es c)/\MapI k es c m/\ ∀i,aget m i=g i:=let⟨_,h⟩:=H.head;h.2
theorem bX(H:Sat (Dx b k g::F) w){n:Int}{z:Value}{K:Value->Bool->Array MapEntry->Prop}(d: ∀es,w.heap[b]? =some (.map es (es.size))∨True->K ((g n).getD z) (g n).isSome es):mP k n (some b) w z K:=by
 obtain⟨es,c,m,h1,v,j⟩:=H.NZ;refine PW h1 v ?_;rw[j];exact d es (.inr trivial)
theorem Sat.mapStep(H:Sat (Dx b k g::F) w){d:Array MapEntry}{j:Nat}{m':List (Int×Value)}{g':Int->Option Value}(he:Ext (Gr b) w w')(h1:w'.heap[b]? =some (.map d j))(C:MapI k d j m')(v: ∀i,aget m' i=g' i):
  Sat (Dx b k g'::F) w':=by
 obtain⟨D,h,hs⟩:=H.step;exact hs w' D _ (he.mono fun i _ J=>(h.1 i).2 J) ⟨h.1,d,j,m',h1,C,v⟩ fun k K=>.inl K
theorem Up(H:Sat (Dx b k g::F) w){n:Int}{v:Value}{K:World->Prop}(d: ∀w',Sat (Dx b k (fun i=>if i=n then some v else g i)::F) w'->K w'):QK k n v (some b) w K:=by
 obtain⟨es,c,m,h1,N,J⟩:=H.NZ;refine N8 h1 N fun w' T Y m' O j C _ _ _ he _=>d w' (H.mapStep he O j fun i=> ?_);rw[C,J]
theorem Uq(H:Sat (Dx b k g::F) w){n:Int}{K:World->Prop}(d: ∀w',Sat (Dx b k (fun i=>if i=n then none else g i)::F) w'->K w'):MDEL k n (some b) w K:=by
 obtain⟨es,c,m,h1,J,C⟩:=H.NZ;refine Kx h1 J fun w' O m' N j v _ _ _ he _=>d w' (H.mapStep he N j fun i=> ?_);rw[v,C]
end
def F4(s:AZ)(vs:List Value):Pr where
 holds D w:=(∀k,D k↔LW s k)/\s.len<=s.cap/\vs.length=s.len/\s.cap<9223372036854775808/\(∀a,s.base=some a->a.block<w.heap.size)/\rowAt w s.base s.len vs
 loc h he hS:=⟨h.1,h.2.1,h.2.2.1,h.2.2.2.1,fun a d=>by have:=h.2.2.2.2.1 a d;have:=he.size;omega,Vk h.2.2.2.2.2 he fun a d _=>hS _ ((h.1 _).2 ⟨a,d,rfl⟩)⟩
 lt h hk:=by obtain⟨a,d,rfl⟩:=(h.1 _).1 hk;exact h.2.2.2.2.1 a d
section
variable{F:List Pr}{w w':World}{t:Nat}{s:AZ}{vs:List Value}
theorem Sat.ZA(H:Sat (Row t 1 s vs::F) w):Sat (F4 s vs::F) w:=by
 obtain⟨D,h,hs⟩:=H.step;have d:=h.2;refine hs w D _ (Ext.refl _ _) ⟨h.1,d.cap,by simpa using d.len,d.top,fun a j=>(d.lt j).2.1,by simpa using d.rowAt⟩ fun k v=>.inl v
theorem Sat.Iy(H:Sat (F4 s vs::F) w):vs.length=s.len/\s.len<=s.cap/\s.cap<9223372036854775808:=let⟨_,h⟩:=H.head;⟨h.2.2.1,h.2.1,h.2.2.2.1⟩
theorem Sat.Ji(H:Sat (F4 s vs::F) w){j:Nat}{v:Value}(C:vs[j]? =some v): ∃a,s.base=some a/\w.cell? (a.add j)=some v:=by
 obtain⟨D,h⟩:=H.head;have d:=h.2.2.2.2.2;cases hb:s.base with
 | none=>rw[hb]at d;have:vs=[]:=d;subst this;simp at C
 | some a=>rw[hb]at d;exact⟨a,rfl,d.2 j v C⟩
theorem Ur{b:Option Addr}{c m z:Nat}{k:Nat}:(∃a,Fe b c m z=some a/\k=a.block)↔ ∃a,b=some a/\k=a.block:=by
 unfold Fe;split
 ·exact Iff.rfl
 ·cases b with
  | none=>simp
  | some a=>simp[PU]
theorem Sat.Jj(H:Sat (F4 s vs::F) w){n:Nat}(j:n<=s.len):Sat (F4 ⟨Fe s.base s.cap n 1,s.len-n,s.cap-n⟩ (vs.drop n)::F) w:=by
 obtain⟨D,h,hs⟩:=H.step;refine hs w D _ (Ext.refl _ _) ⟨fun k=> ?_,?_,?_,?_,?_,?_⟩ fun k J=>.inl J
 ·rw[h.1];exact Ur.symm
 ·simp only;have:=h.2.1;omega
 ·simp only[List.length_drop,h.2.2.1]
 ·simp only;have:=h.2.2.2.1;omega
 ·intro a v;obtain⟨C,d,e⟩:=(Ur (k:=a.block)).1 ⟨a,v,rfl⟩;rw[e];exact h.2.2.2.2.1 C d
 ·have:=Ha (z:=1) h.2.2.2.2.2 (by simp) j h.2.1 h.2.2.1;simpa using this
theorem Sat.ZB{F:List Pr}{w:World}(H:Sat F w):Sat (F4 ⟨none,0,0⟩ []::F) w:=
 H.new (P:=F4 ⟨none,0,0⟩ []) (D:=LW ⟨none,0,0⟩) (Ext.refl _ _) ⟨fun _=>Iff.rfl,Nat.le_refl _,rfl,by decide,fun _ h=>(by cases h),rfl⟩ fun k j=>by obtain⟨a,d,_⟩:=j;cases d
end
abbrev jD:=Int->Option (Nat×(Int->Int))
def OC(n:Nat)(G:jD):Pr where
 holds D w:=(∀k,D k↔ ∃p x,G p=some x/\k=x.1)/\(∀p q x y,G p=some x->G q=some y->x.1=y.1->p=q)/\
  ∀p x,G p=some x->x.1<w.heap.size/\ ∀j:Nat,j<n->w.cell? ⟨x.1,j,none⟩=some (.int .u64 (x.2 j))/\w.frozen? ⟨x.1,j,none⟩=false
 loc h he hS:=⟨h.1,h.2.1,fun p x hp=>⟨by have:=(h.2.2 p x hp).1;have:=he.size;omega,fun j d=>⟨he.cell ((h.2.2 p x hp).2 j d).1 (hS _ ((h.1 _).2 ⟨p,x,hp,rfl⟩)),by
  rw[he.frozen (p:=⟨x.1,j,none⟩) (h.2.2 p x hp).1 (hS _ ((h.1 _).2 ⟨p,x,hp,rfl⟩))];exact((h.2.2 p x hp).2 j d).2⟩⟩⟩
 lt h hk:=by obtain⟨p,x,hp,rfl⟩:=(h.1 _).1 hk;exact(h.2.2 p x hp).1
section
variable{F:List Pr}{w w':World}{n:Nat}{G:jD}
theorem Sat.jE(H:Sat F w)(n:Nat):Sat (OC n (fun _=>none)::F) w:=
 H.new (P:=OC n fun _=>none) (D:=fun _=>False) (Ext.refl _ _) ⟨fun k=>⟨fun f=>f.elim,fun⟨_,_,h,_⟩=>(by cases h)⟩,fun _ _ _ _ h=>(by cases h),fun _ _ h=>(by cases h)⟩ fun _ f=>f.elim
theorem Sat.bY(H:Sat (OC n G::F) w){G':jD}(d: ∀p x,G' p=some x->G p=some x):Sat (OC n G'::F) w:=by
 obtain⟨D,h,hs⟩:=H.step;refine hs w (fun k=> ∃p x,G' p=some x/\k=x.1) _ (Ext.refl _ _) ⟨fun _=>Iff.rfl,fun p q x y hp j=>h.2.1 p q x y (d p x hp) (d q y j),fun p x hp=>h.2.2 p x (d p x hp)⟩ fun k v=>.inl ?_;obtain⟨p,x,hp,rfl⟩:=v;exact(h.1 _).2 ⟨p,x,d p x hp,rfl⟩
end
theorem Et{σ:Type}{first:(σ->World->Prop)->Prop}{rest:σ->(Nat->Value)->World->Prop}(J:σ->World->Prop)(h1:first J)(d: ∀s j w,J s w->rest s j w):Av σ first rest:=⟨J,h1,d⟩
end Go.Sh
set_option linter.all false
set_option maxRecDepth 4000
namespace Go.Sh
def Ap{α:Type}(R:α->Pr)(L:List α):Pr:=N9 (L.map R)
section
variable{α:Type}{R R':α->Pr}{L L':List α}{F:List Pr}{w:World}
theorem Sat.many:Sat (Ap R L::F) w↔Sat (L.map R++F) w:=Sat.star
theorem Sat.Jk(H:Sat (Ap R L::F) w)(h:L.Perm L'):Sat (Ap R L'::F) w:=
 Sat.many.2 ((Sat.many.1 H).perm ((h.map R).append_right F))
theorem Sat.Jl{x:α}:Sat (Ap R (x::L)::F) w↔Sat (R x::Ap R L::F) w:=by
 constructor
 ·intro H;have h1:Sat (R x::(L.map R++F)) w:=Sat.many.1 H;have d:Sat (L.map R++(R x::F)) w:=h1.perm List.perm_middle.symm;exact(Sat.many.2 d).perm (.swap _ _ _)
 ·intro H;have d:Sat (L.map R++(R x::F)) w:=Sat.many.1 (H.perm (.swap _ _ _));exact Sat.many.2 (d.perm List.perm_middle)
theorem Sat.IF(H:Sat (Ap R L::F) w){i:Nat}{x:α}(d:L[i]? =some x):Sat (R x::Ap R (L.eraseIdx i)::F) w:=
 Sat.Jl.1 (H.Jk (DD d))
theorem Sat.Hf{i:Nat}{x:α}(H:Sat (R x::Ap R (L.eraseIdx i)::F) w)(d:L[i]? =some x):Sat (Ap R L::F) w:=
 (Sat.Jl.2 H).Jk (DD d).symm
theorem Sat.OD{x:α}(H:Sat (R x::Ap R L::F) w):Sat (Ap R (L++[x])::F) w:=
 (Sat.Jl.2 H).Jk (List.perm_append_singleton x L).symm
theorem Sat.KN(H:Sat F w)(R:α->Pr):Sat (Ap R []::F) w:=Sat.many.2 H
theorem Sat.ZC:Sat (Ap R (L++L')::F) w↔Sat (Ap R L::Ap R L'::F) w:=by
 rw[Sat.many,Sat.many,List.map_append,List.append_assoc];constructor
 ·intro H;have h1:Sat (L'.map R++(L.map R++F)) w:=by
   refine H.perm ?_;rw[<-List.append_assoc,<-List.append_assoc];exact List.perm_append_comm.append_right F
  exact(Sat.many.2 h1).perm List.perm_middle.symm
 ·intro H;have h1:Sat (Ap R L'::(L.map R++F)) w:=H.perm List.perm_middle;refine(Sat.many.1 h1).perm ?_;rw[<-List.append_assoc,<-List.append_assoc];exact List.perm_append_comm.append_right F
theorem Ap.congr(h: ∀x∈L,R x=R' x):Ap R L=Ap R' L:=by
 unfold Ap;rw[List.map_congr_left h]
end
theorem GB{t n z:Nat}{vs:List Value}{Rs:List Pr}{w:World}(H:Sat Rs w)(J:vs.length=n*z)(d:n<9223372036854775808){K:Nat->World->Prop}
  (j: ∀b w',Sat (Row t z ⟨some ⟨b,0,none⟩,n,n⟩ vs::Rs) w'->K b w'):AL (.cells ⟨vs⟩ t) w K:=
 A7 fun w' v hs he=>j _ _ (H.new (P:=Row t z ⟨some ⟨w.heap.size,0,none⟩,n,n⟩ vs) (D:=LW ⟨some ⟨w.heap.size,0,none⟩,n,n⟩) he
  ⟨fun _=>Iff.rfl,QT v J (Nat.zero_le _) d⟩ fun k N=>by obtain⟨x,C,rfl⟩:=N;cases C;exact Nat.le_refl _)
theorem Dz{n:Nat}{u v:Int->Bool}(h: ∀k,0<=k->k<(n:Int)->u k=v k):flags n u=flags n v:=by
 unfold flags;refine List.map_congr_left fun k d=> ?_;rw[List.mem_range]at d;rw[h k (by omega) (by omega)]
end Go.Sh
set_option linter.all false
set_option maxRecDepth 4000
namespace Go.Sh
def wN(u:Nat->Bool):Nat->Nat
 | 0=>0
 | n+1=>wN u n|||(if u n then 2^n else 0)
theorem DZ(u:Nat->Bool): ∀(n i:Nat),(wN u n).testBit i=(decide (i<n)&&u i)
 | 0,i=>by simp[wN]
 | n+1,i=>by
  simp only[wN,Nat.testBit_or,DZ u n i];by_cases e:i=n
  ·subst e;cases hu:u i<;>simp[hu,Nat.testBit_two_pow_self]
  ·have d:(if u n then 2^n else 0:Nat).testBit i=false:=by
    split
    ·exact Nat.testBit_two_pow_of_ne (fun h=>e h.symm)
    ·simp
   rw[d,Bool.or_false];have:decide (i<n)=decide (i<n+1):=decide_eq_decide.2 (by omega);rw[this]
theorem Jm(u:Nat->Bool)(n:Nat):wN u n<2^n:=
 Nat.lt_pow_two_of_testBit _ fun i d=>by rw[DZ];simp;omega
theorem bZ(u:Nat->Bool)(n:Nat):wN u (n+1)=wN u n+2^n*(u n).toNat:=by
 simp only[wN];cases h:u n
 ·simp
 ·rw[if_pos rfl,Nat.or_two_pow_eq_add_of_lt (Jm u n)];simp
theorem XM{u v:Nat->Bool}{n:Nat}(h: ∀i,i<n->u i=v i):wN u n=wN v n:=by
 apply Nat.eq_of_testBit_eq;intro i;rw[DZ,DZ];by_cases hi:i<n
 ·rw[h i hi]
 ·simp[hi]
theorem cA{u v:Nat->Bool}{n:Nat}(h:wN u n=wN v n){i:Nat}(d:i<n):u i=v i:=by
 have:=congrArg (fun x=>x.testBit i) h;simpa[DZ,d]using this
def W(u:Nat->Bool):Int:=(wN u 64:Nat)
theorem jF(u:Nat->Bool):0<=W u/\W u<18446744073709551616:=by
 have:=Jm u 64;unfold W;have e:(2:Nat)^64=18446744073709551616:=by decide
 omega
theorem IG{u v:Nat->Bool}(h: ∀i,i<64->u i=v i):W u=W v:=by unfold W;rw[XM h]
theorem jG{u v:Nat->Bool}(h:W u=W v){i:Nat}(d:i<64):u i=v i:=by
 unfold W at h;exact cA (Int.ofNat.inj h) d
theorem jH{u v:Nat->Bool}:W u=W v↔ ∀i,i<64->u i=v i:=⟨fun h i d=>jG h d,IG⟩
theorem QY:W (fun _=>false)=0:=by
 unfold W;have:wN (fun _=>false) 64=0:=by
  apply Nat.eq_of_testBit_eq;intro i;rw[DZ];simp
 rw[this];rfl
theorem cB:W (fun _=>true)=18446744073709551615:=by
 unfold W;have:wN (fun _=>true) 64=18446744073709551615:=by
  have e:(18446744073709551615:Nat)=2^64-1:=by decide
  rw[e];apply Nat.eq_of_testBit_eq;intro i;rw[DZ,Nat.testBit_two_pow_sub_one];simp
 rw[this];rfl
theorem jI:W (fun i=>i==0)=1:=by
 unfold W;have:wN (fun i=>i==0) 64=1:=by
  apply Nat.eq_of_testBit_eq;intro i;rw[DZ];have:Nat.testBit 1 i=decide (0=i):=Nat.testBit_two_pow (n:=0) (m:=i);rw[this];cases i<;>simp
 rw[this];rfl
theorem GZ{u:Nat->Bool}:W u=0↔ ∀i,i<64->u i=false:=by
 rw[<-QY,jH]
theorem iO(u:Nat->Bool):(BitVec.ofInt 64 (W u)).toNat=wN u 64:=by
 unfold W;rw[BitVec.ofInt_natCast,BitVec.toNat_ofNat];exact Nat.mod_eq_of_lt (Jm u 64)
theorem Ro{n:Nat}(h:n<18446744073709551616):IntKind.wrap .u64 (n:Int)=(n:Int):=AG
theorem a5(u v:Nat->Bool):E8 .u64 0 (W u) (W v)=W fun i=>u i&&v i:=by
 show IntKind.wrap .u64 ((BitVec.ofInt 64 (W u)&&&BitVec.ofInt 64 (W v)).toNat:Int)=_;rw[BitVec.toNat_and,iO,iO];have e:wN u 64&&&wN v 64=wN (fun i=>u i&&v i) 64:=by
  apply Nat.eq_of_testBit_eq;intro i;rw[Nat.testBit_and,DZ,DZ,DZ];cases decide (i<64)<;>simp
 rw[e,Ro (Jm _ 64)];rfl
theorem cC(u v:Nat->Bool):E8 .u64 1 (W u) (W v)=W fun i=>u i||v i:=by
 show IntKind.wrap .u64 ((BitVec.ofInt 64 (W u)|||BitVec.ofInt 64 (W v)).toNat:Int)=_;rw[BitVec.toNat_or,iO,iO];have e:wN u 64|||wN v 64=wN (fun i=>u i||v i) 64:=by
  apply Nat.eq_of_testBit_eq;intro i;rw[Nat.testBit_or,DZ,DZ,DZ];cases decide (i<64)<;>simp
 rw[e,Ro (Jm _ 64)];rfl
theorem Rp(u v:Nat->Bool):E8 .u64 3 (W u) (W v)=W fun i=>u i&& !v i:=by
 show IntKind.wrap .u64 ((BitVec.ofInt 64 (W u)&&& ~~~BitVec.ofInt 64 (W v)).toNat:Int)=_;rw[BitVec.toNat_and,iO,BitVec.toNat_not,iO];have e:wN u 64&&&(2^64-1-wN v 64)=wN (fun i=>u i&& !v i) 64:=by
  apply Nat.eq_of_testBit_eq;intro i;have d:2^64-1-wN v 64=2^64-(wN v 64+1):=by omega
  rw[Nat.testBit_and,d,Nat.testBit_two_pow_sub_succ (Jm v 64),DZ,DZ,DZ];cases decide (i<64)<;>simp
 rw[e,Ro (Jm _ 64)];rfl
theorem a6(u:Nat->Bool){n:Int}(h0:0<=n)(h1:n<=64):Int.fdiv (W u) (2^(min n.toNat (IntKind.bits .u64)))=W fun i=>decide (i+n.toNat<64)&&u (i+n.toNat):=by
 have d:IntKind.bits .u64=64:=rfl;rw[d,Nat.min_eq_left (by omega),Int.fdiv_eq_ediv_of_nonneg _ (Int.pow_nonneg (by decide))];generalize n.toNat=k;unfold W;have e:((wN u 64:Nat):Int)/2^k=((wN u 64/2^k:Nat):Int):=by
  rw[Int.natCast_ediv,Int.natCast_pow];rfl
 rw[e];congr 1;apply Nat.eq_of_testBit_eq;intro i;rw[Nat.testBit_div_two_pow,DZ,DZ];by_cases h:i+k<64
 ·have:i<64:=by omega
  simp[h,this]
 ·simp[h]
theorem a7(u:Nat->Bool){n:Int}(h0:0<=n)(h1:n<=64):u64 (W u*2^(min n.toNat (IntKind.bits .u64)))=W fun i=>decide (n.toNat<=i)&&u (i-n.toNat):=by
 have d:IntKind.bits .u64=64:=rfl;rw[d,Nat.min_eq_left (by omega)];generalize n.toNat=k;unfold W;have e:((wN u 64:Nat):Int)*2^k=((wN u 64*2^k:Nat):Int):=by
  rw[Int.natCast_mul,Int.natCast_pow];rfl
 rw[e,NU];have j:(((wN u 64*2^k:Nat):Int) %18446744073709551616)=((wN u 64*2^k %2^64:Nat):Int):=by
  rw[Int.natCast_emod];rfl
 rw[j];congr 1;apply Nat.eq_of_testBit_eq;intro i;rw[Nat.testBit_mod_two_pow,Nat.testBit_mul_two_pow,DZ,DZ];by_cases h:i<64
 ·by_cases h2:k<=i
  ·have:i-k<64:=by omega
   simp[h,h2,this]
  ·simp[h,h2]
 ·simp[h]
theorem XN{x:Nat}(h0:x≠0)(h:x<2^64):E8 .u64 0 (x:Int) (u64 (0-x))=((x&&&(2^64-x):Nat):Int):=by
 have e:u64 (0-(x:Int))=((2^64-x:Nat):Int):=by
  rw[NU];have d:(2:Nat)^64=18446744073709551616:=by decide
  omega
 rw[e];show IntKind.wrap .u64 ((BitVec.ofInt 64 (x:Int)&&&BitVec.ofInt 64 ((2^64-x:Nat):Int)).toNat:Int)=_;rw[BitVec.toNat_and,BitVec.ofInt_natCast,BitVec.ofInt_natCast,BitVec.toNat_ofNat,BitVec.toNat_ofNat,Nat.mod_eq_of_lt h,Nat.mod_eq_of_lt (by omega)];exact Ro (Nat.lt_of_le_of_lt Nat.and_le_left h)
theorem ZD{x:Nat}(h0:x≠0)(h:x<2^64):Lib.ctz 64 x<64/\x.testBit (Lib.ctz 64 x)=true/\ ∀i,i<Lib.ctz 64 x->x.testBit i=false:=by
 obtain⟨m,hm,d⟩:=Lib.ctzFrom_spec 64 x (by omega) h;have e:Lib.ctz 64 x=Lib.ctzFrom 64 x:=by simp[Lib.ctz,h0]
 rw[e];generalize Lib.ctzFrom 64 x=k at hm d;refine⟨d,?_,fun i j=> ?_⟩
 ·rw[hm,Nat.testBit_two_pow_mul];simp
 ·rw[hm,Nat.testBit_two_pow_mul];simp;omega
def GC(g:Nat)(w:World):Prop:= ∀i,i<64->w.cell? ⟨g,i,none⟩=some (.int .u8 (Lib.deBruijn64tab.getD i 0:Nat))
theorem GC.ext{g:Nat}{w w':World}(h:GC g w)(he:Ext AK w w'):GC g w':=fun i d=>he.cell (h i d) fun f=>f
def D(B:Nat):Nat->(Nat->Nat)->Nat
 | 0,_=>0
 | n+1,d=>d 0+B*D B n fun j=>d (j+1)
theorem Iz{B:Nat}: ∀{n:Nat} {d e:Nat->Nat},(∀j,j<n->d j=e j)->D B n d=D B n e
 | 0,_,_,_=>rfl
 | n+1,d,e,h=>by
  simp only[D];rw[h 0 (by omega),Iz fun j v=>h (j+1) (by omega)]
theorem QZ(B:Nat): ∀(n:Nat) (d:Nat->Nat),D B (n+1) d=D B n d+B^n*d n
 | 0,d=>by simp[D]
 | n+1,d=>by
  have v:=QZ B n fun j=>d (j+1);show d 0+B*D B (n+1) (fun j=>d (j+1))=d 0+B*D B n (fun j=>d (j+1))+B^(n+1)*d (n+1);rw[v,Nat.mul_add,Nat.pow_succ,Nat.mul_comm (B^n) B,Nat.mul_assoc];omega
theorem TW{B:Nat}: ∀{n:Nat} {d:Nat->Nat},(∀j,d j<B)->D B n d<B^n
 | 0,_,_=>by simp[D]
 | n+1,d,h=>by
  have v:=TW (B:=B) (n:=n) (d:=fun j=>d (j+1)) fun j=>h (j+1);have h0:=h 0;have e:B^(n+1)=B*B^n:=by rw[Nat.pow_succ,Nat.mul_comm]
  have:B*(D B n (fun j=>d (j+1))+1)<=B*B^n:=Nat.mul_le_mul_left _ v;rw[Nat.mul_add]at this;rw[e];simp only[D];omega
theorem OE(B:Nat): ∀(n:Nat) (d e:Nat->Nat),D B n d+D B n e=D B n fun j=>d j+e j
 | 0,_,_=>rfl
 | n+1,d,e=>by
  simp only[D];rw[<-OE B n,Nat.mul_add];omega
theorem Rq{B:Nat}{n:Nat}{d:Nat->Nat}(h0:d 0<B)(v:d n=0):D B n d/B=D B n fun j=>d (j+1):=by
 cases n with
 | zero=>simp[D]
 | succ n=>
  have e:D B (n+1) (fun j=>d (j+1))=D B n fun j=>d (j+1):=by rw[QZ];simp[v]
  rw[e];simp only[D];rw[Nat.add_mul_div_left _ _ (by omega),Nat.div_eq_of_lt h0,Nat.zero_add]
theorem Qa{B n:Nat}{d:Nat->Nat}(h: ∀j,d j<B)(hz: ∀j,n<=j->d j=0): ∀k,D B n d/B^k=D B n fun j=>d (j+k)
 | 0=>by simp
 | k+1=>by
  rw[Nat.pow_succ,<-Nat.div_div_eq_div_mul,Qa h hz k,Rq (d:=fun j=>d (j+k)) (h _) (hz _ (by omega))];exact Iz fun j _=>by rw[Nat.add_right_comm,Nat.add_assoc]
theorem Vo{b x y X Y:Nat}(j:x<2^b)(d:y<2^b):(x+2^b*X)&&&(y+2^b*Y)=(x&&&y)+2^b*(X&&&Y):=by
 apply Nat.eq_of_testBit_eq;intro i;rw[Nat.add_comm x,Nat.add_comm y,Nat.add_comm (x&&&y),Nat.testBit_and,Nat.testBit_two_pow_mul_add _ j,Nat.testBit_two_pow_mul_add _ d,Nat.testBit_two_pow_mul_add _ (Nat.and_lt_two_pow x d)];split<;>rw[Nat.testBit_and]
theorem a8{b:Nat}: ∀(n:Nat) (d m:Nat->Nat),(∀j,d j<2^b)->(∀j,m j<2^b)->D (2^b) n d&&&D (2^b) n m=D (2^b) n fun j=>d j&&&m j
 | 0,_,_,_,_=>by simp[D]
 | n+1,d,m,h1,h2=>by
  simp only[D];rw[Vo (h1 0) (h2 0),a8 n _ _ (fun j=>h1 (j+1)) fun j=>h2 (j+1)]
theorem XO(B:Nat): ∀(n:Nat) (d:Nat->Nat),D B (2*n) d=D (B*B) n fun j=>d (2*j)+B*d (2*j+1)
 | 0,_=>rfl
 | n+1,d=>by
  rw[show 2*(n+1)=2*n+1+1 by omega];simp only[D];rw[XO B n];have e:(fun j=>d (2*j+1+1)+B*d (2*j+1+1+1))=fun j=>d (2*(j+1))+B*d (2*(j+1)+1):=by
   funext j;rw[show 2*(j+1)=2*j+1+1 by omega]
  rw[e,Nat.mul_add,Nat.mul_assoc,Nat.mul_zero,Nat.zero_add];omega
def Wp(f:Nat->Nat):Nat->Nat:=fun j=>if j %2=0 then f j else 0
theorem OF{b B:Nat}(v:B=2^b)(n:Nat)(d:Nat->Nat)(h: ∀j,d j<B):D B n d&&&D B n (Wp fun _=>B-1)=D B n (Wp d):=by
 subst v;have hp:0<2^b:=Nat.two_pow_pos b;rw[a8 n d _ h fun j=>by dsimp only[Wp];split<;>omega];congr 1;funext j;dsimp only[Wp];split
 ·exact Nat.and_two_pow_sub_one_of_lt_two_pow (h j)
 ·simp
theorem XP(B n:Nat)(d:Nat->Nat):D B (2*n) (Wp d)=D (B*B) n fun j=>d (2*j):=by
 rw[XO];congr 1;funext j;unfold Wp;rw[if_pos (by omega),if_neg (by omega)];omega
theorem jJ(u:Nat->Bool): ∀n,wN u n=D 2 n fun j=>(u j).toNat
 | 0=>rfl
 | n+1=>by rw[bZ,QZ,jJ u n]
def cN(u:Nat->Bool):Nat->Nat
 | 0=>0
 | n+1=>cN u n+(u n).toNat
theorem Us(u:Nat->Bool)(n:Nat):cN u n<=n:=by
 induction n with
 | zero=>exact Nat.le_refl _
 | succ n ih=>simp only[cN];have:=Bool.toNat_le (u n);omega
theorem nP{u:Nat->Bool}(hu: ∀i,64<=i->u i=false){x0 x1 C x3 x4 T x6:Nat}(h0:x0=wN u 64)(h1:x1=(x0/2&&&6148914691236517205)+(x0&&&6148914691236517205))
  (h2:C=(x1/4&&&3689348814741910323)+(x1&&&3689348814741910323))(h3:x3=(C/16+C)&&&1085102592571150095)(h4:x4=x3+x3/256)(h5:T=x4+x4/65536)(h6:x6=T+T/4294967296):
  x1<18446744073709551616/\C<18446744073709551616/\C/16+C<18446744073709551616/\x4<18446744073709551616/\T<18446744073709551616/\x6<9223372036854775808/\x6 %128=cN u 64:=by
 obtain⟨d,hd⟩: ∃d:Nat->Nat,∀j,d j=(u j).toNat:=⟨_,fun _=>rfl⟩;have hb: ∀j,d j<=1:=fun j=>by rw[hd];exact Bool.toNat_le (u j)
 have hz: ∀j,64<=j->d j=0:=fun j Y=>by rw[hd,hu j Y];rfl
 have e0:x0=D 2 64 d:=by rw[h0,jJ];exact Iz fun j _=>(hd j).symm
 have m1:(6148914691236517205:Nat)=D 2 64 (Wp fun _=>2-1):=by decide+kernel
 have m2:(3689348814741910323:Nat)=D 4 32 (Wp fun _=>4-1):=by decide+kernel
 have m3:(1085102592571150095:Nat)=D 16 16 (Wp fun _=>16-1):=by decide+kernel
 have q1: ∀d,D 2 64 (Wp d)=D 4 32 fun j=>d (2*j):=fun d=>XP 2 32 d;have q2: ∀d,D 4 32 (Wp d)=D 16 16 fun j=>d (2*j):=fun d=>XP 4 16 d;have q3: ∀d,D 16 16 (Wp d)=D 256 8 fun j=>d (2*j):=fun d=>XP 16 8 d;obtain⟨c,J⟩: ∃c:Nat->Nat,∀j,c j=d (2*j+1)+d (2*j):=⟨_,fun _=>rfl⟩;have bc: ∀j,c j<=2:=fun j=>by rw[J];have:=hb (2*j);have:=hb (2*j+1);omega
 have zc: ∀j,32<=j->c j=0:=fun j Y=>by rw[J,hz _ (by omega),hz _ (by omega)]
 have e1:x1=D 4 32 c:=by
  rw[h1,e0,Rq (by have:=hb 0;omega) (hz 64 (by omega)),m1,OF (b:=1) rfl 64 _ (fun j=>by have:=hb (j+1);omega),OF (b:=1) rfl 64 _ (fun j=>by have:=hb j;omega),q1,q1,OE];exact Iz fun j _=>(J j).symm
 have l1:x1<4^32:=by rw[e1];exact TW fun j=>by have:=bc j;omega
 obtain⟨e,N⟩: ∃e:Nat->Nat,∀j,e j=c (2*j+1)+c (2*j):=⟨_,fun _=>rfl⟩;have be: ∀j,e j<=4:=fun j=>by rw[N];have:=bc (2*j);have:=bc (2*j+1);omega
 have ze: ∀j,16<=j->e j=0:=fun j Y=>by rw[N,zc _ (by omega),zc _ (by omega)]
 have e2:C=D 16 16 e:=by
  rw[h2,e1,Rq (by have:=bc 0;omega) (zc 32 (by omega)),m2,OF (b:=2) rfl 32 _ (fun j=>by have:=bc (j+1);omega),OF (b:=2) rfl 32 _ (fun j=>by have:=bc j;omega),q2,q2,OE];exact Iz fun j _=>(N j).symm
 have l2:C<16^16:=by rw[e2];exact TW fun j=>by have:=be j;omega
 have aE:C/16+C=D 16 16 fun j=>e (j+1)+e j:=by
  rw[e2,Rq (by have:=be 0;omega) (ze 16 (by omega)),OE]
 have l3:C/16+C<16^16:=by rw[aE];exact TW fun j=>by have:=be j;have:=be (j+1);omega
 obtain⟨g,K⟩: ∃g:Nat->Nat,∀j,g j=e (2*j+1)+e (2*j):=⟨_,fun _=>rfl⟩;have v: ∀j,g j<=8:=fun j=>by rw[K];have:=be (2*j);have:=be (2*j+1);omega
 have O: ∀j,8<=j->g j=0:=fun j Y=>by rw[K,ze _ (by omega),ze _ (by omega)]
 have e3:x3=D 256 8 g:=by
  rw[h3,aE,m3,OF (b:=4) rfl 16 _ (fun j=>by have:=be j;have:=be (j+1);omega),q3];exact Iz fun j _=>(K j).symm
 have e4:x4=D 256 8 fun j=>g j+g (j+1):=by
  rw[h4,e3,Rq (by have:=v 0;omega) (O 8 (by omega)),OE]
 have l4:x4<256^8:=by rw[e4];exact TW fun j=>by have:=v j;have:=v (j+1);omega
 have e5:T=D 256 8 fun j=>g j+g (j+1)+(g (j+2)+g (j+3)):=by
  have:=Qa (B:=256) (n:=8) (d:=fun j=>g j+g (j+1)) (fun j=>by have:=v j;have:=v (j+1);omega) (fun j Y=>by rw[O _ Y,O _ (by omega)]) 2;rw[h5,e4,show(65536:Nat)=256^2 from rfl,this,OE]
 have l5:T<256^8:=by rw[e5];exact TW fun j=>by have:=v j;have:=v (j+1);have:=v (j+2);have:=v (j+3);omega
 obtain⟨k,hk⟩: ∃k:Nat->Nat,∀j,k j=g j+g (j+1)+(g (j+2)+g (j+3)):=⟨_,fun _=>rfl⟩;have bk: ∀j,k j<=32:=fun j=>by rw[hk];have:=v j;have:=v (j+1);have:=v (j+2);have:=v (j+3);omega
 have zk: ∀j,8<=j->k j=0:=fun j Y=>by rw[hk,O _ (by omega),O _ (by omega),O _ (by omega),O _ (by omega)]
 have aL:T=D 256 8 k:=by rw[e5];exact Iz fun j _=>(hk j).symm
 have e6:x6=D 256 8 fun j=>k j+k (j+4):=by
  have:=Qa (B:=256) (n:=8) (d:=k) (fun j=>by have:=bk j;omega) zk 4;rw[h6,aL,show(4294967296:Nat)=256^4 from rfl,this,OE]
 have l6:x6<9223372036854775808:=by
  rw[e6,QZ];have h1:D 256 7 (fun j=>k j+k (j+4))<256^7:=TW fun j=>by have:=bk j;have:=bk (j+4);omega
  have b7:=bk 7;have aN:=zk 11 (by omega);have e:(256:Nat)^7=72057594037927936:=by decide
  rw[e]at h1⊢;have:k (7+4)=0:=aN;rw[this];omega
 have p1:(4:Nat)^32=18446744073709551616:=by decide
 have p2:(16:Nat)^16=18446744073709551616:=by decide
 have p3:(256:Nat)^8=18446744073709551616:=by decide
 rw[p1]at l1;rw[p2]at l2 l3;rw[p3]at l4 l5;refine⟨l1,l2,l3,l4,l5,l6,?_⟩;have e7:x6 %128=k 0+k 4:=by
  rw[e6];have b0:=bk 0;have b4:=bk 4;rw[show(8:Nat)=7+1 from rfl];simp only[D,Nat.zero_add];omega
 have aG:cN u 64=k 0+k 4:=by
  simp only[hk,K,N,J,hd,Nat.reduceMul,Nat.reduceAdd];simp only[cN,Nat.reduceMul,Nat.reduceAdd];omega
 rw[e7,aG]
end Go.Sh
set_option linter.all false
set_option maxRecDepth 4000
namespace Go.Sh
def I0{α:Type}(n:Nat)(z:Nat->α):List α:=(List.range n).map z
theorem Fi{α:Type}(n:Nat)(z:Nat->α):(I0 n z).length=n:=by simp[I0]
theorem Rr{α:Type}{n i:Nat}(z:Nat->α)(d:i<n):(I0 n z)[i]? =some (z i):=by simp[I0,d]
theorem OG{w:World}{k:IntKind}{ok:Int->Prop}{s:AZ}{z:Nat->Int}(h:LZ w (.int k) ok s z):rowAt w s.base s.len (ints k (I0 s.len z)):=by
 cases hb:s.base with
 | none=>
  have:s.len=0:=by
   rcases Nat.eq_zero_or_pos s.len with e|e
   ·exact e
   ·obtain⟨x,d,_⟩:=h.XK e;rw[hb]at d;cases d
  show ints k (I0 s.len z)=[];rw[this];rfl
 | some a=>
  refine⟨by simp[ints,Fi],fun j v J=> ?_⟩;have C:j<s.len:=by
   have:=(List.getElem?_eq_some_iff.1 J).1;simpa[ints,Fi]using this
  rw[Rn (Rr z C)]at J;cases J;obtain⟨x,d,K,_⟩:=h.XK C;rw[hb]at d;cases d;exact K
theorem LZ.jK{w w':World}{k:IntKind}{s:AZ}{z:Nat->Int}(h:KY w (.int k) s z)(he:Ext AK w w'):KY w' (.int k) s z:=
 ⟨h.1,h.2.1,fun j J=>by
  obtain⟨x,h1,C,d⟩:=h.2.2 j J;exact⟨x,h1,fun i v K=>he.cell (C i v K) fun f=>f,d⟩⟩
theorem ZE{w:World}{s:AZ}{z:Nat->Int}(h:KY w (.int .u64) s z): ∀x∈I0 s.len z,0<=x/\x<18446744073709551616:=by
 intro x d;simp only[I0,List.mem_map,List.mem_range]at d;obtain⟨j,C,rfl⟩:=d;obtain⟨_,_,_,v⟩:=h.XK C;exact XJ v
end Go.Sh

/- A function's code comes to a plain predicate transformer, shown once for all codes. No further condition. -/
import Derived.OrdersHeld
import Derived.WalkKit
import Derived.KernelRfl
import Derived.Laws.CopyRow
import Derived.Scope
import Derived.Laws.Externs
import Derived.Recover
set_option linter.all false
set_option maxRecDepth 50000
namespace Go.Sh
inductive Ty where
  | int (k:IntKind)|bool|ptr|sl|map|any|xI
structure AW where
  base:Option Addr
  len:Nat
  cap:Nat
def xJ:Ty->Type
  | .int _=>Int
  | .bool=>Bool
  | .ptr=>Option Addr
  | .sl=>AW
  | .map=>Option Nat
  | .any=>Value
  | .xI=>Nat
def mkV:(t:Ty)->xJ t->Value
  | .int k,n=>.int k n
  | .bool,b=>.bool b
  | .ptr,a=>.pointer a
  | .sl,s=>.slice (AW.base s) (AW.len s) (AW.cap s)
  | .map,r=>.map r
  | .any,v=>v
  | .xI,b=>.float .f64 (show Nat from b)
def ik:IntKind->Nat
  | .i8=>0| .i16=>1| .i32=>2| .i64=>3| .u8=>4| .u16=>5| .u32=>6| .u64=>7
def aG{a b:IntKind}(h:ik a=ik b):a=b:=by
  cases a<;>cases b<;>first|rfl|(simp[ik]at h)
def sameK(a b:IntKind)(X:Prop):Prop:=match Nat.beq (ik a) (ik b)with|true=>X|false=>False
def Fk{a b:IntKind}{X:Prop}(h:sameK a b X):a=b/\X:=by
  unfold sameK at h;split at h
  . rename_i e;exact⟨aG (Nat.eq_of_beq_eq_true e),h⟩
  . exact h.elim
abbrev X7(k:FloatKind)(X:Prop):Prop:=match k with| .f64=>X| .f32=>False
def Jz{k:FloatKind}{X:Prop}(h:X7 k X):k= .f64/\X:=by
  cases k
  . exact h.elim
  . exact⟨rfl,h⟩
def unV:(t:Ty)->Value->(xJ t->Prop)->Prop
  | .int k,.int k' n,K=>sameK k k' (K n)
  | .bool,.bool b,K=>K b
  | .ptr,.pointer a,K=>K a
  | .sl,.slice a n c,K=>K (AW.mk a n c)
  | .map,.map r,K=>K r
  | .any,v,K=>K v
  | .xI,.float k b,K=>X7 k (K b)
  | _,_,_=>False
def X8{t:Ty}{v:Value}{K:xJ t->Prop}(h:unV t v K): ∃x,v=mkV t x/\K x:=by
  unfold unV at h;split at h
  . obtain⟨rfl,a⟩:=Fk h;exact⟨_,rfl,a⟩
  . exact⟨_,rfl,h⟩
  . exact⟨_,rfl,h⟩
  . exact⟨_,rfl,h⟩
  . exact⟨_,rfl,h⟩
  . exact⟨_,rfl,h⟩
  . obtain⟨rfl,a⟩:=Jz h;exact⟨_,rfl,a⟩
  grind
def iW:List Ty->Type
  | []=>Unit
  | t::r=>xJ t×iW r
def mkVs:(l:List Ty)->iW l->List Value
  | [],_=>[]
  | t::r,x=>mkV t x.1::mkVs r x.2
def unVs:(l:List Ty)->List Value->(iW l->Prop)->Prop
  | [],[],K=>K ()
  | t::r,v::vs,K=>unV t v λx=>unVs r vs λy=>K (x,y)
  | _,_,_=>False
def Vi:{l:List Ty}->{vs:List Value}->{K:iW l->Prop}->unVs l vs K-> ∃x,vs=mkVs l x/\K x
  | [],[],_,h=>⟨(),rfl,h⟩
  | [],_::_,_,h=>h.elim
  | _::_,[],_,h=>h.elim
  | t::r,v::vs,K,h=>by
    simp only[unVs]at h;obtain⟨x,rfl,a⟩:=X8 h;obtain⟨y,rfl,d⟩:=Vi a;exact⟨(x,y),rfl,d⟩
inductive VT where
  | one (t:Ty)
  | agg (l:List Ty)
def iX:VT->Type
  | .one t=>xJ t
  | .agg l=>iW l
def mkVT:(t:VT)->iX t->Value
  | .one t,x=>mkV t x
  | .agg l,x=>.agg ⟨mkVs l x⟩
def unVT:(t:VT)->Value->(iX t->Prop)->Prop
  | .one t,v,K=>unV t v K
  | .agg l,.agg cs,K=>unVs l cs.toList K
  | .agg _,_,_=>False
def Rh{t:VT}{v:Value}{K:iX t->Prop}(h:unVT t v K): ∃x,v=mkVT t x/\K x:=by
  cases t with
  | one t=>exact X8 h
  | agg l=>
    cases v<;>simp only[unVT]at h;rename_i cs;obtain⟨x,a,h⟩:=Vi h;exact⟨x,by simp only[mkVT,<-a],h⟩
abbrev Fr:=Nat->Value
def Fr.put(f:Fr)(d:Nat)(v:Value):Fr:=λt=>bif Nat.beq t d then v else f t
def Fr.PZ(f:Fr):Option Nat->Value->Fr
  | some d,v=>f.put d v
  | none,_=>f
def memB:List Nat->Nat->Bool
  | [],_=>false
  | x::r,t=>bif Nat.beq t x then true else memB r t
def X9:{l:List Nat}->{t:Nat}->(memB l t=true↔t∈l)
  | [],t=>by simp[memB]
  | x::r,t=>by
    simp only[memB,List.mem_cons,cond_eq_ite];by_cases h:Nat.beq t x=true
    . simp[h,Nat.eq_of_beq_eq_true h]
    . have a:t≠x:=λe=>h (e▸Nat.beq_refl t);simp[h,X9 (l:=r) (t:=t),a]
def Fr.YA(f:Fr)(l:List Nat)(j:Nat->Value):Fr:=λt=>bif memB l t then j t else f t
def Fr.ev(f:Fr):Operand->Value
  | .tmp t=>f t
  | .const v=>v
  | .global g=>.pointer (some ⟨g,0,none⟩)
  | .func g=>.func (.func g) #[] #[]
def Dm(a:Act):Fr:=λt=>a.tmps.getD t undef
def Of(a:Act)(x:Operand):(Dm a).ev x=a.eval x:=by cases x<;>rfl
def JB(a:Act):(Dm a).ev=a.eval:=funext (Of a)
def YB{a:Act}{d:Nat}(hd:d<a.tmps.size)(v:Value):Dm (a.put (some d) v)=(Dm a).put d v:=by
  funext t;simp only[Dm,Act.put,Fr.put,Array.getD_eq_getD_getElem?,cond_eq_ite];by_cases h:t=d
  . subst h;simp[hd]
  . have e:Nat.beq t d=false:=by
      cases e:Nat.beq t d
      . rfl
      . exact absurd (Nat.eq_of_beq_eq_true e) h
    grind
def Ri{a:Act}{d:Option Nat}(hd: ∀t,d=some t->t<a.tmps.size)(v:Value):Dm (a.put d v)=(Dm a).PZ d v:=by
  cases d with
  | none=>rfl
  | some t=>exact YB (hd t rfl) v
def It(a:Act)(d:Option Nat)(v:Value):(a.put d v).tmps.size=a.tmps.size:=by
  cases d<;>simp[Act.put]
def Pa(a:Act)(d:Option Nat)(v:Value):(a.put d v).defers=a.defers:=by
  cases d<;>rfl
abbrev sK:=List (Nat×VT)
def St:sK->Type
  | []=>Unit
  | (_,t)::r=>iX t×St r
def Fr.set:(l:sK)->St l->Fr->Fr
  | [],_,f=>f
  | (d,t)::r,s,f=>Fr.set r s.2 (f.put d (mkVT t s.1))
def Fr.get:(l:sK)->Fr->(St l->Prop)->Prop
  | [],_,K=>K ()
  | (d,t)::r,f,K=>unVT t (f d) λx=>Fr.get r f λs=>K (x,s)
def PE:(l:sK)->St l->Fr->Prop
  | [],_,_=>True
  | (d,t)::r,s,f=>f d=mkVT t s.1/\PE r s.2 f
def Nb:{l:sK}->{f:Fr}->{K:St l->Prop}->Fr.get l f K-> ∃s,PE l s f/\K s
  | [],_,_,h=>⟨(),trivial,h⟩
  | (d,t)::r,f,K,h=>by
    obtain⟨x,e,h⟩:=Rh h;obtain⟨s,a,h⟩:=Nb h;exact⟨(x,s),⟨e,a⟩,h⟩
def eY:{t:Ty}->{x y:xJ t}->mkV t x=mkV t y->x=y
  | .int _,_,_,h=>by simp only[mkV]at h;injection h
  | .bool,_,_,h=>by simp only[mkV]at h;injection h
  | .ptr,_,_,h=>by simp only[mkV]at h;injection h
  | .sl,x,y,h=>by
    simp only[mkV]at h;injection h with h1 h2 h3
    cases x;cases y;grind
  | .map,_,_,h=>by simp only[mkV]at h;injection h
  | .any,_,_,h=>h
  | .xI,_,_,h=>by simp only[mkV]at h;injection h
def YC:{l:List Ty}->{x y:iW l}->mkVs l x=mkVs l y->x=y
  | [],_,_,_=>rfl
  | t::r,(x,xs),(y,ys),h=>by
    simp only[mkVs]at h;injection h with h1 h2
    rw[eY h1,YC h2]
def lV:{t:VT}->{x y:iX t}->mkVT t x=mkVT t y->x=y
  | .one _,_,_,h=>eY h
  | .agg _,_,_,h=>by
    simp only[mkVT]at h;injection h with h1
    injection h1 with h2
    exact YC h2
def Vj:{l:sK}->{s s':St l}->{f:Fr}->PE l s f->PE l s' f->s=s'
  | [],_,_,_,_,_=>rfl
  | (d,t)::r,(x,s),(y,s'),f,h,h'=>by
    have h1:mkVT t x=mkVT t y:=h.1.symm.trans h'.1;have a:x=y:=lV h1;have e:s=s':=Vj h.2 h'.2
    grind
def lX:{l:sK}->{s:St l}->{g f:Fr}->PE l s g->(∀t,t∉l.map (·.1)->f t=g t)->Fr.set l s f=g
  | [],_,g,f,_,h=>funext λt=>h t (by simp)
  | (d,t)::r,s,g,f,hs,h=>by
    simp only[Fr.set];refine lX hs.2 λu hu=> ?_;simp only[Fr.put,cond_eq_ite];by_cases e:Nat.beq u d=true
    . have:=Nat.eq_of_beq_eq_true e;subst this;simp[hs.1]
    . have m:u≠d:=λa=>e (a▸Nat.beq_refl u)
      grind
def Nc{l:sK}{s:St l}{W:List Nat}{f g:Fr}(d:PE l s g)(a: ∀t,t∉W->g t=f t):Fr.set l s (f.YA W g)=g:=by
  refine lX d λt _=> ?_;simp only[Fr.YA,cond_eq_ite];by_cases h:memB W t=true
  . simp[h]
  . simp only[h,Bool.false_eq_true,if_false];exact(a t λhm=>h (X9.2 hm)).symm
def NC(a:Option Addr)(K:Addr->Prop):Prop:=match a with|some p=>K p|none=>False
def CND(b:Bool)(T E:Prop):Prop:=match b with|true=>T|false=>E
def eZ{b:Bool}{T E:Prop}:CND b T E↔(b=true->T)/\(b=false->E):=by cases b<;>simp[CND]
def HF{a:Option Addr}{K:Addr->Prop}(h:NC a K): ∃p,a=some p/\K p:=by
  cases a with
  | none=>exact h.elim
  | some p=>exact⟨p,rfl,h⟩
@[simp] theorem AK(p:Addr)(K:Addr->Prop):NC (some p) K=K p:=rfl
def WX(P:Program)(t:TypeId):Nat:=P.cellsOf t
def szK(P:Program)(t:TypeId)(K:Nat->Prop):Prop:=match WX P t with
  | 0=>False
  | n+1=>K (n+1)
def Fl{P:Program}{t:TypeId}{K:Nat->Prop}(h:szK P t K): ∃n,K n/\n≠0/\n=WX P t/\ ∀w,(sizeOf t).run P w= .ok n w:=by
  unfold szK at h;split at h
  . grind
  . rename_i n hn;refine⟨_,h,by omega,hn.symm,λw=> ?_⟩;cases hi:P.info? t with
    | none=>simp[WX,Program.cellsOf,hi]at hn
    | some i=>
      have:i.size=n+1:=by simpa[WX,Program.cellsOf,hi]using hn
      simp[sizeOf,typeInfo,hi,this]
def isAggP(P:Program)(t:TypeId):Bool:=match P.underlying t with
  | some (.struct _)|some (.array _ _)=>true
  | _=>false
def aggK(P:Program)(t:TypeId)(A:Prop)(B:TypeDesc->Prop):Prop:=match P.underlying t with
  | some (.struct _)=>A
  | some (.array _ _)=>A
  | some d=>B d
  | none=>False
def Vk{P:Program}{t:TypeId}{A:Prop}{B:TypeDesc->Prop}(h:aggK P t A B):
    (P.info? t).isSome=true/\((A/\ ∀w,(isAgg t).run P w= .ok true w)∨(∃d,P.underlying t=some d/\B d/\ ∀w,(isAgg t).run P w= .ok false w)):=by
  unfold aggK at h;have hu: ∀d,P.underlying t=some d->(P.info? t).isSome=true:=by
    intro d hd;cases hi:P.info? t with
    | none=>simp[Program.underlying,hi]at hd
    | some i=>rfl
  split at h
  . rename_i hd;exact⟨hu _ hd,.inl ⟨h,λw=>by simp[isAgg,underlying,hd]⟩⟩
  . rename_i hd;exact⟨hu _ hd,.inl ⟨h,λw=>by simp[isAgg,underlying,hd]⟩⟩
  . rename_i d h1 h2 hd;refine⟨hu _ hd,.inr ⟨d,hd,h,λw=> ?_⟩⟩;cases d<;>first
      | exact(h1 _ rfl).elim
      | exact(h2 _ _ rfl).elim
      | simp[isAgg,underlying,hd]
  grind
def yM:TypeDesc->Ty
  | .int k=>.int k
  | .bool=>.bool
  | .pointer _=>.ptr
  | .slice _=>.sl
  | .map _ _=>.map
  | .float .f64=>.xI
  | _=>.any
def lY:Nat->List Ty->List Ty
  | 0,_=>[]
  | n+1,l=>l++lY n l
def lZ(P:Program):Nat->TypeId->List Ty
  | 0,_=>[]
  | d+1,t=>match P.underlying t with
    | some (.struct fs)=>fs.toList.flatMap λf=>lZ P d f.type
    | some (.array n e)=>lY n (lZ P d e)
    | some d=>[yM d]
    | none=>[]
def aH(P:Program)(t:TypeId):VT:=match isAggP P t with
  | true=>.agg (lZ P 12 t)
  | false=>match P.underlying t with
    | some d=>.one (yM d)
    | none=>.one .any
def LF(P:Program)(t:TypeId):Option Value:=(P.info? t).bind (·.zero)
def evInt(op:BinOp)(k:IntKind)(a b:Int)(K:Value->Prop):Prop:=
  match op with
  | .add=>K (.int k (k.wrap (a+b)))
  | .sub=>K (.int k (k.wrap (a-b)))
  | .mul=>K (.int k (k.wrap (a*b)))
  | .quo=>b≠0/\K (.int k (k.wrap (a.tdiv b)))
  | .rem=>b≠0/\K (.int k (a.tmod b))
  | .and=>K (.int k (k.wrap (BitVec.ofInt k.bits a&&&BitVec.ofInt k.bits b).toNat))
  | .or=>K (.int k (k.wrap (BitVec.ofInt k.bits a|||BitVec.ofInt k.bits b).toNat))
  | .xor=>K (.int k (k.wrap (BitVec.ofInt k.bits a^^^BitVec.ofInt k.bits b).toNat))
  | .andNot=>K (.int k (k.wrap (BitVec.ofInt k.bits a&&& ~~~BitVec.ofInt k.bits b).toNat))
  | .eql=>K (.bool (a==b))
  | .neq=>K (.bool (a !=b))
  | .lss=>K (.bool (decide (a<b)))
  | .leq=>K (.bool (decide (a<=b)))
  | .gtr=>K (.bool (decide (a>b)))
  | .geq=>K (.bool (decide (a≥b)))
  | _=>False
def isFn:Value->Bool
  | .func .. =>true
  | .nilFunc=>true
  | _=>false
def isNilF:Value->Bool
  | .nilFunc=>true
  | _=>false
noncomputable def Nd{α:Type}(x:α):α:=Classical.choose (⟨x,rfl⟩: ∃y,y=x)
def J0{α:Type}(x:α):Nd x=x:=Classical.choose_spec (⟨x,rfl⟩: ∃y,y=x)
noncomputable def E6(a b:Nat):Option Ordering:=Nd (FloatKind.f64.format.order a b)
def evFlt(op:BinOp)(a b:Nat)(K:Value->Prop):Prop:=match op with
  | .eql=>K (.bool (E6 a b==some .eq))
  | .neq=>K (.bool (E6 a b !=some .eq))
  | .lss=>K (.bool (E6 a b==some .lt))
  | .leq=>K (.bool (E6 a b==some .lt||E6 a b==some .eq))
  | .gtr=>K (.bool (E6 a b==some .gt))
  | .geq=>K (.bool (E6 a b==some .gt||E6 a b==some .eq))
  | _=>False
def yN(a b:Option Addr)(K:Bool->Prop):Prop:=match a with
  | none=>K b.isNone
  | some p=>match b with
    | none=>K false
    | some q=>p.block=q.block/\K (p==q)
def evBin0(P:Program)(op:BinOp)(t:TypeId)(x y:Value)(K:Value->Prop):Prop:=
  match x with
  | .int k a=>match y with
    | .int k' b=>match op with
      | .shl=>0<=b/\K (.int k (k.wrap (a*2^(min b.toNat k.bits))))
      | .shr=>0<=b/\K (.int k (a.fdiv (2^(min b.toNat k.bits))))
      | op=>sameK k k' (evInt op k a b K)
    | _=>False
  | .bool a=>match y with
    | .bool b=>match P.underlying t with
      | some .bool=>match op with
        | .eql=>K (.bool (a==b))
        | .neq=>K (.bool (!(a==b)))
        | _=>False
      | _=>False
    | _=>False
  | .pointer a=>match y with
    | .pointer none=>match P.underlying t with
      | some (.pointer _)=>match op with
        | .eql=>K (.bool a.isNone)
        | .neq=>K (.bool (!a.isNone))
        | _=>False
      | _=>False
    | _=>False
  | .slice a _ _=>match y with
    | .slice none _ _=>match P.underlying t with
      | some (.slice _)=>match op with
        | .eql=>K (.bool a.isNone)
        | .neq=>K (.bool (!a.isNone))
        | _=>False
      | _=>False
    | _=>False
  | .map a=>match y with
    | .map none=>match P.underlying t with
      | some (.map _ _)=>match op with
        | .eql=>K (.bool a.isNone)
        | .neq=>K (.bool (!a.isNone))
        | _=>False
      | _=>False
    | _=>False
  | .float k a=>match y with
    | .float k' b=>X7 k (X7 k' (evFlt op a b K))
    | _=>False
  | _=>False
def evEqF(P:Program)(xs d:List Value):List Field->(Bool->Prop)->Prop
  | [],K=>K true
  | f::r,K=>match f.name != "_" with
    | true=>match P.underlying f.type with
      | some (.int _)=>match xs[f.offset]? with
        | some (.int k a)=>match d[f.offset]? with
          | some (.int k' b)=>sameK k k' (evEqF P xs d r λt=>K ((a==b)&&t))
          | _=>False
        | _=>False
      | some .bool=>match xs[f.offset]? with
        | some (.bool a)=>match d[f.offset]? with
          | some (.bool b)=>evEqF P xs d r λt=>K ((a==b)&&t)
          | _=>False
        | _=>False
      | _=>False
    | false=>False
def evEqS(P:Program)(op:BinOp)(t:TypeId)(xs a:List Value)(K:Value->Prop):Prop:=
  match P.underlying t with
  | some (.struct fs)=>match P.stoodInHeld t with
    | false=>match P.eqGuardType P.depth t with
      | false=>match op with
        | .eql=>evEqF P xs a fs.toList λr=>K (.bool r)
        | .neq=>evEqF P xs a fs.toList λr=>K (.bool (!r))
        | _=>False
      | true=>False
    | true=>False
  | _=>False
def isIf:Value->Bool
  | .iface .. =>true
  | .nilIface=>true
  | _=>false
def isNilI:Value->Bool
  | .nilIface=>true
  | _=>false
def evBin(P:Program)(op:BinOp)(t:TypeId)(x y:Value)(K:Value->Prop):Prop:=
  match y with
  | .nilIface=>match P.underlying t with
    | some (.interface ms)=>match ms.isEmpty with
      | true=>match op with
        | .eql=>isIf x=true/\K (.bool (isNilI x))
        | .neq=>isIf x=true/\K (.bool (!isNilI x))
        | _=>False
      | false=>False
    | _=>False
  | .nilFunc=>match P.underlying t with
    | some (.func _ _ _)=>match op with
      | .eql=>isFn x=true/\K (.bool (isNilF x))
      | .neq=>isFn x=true/\K (.bool (!isNilF x))
      | _=>False
    | _=>False
  | .agg ys=>match x with
    | .agg xs=>evEqS P op t xs.toList ys.toList K
    | _=>False
  | y=>evBin0 P op t x y K
def evBinT(P:Program)(op:BinOp)(t:TypeId)(x y:Value)(K:Value->Prop):Prop:=
  match x with
  | .pointer a=>match y with
    | .pointer b=>match P.underlying t with
      | some (.pointer e)=>szK P e λ_=>match op with
        | .eql=>yN a b λr=>K (.bool r)
        | .neq=>yN a b λr=>K (.bool (!r))
        | _=>False
      | _=>False
    | _=>evBin P op t x y K
  | _=>evBin P op t x y K
def evUn(op:UnOp)(x:Value)(K:Value->Prop):Prop:=
  match op,x with
  | .not,.bool b=>K (.bool (!b))
  | .neg,.int k n=>K (.int k (k.wrap (0-n)))
  | .xor,.int k n=>K (.int k (k.wrap (BitVec.ofInt k.bits (if k.signed then-1 else k.max)^^^BitVec.ofInt k.bits n).toNat))
  | _,_=>False
def evBound(x:Option Value)(l8 top:Nat)(K:Nat->Prop):Prop:=
  match x with
  | none=>K l8
  | some (.int _ i)=>(0<=i/\i<=top)/\K i.toNat
  | some _=>False
def evPart(P:Program)(t:TypeId)(cs:List Value)(off:Nat)(K:Value->Prop):Prop:=
  aggK P t (K (.agg ⟨(cs.drop off).take (WX P t)⟩)) λ_=>match cs[off]? with
    | some v=>K v
    | none=>False
def KH(a:Option Addr)(c m z:Nat):Option Addr:=if c=m then a else a.map (·.add (m*z))
def slA(p:Addr)(c m z:Nat):Addr:=if c=m then p else p.add (m*z)
def u64(n:Int):Int:=IntKind.u64.wrap n
def i64(n:Int):Int:=IntKind.i64.wrap n
def VQ(a b:Int):Int:=if b<a then b else a
def MO(a b:Int):Int:=if b>a then b else a
def Vl(k:IntKind)(v:Value)(K:Int->Prop):Prop:=unV (.int k) v K
def sX(v:Value)(K:AW->Prop):Prop:=unV .sl v K
def Is{α:Type}(e:α)(K:α->Prop):Prop:=K e
def AL(o:Obj)(w:World)(K:Nat->World->Prop):Prop:=K w.heap.size (w.alloc o)
def fillL(cells:List Value)(off:Nat):List Value->List Value
  | []=>cells
  | v::r=>fillL (cells.set off v) (off+1) r
def Pb(n m:Nat)(X:Prop):Prop:=match Nat.beq n m with|true=>X|false=>False
def KA{n m:Nat}{X:Prop}(h:Pb n m X):n=m/\X:=by
  unfold Pb at h;split at h
  . simp_all
  grind
def leK(n m:Nat)(X:Prop):Prop:=match Nat.ble n m with|true=>X|false=>False
def YD{n m:Nat}{X:Prop}(h:leK n m X):n<=m/\X:=by
  unfold leK at h;split at h
  . simp_all
  grind
def evFill(places:Nat->Option (Nat×Nat)):List (Nat×Value)->List Value->(List Value->Prop)->Prop
  | [],cells,K=>K cells
  | (i,v)::r,cells,K=>match places i with
    | none=>False
    | some (off,size)=>Pb v.cells.toList.length size (leK (off+size) cells.length (evFill places r (fillL cells off v.cells.toList) K))
def Vm(off:Nat): ∀(vs:List Value) (k:Nat) (cells:Array Value),
    ((vs.zipIdx k).foldl (λcs (c,j)=>cs.setIfInBounds (off+j) c) cells).toList=fillL cells.toList (off+k) vs
  | [],_,_=>rfl
  | v::r,k,cells=>by
    simp only[List.zipIdx_cons,List.foldl_cons,fillL];rw[Vm off r (k+1)]
    grind
def Lq{places:Nat->Option (Nat×Nat)}:{parts:List (Nat×Value)}->{cells:Array Value}->{K:List Value->Prop}->
    evFill places parts cells.toList K-> ∃out,K out.toList/\Instr.fill places cells parts=some out
  | [],cells,K,h=>⟨cells,h,rfl⟩
  | (i,v)::r,cells,K,h=>by
    simp only[evFill]at h;cases hp:places i with
    | none=>grind
    | some os=>
      obtain⟨off,size⟩:=os;simp only[hp]at h;obtain⟨h1,h⟩:=KA h;obtain⟨d,h⟩:=YD h;have e:=Vm off v.cells.toList 0 cells;have hz:(v.cells.zipIdx.foldl (λcs (c,j)=>cs.setIfInBounds (off+j) c) cells).toList=fillL cells.toList off v.cells.toList:=by
        rw[<-Array.foldl_toList,Array.toList_zipIdx];omega
      rw[<-hz]at h;obtain⟨out,a,ho⟩:=Lq h;refine⟨out,a,?_⟩;simp only[Instr.fill,hp]
      grind
def l9(P:Program):List Field->Prop->Prop
  | [],X=>X
  | f::r,X=>szK P f.type λ_=>l9 P r X
def TAS(x:Value)(t:Nat)(z:Value)(K:Value->Bool->Prop):Prop:=match x with
  | .nilIface=>K z false
  | .iface u v=>match Nat.beq u t with
    | true=>K v true
    | false=>K z false
  | _=>False
def mA:List Value->List (Option Addr)
  | []=>[]
  | v::r=>(match v with| .pointer a=>a|_=>none)::mA r
def WY:List Value->Bool
  | []=>true
  | v::r=>match v with
    | .pointer _=>WY r
    | _=>false
def YE: ∀{l:List Value} {i:Nat},WY l=true->i<l.length->l[i]? =some (.pointer ((mA l).getD i none))
  | v::r,0,h,_=>by cases v<;>first|rfl|cases h
  | v::r,i+1,h,hi=>by
    have a:WY r=true:=by cases v<;>first|exact h|cases h
    have:=YE a (i:=i) (by grind);simpa[mA]using this
def mB(P:Program)(l:Nat)(e:TypeId)(cs:List Value)(n:Int)(K:Value->Prop):Prop:=match P.underlying e with
  | some (.pointer _)=>szK P e λz=>Pb z 1 (Pb cs.length l (match WY cs with
    | true=>(0<=n/\n<(l:Int))/\K (.pointer ((mA cs).getD n.toNat none))
    | false=>False))
  | _=>False
noncomputable def Lr(n:Int):Nat:=Nd (FloatKind.f64.nearest n)
noncomputable def WZ(b:Nat):Option Int:=Nd ((FloatKind.f64.decode b).toInt .zero)
def slL:List Value->List AW
  | []=>[]
  | v::r=>(match v with| .slice a n c=>⟨a,n,c⟩|_=>⟨none,0,0⟩)::slL r
def e9:List Value->Bool
  | []=>true
  | v::r=>match v with
    | .slice .. =>e9 r
    | _=>false
def fA: ∀{l:List Value} {i:Nat},e9 l=true->i<l.length->l[i]? =some (.slice ((slL l).getD i ⟨none,0,0⟩).base ((slL l).getD i ⟨none,0,0⟩).len ((slL l).getD i ⟨none,0,0⟩).cap)
  | v::r,0,h,_=>by cases v<;>first|rfl|cases h
  | v::r,i+1,h,hi=>by
    have a:e9 r=true:=by cases v<;>first|exact h|cases h
    have:=fA a (i:=i) (by grind);simpa[slL]using this
def aI(P:Program)(l:Nat)(e:TypeId)(cs:List Value)(n:Int)(K:Value->Prop):Prop:=match P.underlying e with
  | some (.slice _)=>szK P e λz=>Pb z 1 (Pb cs.length l (match e9 cs with
    | true=>(0<=n/\n<(l:Int))/\Is ((slL cs).getD n.toNat ⟨none,0,0⟩) λs=>K (.slice s.base s.len s.cap)
    | false=>False))
  | _=>False
def mC(s:ByteArray)(n:Int)(K:Int->Prop):Prop:=0<=n/\ ∃b,s[n.toNat]? =some b/\K (b.toNat:Int)
def evPure(P:Program)(o:Op)(ty:TypeId)(ρ:Operand->Value)(K:Value->Prop):Prop:=
  match o with
  | .move x| .assign x=>K (ρ x)
  | .pick c a b=>match ρ c with
    | .bool t=>K (bif t then ρ a else ρ b)
    | _=>False
  | .nilCheck x=>match ρ x with
    | .pointer a=>NC a λp=>K (.pointer (some p))
    | _=>False
  | .binOp op t x y _=>match y with
    | .tmp _=>evBinT P op t (ρ x) (ρ y) K
    | _=>evBin P op t (ρ x) (ρ y) K
  | .unOp op _ x=>evUn op (ρ x) K
  | .convert s d x=>match P.underlying s,P.underlying d,ρ x with
    | some (.int _),some (.int k),.int _ n=>K (.int k (k.wrap n))
    | some (.int _),some (.float k),.int _ n=>X7 k (K (.float .f64 (Lr n)))
    | some (.float _),some (.int k),.float k' b=>X7 k' (∃n,WZ b=some n/\(k.min<=n/\n<=k.max)/\K (.int k n))
    | _,_,_=>False
  | .makeFunc fn fi ca=>K (.func fn (fi.map ρ) (ca.map ρ))
  | .fieldAddr s x i=>match P.underlying s with
    | some (.struct fs)=>match fs[i]? with
      | some f=>szK P f.type λ_=>match ρ x with
        | .pointer a=>NC a λp=>K (.pointer (some (p.add f.offset)))
        | _=>False
      | none=>False
    | _=>False
  | .field t x i=>match P.underlying t with
    | some (.struct fs)=>match fs[i]? with
      | some f=>match ρ x with
        | .agg cs=>evPart P f.type cs.toList f.offset K
        | _=>False
      | none=>False
    | _=>False
  | .indexAddr t x i=>match ρ i with
    | .int _ n=>match P.underlying t with
      | some (.slice e)=>szK P e λz=>match ρ x with
        | .slice b l _=>NC b λa=>(0<=n/\n<(l:Int))/\K (.pointer (some (a.add (n.toNat*z))))
        | _=>False
      | some (.array l e)=>szK P e λz=>match ρ x with
        | .pointer b=>NC b λa=>(0<=n/\n<(l:Int))/\K (.pointer (some (a.add (n.toNat*z))))
        | _=>False
      | _=>False
    | _=>False
  | .build t parts=>match LF P t with
    | some z=>match P.underlying t with
      | some (.struct fs)=>l9 P fs.toList (evFill (λi=>(fs[i]?).map λf=>(f.offset,WX P f.type)) ((parts.map λ(i,x)=>(i,ρ x)).toList) z.cells.toList λl=>K (.agg ⟨l⟩))
      | some (.array _ e)=>szK P e λn=>evFill (λi=>some (i*n,n)) ((parts.map λ(i,x)=>(i,ρ x)).toList) z.cells.toList λl=>K (.agg ⟨l⟩)
      | _=>False
    | none=>False
  | .extract x i=>match ρ x with
    | .tuple vs=>match vs.toList[i]? with
      | some v=>unVT (aH P ty) v λx=>K (mkVT (aH P ty) x)
      | none=>False
    | _=>False
  | .slice t x lo hi none=>match P.underlying t with
    | some (.slice e)=>szK P e λz=>match ρ x with
      | .slice a l c=>evBound (hi.map ρ) l c λh=>evBound (lo.map ρ) 0 h λm=>K (.slice (if c=m then a else a.map (·.add (m*z))) (h-m) (c-m))
      | _=>False
    | some (.array n e)=>szK P e λz=>match ρ x with
      | .pointer a=>NC a λp=>evBound (hi.map ρ) n n λh=>evBound (lo.map ρ) 0 h λm=>K (.slice (some (if n=m then p else p.add (m*z))) (h-m) (n-m))
      | _=>False
    | _=>False
  | .makeInterface t x=>match P.underlying t with
    | some (.interface _)=>False
    | some _=>K (.iface t (ρ x))
    | none=>False
  | .typeAssert x _ asserted true=>match P.underlying asserted with
    | some (.interface _)=>False
    | some _=>match LF P asserted with
      | some z=>TAS (ρ x) asserted z λv b=>K (.tuple #[v,.bool b])
      | none=>False
    | none=>False
  | .call c=>match c.callee with
    | .builtin .len=>match c.args.toList with
      | [x]=>match ρ x with
        | .slice _ n _=>match(c.argTypes.toList.head?).bind P.underlying with
          | some (.slice _)=>K (.int .i64 n)
          | _=>False
        | _=>False
      | _=>False
    | .builtin .min=>match c.args.toList with
      | [x,y]=>match ρ x with
        | .int k a=>match ρ y with
          | .int _ b=>K (.int k (if b<a then b else a))
          | _=>False
        | _=>False
      | [x,y,z]=>match ρ x with
        | .int k a=>match ρ y with
          | .int _ b=>match ρ z with
            | .int _ d=>K (.int k (VQ (VQ a b) d))
            | _=>False
          | _=>False
        | _=>False
      | _=>False
    | .builtin .max=>match c.args.toList with
      | [x,y]=>match ρ x with
        | .int k a=>match ρ y with
          | .int _ b=>K (.int k (if b>a then b else a))
          | _=>False
        | _=>False
      | [x,y,z]=>match ρ x with
        | .int k a=>match ρ y with
          | .int _ b=>match ρ z with
            | .int _ d=>K (.int k (MO (MO a b) d))
            | _=>False
          | _=>False
        | _=>False
      | _=>False
    | _=>False
  | .index t x i=>match P.underlying t with
    | some (.array l e)=>match ρ x with
      | .agg cs=>match ρ i with
        | .int _ n=>match P.underlying e with
          | some (.slice _)=>aI P l e cs.toList n K
          | _=>mB P l e cs.toList n K
        | _=>False
      | _=>False
    | some .string=>match ρ x with
      | .string s=>match ρ i with
        | .int _ n=>mC s n λb=>K (.int .u8 b)
        | _=>False
      | _=>False
    | _=>False
  | _=>False
def Ae{P:Program}{t:TypeId}{d:TypeDesc}(h:P.underlying t=some d)(w:World):(underlying t).run P w= .ok d w:=by
  simp[underlying,h]
def YF{P:Program}{t:TypeId}(h:(P.info? t).isSome=true)(w:World):(sizeOf t).run P w= .ok (WX P t) w:=by
  obtain⟨i,hi⟩:=Option.isSome_iff_exists.1 h;simp[sizeOf,typeInfo,hi,WX,Program.cellsOf]
def YG{P:Program}{op:BinOp}{k:IntKind}{a b:Int}{K:Value->Prop}(h:evInt op k a b K)(ho:op≠ .shl/\op≠ .shr)(t:TypeId):
    ∃v,K v/\ ∀w,(binOp op t (.int k a) (.int k b)).run P w= .ok v w:=by
  cases op<;>simp only[evInt]at h<;>
    first
      | exact h.elim
      | exact(ho.1 rfl).elim
      | exact(ho.2 rfl).elim
      | exact⟨_,h,λw=>by simp[binOp,Op.intArith,Op.intCmp,Op.intBits]⟩
      | (obtain⟨h0,h⟩:=h;exact⟨_,h,λw=>by simp[binOp,Op.intDiv,h0]⟩)
def Sy(P:Program)(d:Nat){t:TypeId}(w:World):
    (∀e a,P.underlying t=some (.pointer e)->(Op.equalIn (d+1) t (.pointer a) (.pointer none)).run P w= .ok a.isNone w)/\
    (∀e a n c u m,P.underlying t=some (.slice e)->(Op.equalIn (d+1) t (.slice a n c) (.slice none u m)).run P w= .ok a.isNone w)/\
    (∀k e a,P.underlying t=some (.map k e)->(Op.equalIn (d+1) t (.map a) (.map none)).run P w= .ok a.isNone w):=by
  refine⟨λe a h=> ?_,λe a n c u m h=> ?_,λk e a h=> ?_⟩<;>cases a<;>simp[Op.equalIn,Ae h]
def F0(P:Program){t:TypeId}(w:World):
    (∀e a,P.underlying t=some (.pointer e)->(Op.equal t (.pointer a) (.pointer none)).run P w= .ok a.isNone w)/\
    (∀e a n c m d,P.underlying t=some (.slice e)->(Op.equal t (.slice a n c) (.slice none m d)).run P w= .ok a.isNone w)/\
    (∀k e a,P.underlying t=some (.map k e)->(Op.equal t (.map a) (.map none)).run P w= .ok a.isNone w):=
  Sy P 9999 w
def Wa{P:Program}{op:BinOp}{t:TypeId}{x y:Value}{K:Value->Prop}(h:evBin0 P op t x y K):
    ∃v,K v/\ ∀w,(binOp op t x y).run P w= .ok v w:=by
  unfold evBin0 at h;split at h
  . split at h
    . split at h
      . obtain⟨h0,h⟩:=h;refine⟨_,h,λw=> ?_⟩;have: ¬(‹Int› :Int)<0:=by omega
        simp[binOp,Op.shift,Int.not_lt.2 h0]
      . obtain⟨h0,h⟩:=h;exact⟨_,h,λw=>by simp[binOp,Op.shift,Int.not_lt.2 h0]⟩
      . rename_i h1 h2;obtain⟨rfl,u⟩:=Fk h;exact YG u ⟨λe=>h1 e,λe=>h2 e⟩ t
    grind
  . split at h
    . split at h
      . rename_i ht;split at h
        . exact⟨_,h,λw=>run_eql_bool w t _ _ ht⟩
        . exact⟨_,h,λw=>run_neq_bool w t _ _ ht⟩
        grind
      grind
    grind
  . split at h
    . split at h
      . rename_i ht;have J:P.underlying t=some (.pointer (P.pointee t)):=by simp[Program.pointee,ht]
        rename_i a _ _ _ _;split at h
        . refine⟨_,h,λw=> ?_⟩;simp only[binOp]
          first
            | simp[(F0 P w).1 _ _ ht]
            | simp[(F0 P w).2.1 _ _ _ _ _ _ ht]
            | simp[(F0 P w).2.2 _ _ _ ht]
        . refine⟨_,h,λw=> ?_⟩;simp only[binOp]
          first
            | simp[(F0 P w).1 _ _ ht]
            | simp[(F0 P w).2.1 _ _ _ _ _ _ ht]
            | simp[(F0 P w).2.2 _ _ _ ht]
        grind
      grind
    grind
  . split at h
    . split at h
      . rename_i ht;rename_i a _ _ _ _ _ _ _ _;split at h
        . refine⟨_,h,λw=> ?_⟩;simp only[binOp]
          first
            | simp[(F0 P w).1 _ _ ht]
            | simp[(F0 P w).2.1 _ _ _ _ _ _ ht]
            | simp[(F0 P w).2.2 _ _ _ ht]
        . refine⟨_,h,λw=> ?_⟩;simp only[binOp]
          first
            | simp[(F0 P w).1 _ _ ht]
            | simp[(F0 P w).2.1 _ _ _ _ _ _ ht]
            | simp[(F0 P w).2.2 _ _ _ ht]
        grind
      grind
    grind
  . split at h
    . split at h
      . rename_i ht;rename_i a _ _ _ _ _;split at h
        . refine⟨_,h,λw=> ?_⟩;simp only[binOp]
          first
            | simp[(F0 P w).1 _ _ ht]
            | simp[(F0 P w).2.1 _ _ _ _ _ _ ht]
            | simp[(F0 P w).2.2 _ _ _ ht]
        . refine⟨_,h,λw=> ?_⟩;simp only[binOp]
          first
            | simp[(F0 P w).1 _ _ ht]
            | simp[(F0 P w).2.1 _ _ _ _ _ _ ht]
            | simp[(F0 P w).2.2 _ _ _ ht]
        grind
      grind
    grind
  . split at h
    . obtain⟨d,h⟩:=Jz h;obtain⟨m,h⟩:=Jz h;subst d;subst m;unfold evFlt at h;split at h
      . exact⟨_,h,λw=>by simp[binOp,Op.floatCmp,E6,J0]⟩
      . exact⟨_,h,λw=>by simp[binOp,Op.floatCmp,E6,J0]⟩
      . exact⟨_,h,λw=>by simp[binOp,Op.floatCmp,E6,J0]⟩
      . exact⟨_,h,λw=>by simp[binOp,Op.floatCmp,E6,J0]⟩
      . exact⟨_,h,λw=>by simp[binOp,Op.floatCmp,E6,J0]⟩
      . exact⟨_,h,λw=>by simp[binOp,Op.floatCmp,E6,J0]⟩
      grind
    grind
  grind
def Nf(P:Program){t:TypeId}{ps rs:Array TypeId}{m:Bool}{x:Value}(w:World)(a:P.underlying t=some (.func ps rs m))(e:isFn x=true):
    (Op.equal t x .nilFunc).run P w= .ok (isNilF x) w:=by
  have key: ∀d,(Op.equalIn (d+1) t x .nilFunc).run P w= .ok (isNilF x) w:=by
    intro d;cases x<;>simp[isFn]at e<;>simp[Op.equalIn,Ae a,isNilF]
  exact key 9999
def Ng(P:Program){t:TypeId}{ms:Array (String×TypeId)}{x:Value}(w:World)(a:P.underlying t=some (.interface ms))(e:isIf x=true):
    (Op.equal t x .nilIface).run P w= .ok (isNilI x) w:=by
  have key: ∀d,(Op.equalIn (d+1) t x .nilIface).run P w= .ok (isNilI x) w:=by
    intro d;cases x<;>simp[isIf]at e<;>simp[Op.equalIn,Ae a,isNilI]
  exact key 9999
def Ls{P:Program}(d:Nat)(xs u:Array Value): ∀(fs:List Field) (K:Bool->Prop),evEqF P xs.toList u.toList fs K->
    ∃r,K r/\ ∀w,(Op.eqFields (d+1) xs u fs).run P w= .ok r w
  | [],K,h=>⟨true,h,λw=>by rfl⟩
  | f::r,K,h=>by
    unfold evEqF at h;split at h
    . rename_i hn;have J:f.name≠ "_" :=by grind
      split at h
      . rename_i ht;split at h
        . rename_i k a hx;split at h
          . rename_i k' b hy;obtain⟨rfl,h2⟩:=Fk h;obtain⟨t,O,T⟩:=Ls d xs u r _ h2;have e:xs[f.offset]? =some (.int k a):=by grind
            have m:u[f.offset]? =some (.int k b):=by grind
            refine⟨_,O,λw=> ?_⟩;have pa: ∀(cs:Array Value) v,cs[f.offset]? =some v->(part f.type cs f.offset).run P w= .ok v w:=by
              intro cs v Y;simp[part,isAgg,Ae ht,Y]
            simp only[Op.eqFields,if_pos J,Sem.run_bind,pa _ _ e,pa _ _ m,Result.andThen_ok,run_equalIn_int w d f.type k _ a b ht];cases hab:(a==b)<;>simp[T]
          grind
        grind
      . rename_i ht;split at h
        . rename_i a hx;split at h
          . rename_i b hy;obtain⟨t,O,T⟩:=Ls d xs u r _ h;have e:xs[f.offset]? =some (.bool a):=by grind
            have m:u[f.offset]? =some (.bool b):=by grind
            refine⟨_,O,λw=> ?_⟩;have pa: ∀(cs:Array Value) v,cs[f.offset]? =some v->(part f.type cs f.offset).run P w= .ok v w:=by
              intro cs v Y;simp[part,isAgg,Ae ht,Y]
            simp only[Op.eqFields,if_pos J,Sem.run_bind,pa _ _ e,pa _ _ m,Result.andThen_ok,run_equalIn_bool' w d f.type a b ht];cases hab:(a==b)<;>simp[T]
          grind
        grind
      grind
    grind
def SF{P:Program}{op:BinOp}{t:TypeId}{xs a:Array Value}{K:Value->Prop}(h:evEqS P op t xs.toList a.toList K):
    (∃v,K v/\ ∀w,(binOp op t (.agg xs) (.agg a)).run P w= .ok v w)/\P.eqGuardType P.depth t=false:=by
  unfold evEqS at h;split at h
  . rename_i fs ht;split at h
    . rename_i hp;split at h
      . rename_i hg;refine⟨?_,hg⟩;have u:P.fieldsOf t=fs:=by simp[Program.fieldsOf,ht]
        have d:P.underlying t=some (.struct (P.fieldsOf t)):=by grind
        split at h
        . obtain⟨r,e,m⟩:=Ls 9998 xs a _ _ h;refine⟨_,e,λw=> ?_⟩;rw[run_eql_struct,run_equalIn_struct w 9999 t xs a d hp,u,m w];rfl
        . obtain⟨r,e,m⟩:=Ls 9998 xs a _ _ h;refine⟨_,e,λw=> ?_⟩;rw[run_neq_struct,run_equalIn_struct w 9999 t xs a d hp,u,m w];rfl
        grind
      grind
    grind
  grind
def Nh{P:Program}{op:BinOp}{t:TypeId}{x y:Value}{K:Value->Prop}(h:evBin P op t x y K):
    ∃v,K v/\ ∀w,(binOp op t x y).run P w= .ok v w:=by
  unfold evBin at h;split at h
  . split at h
    . rename_i ms ht;split at h
      . split at h
        . obtain⟨a,d⟩:=h;refine⟨_,d,λw=> ?_⟩;have he:=Ng P w ht a;cases x<;>simp[isIf]at a<;>simp[binOp,he]
        . obtain⟨a,d⟩:=h;refine⟨_,d,λw=> ?_⟩;have he:=Ng P w ht a;cases x<;>simp[isIf]at a<;>simp[binOp,he]
        grind
      grind
    grind
  . split at h
    . rename_i ht;split at h
      . obtain⟨a,d⟩:=h;refine⟨_,d,λw=> ?_⟩;have he:=Nf P w ht a;cases x<;>simp[isFn]at a<;>simp[binOp,he]
      . obtain⟨a,d⟩:=h;refine⟨_,d,λw=> ?_⟩;have he:=Nf P w ht a;cases x<;>simp[isFn]at a<;>simp[binOp,he]
      grind
    grind
  . split at h
    . exact(SF h).1
    grind
  . exact Wa h
def KI(P:Program){t e:TypeId}{a b:Option Addr}{n:Nat}(w:World)(m:P.underlying t=some (.pointer e))(v:n≠0)(J:(sizeOf e).run P w= .ok n w){K:Bool->Prop}(h:yN a b K):
    ∃r,K r/\(Op.equal t (.pointer a) (.pointer b)).run P w= .ok r w/\r=(match a,b with|none,b=>b.isNone|some _,none=>false|some p,some q=>p==q):=by
  have key: ∀d,∃r,K r/\(Op.equalIn (d+1) t (.pointer a) (.pointer b)).run P w= .ok r w/\r=(match a,b with|none,b=>b.isNone|some _,none=>false|some p,some q=>p==q):=by
    intro d;cases a with
    | none=>exact⟨_,h,by simp[Op.equalIn,Ae m],rfl⟩
    | some p=>cases b with
      | none=>exact⟨_,h,by simp[Op.equalIn,Ae m],rfl⟩
      | some q=>
        obtain⟨u,h⟩:=h;exact⟨_,h,by simp[Op.equalIn,Ae m,J,v,sameAddr,u],rfl⟩
  exact key 9999
def Wb{P:Program}{op:BinOp}{t:TypeId}{x y:Value}{K:Value->Prop}(h:evBinT P op t x y K):
    ∃v,K v/\ ∀w,(binOp op t x y).run P w= .ok v w:=by
  unfold evBinT at h;split at h
  . split at h
    . split at h
      . rename_i e ht;obtain⟨n,h,u,_,J⟩:=Fl h;split at h
        . obtain⟨r,O,_,d⟩:=KI P default ht u (J default) h;refine⟨_,O,λw=> ?_⟩;obtain⟨T,_,a,m⟩:=KI P w ht u (J w) h;rw[m,<-d]at a;simp[binOp,a]
        . obtain⟨r,O,_,d⟩:=KI P default ht u (J default) h;refine⟨_,O,λw=> ?_⟩;obtain⟨T,_,a,m⟩:=KI P w ht u (J w) h;rw[m,<-d]at a;simp[binOp,a]
        grind
      grind
    . exact Nh h
  . exact Nh h
def Pc{P:Program}{op:BinOp}{t:TypeId}{x y:Operand}{a b:Value}{w:World}
    (h: ∀K,evBin P op t a b K->True)(e: ∃K,evBin P op t a b K):(eqGuard op t x y a b).run P w= .ok () w:=by
  obtain⟨K,e⟩:=e;unfold evBin at e;split at e
  . split at e
    . rename_i ms ht;split at e
      . rename_i hms;have v: ∀d,(Op.eqGuardIn (d+1) t .nilIface .nilIface).run P w= .ok false w:=λd=>by simp[Op.eqGuardIn,Ae ht,hms]
        have m:(Op.eqGuardIn Op.maxDepth t .nilIface .nilIface).run P w= .ok false w:=v 9999;split at e<;>first
          | exact e.elim
          | (obtain⟨u,_⟩:=e
             cases a<;>simp[isIf]at u
             all_goals first
               | rfl
               | (simp[eqGuard,m];done)
               | (simp[eqGuard,m];split<;>rfl)
               | (simp only[eqGuard];split<;>simp[m]))
      grind
    grind
  . split at e
    . split at e<;>first
        | exact e.elim
        | (obtain⟨u,_⟩:=e;cases a<;>simp[isFn]at u<;>rfl)
    grind
  . split at e
    . exact run_eqGuard_agg w op t x y _ _ (SF e).2
    grind
  . unfold evBin0 at e;split at e<;>first
      | exact e.elim
      | (cases op<;>rfl)
def Vn{P:Program}{x:Option Value}{d top:Nat}{K:Nat->Prop}(h:evBound x d top K)(code:BoundsCode):
    (∃n,K n/\ ∀w,(match x with|some v=>Instr.sliceBound v top code|none=>pure d:Sem Nat).run P w= .ok n w):=by
  unfold evBound at h;split at h
  . exact⟨_,h,λw=>by simp⟩
  . obtain⟨⟨h0,h1⟩,h⟩:=h;exact⟨_,h,λw=>by simp[Instr.sliceBound,asIntOf,h0,h1]⟩
  grind
def Tc{P:Program}{isS:Bool}{l c:Nat}{lo hi:Option Value}{K:Nat->Nat->Prop}
    (h:evBound hi l c λh=>evBound lo 0 h λm=>K h m):
    ∃h m,K h m/\ ∀w,(Instr.sliceBounds isS l c lo hi none).run P w= .ok (m,h,c) w:=by
  obtain⟨n,a,e⟩:=Vn (P:=P) h (if isS then .sliceAcap else .sliceAlen);obtain⟨m,a,d⟩:=Vn (P:=P) a .sliceB;refine⟨n,m,a,λw=> ?_⟩;have h1:=e w;have u:=d w;cases hi<;>cases lo<;>simp_all[Instr.sliceBounds]
def Td{P:Program}{t:TypeId}{cs:Array Value}{off:Nat}{K:Value->Prop}(h:evPart P t cs.toList off K):
    ∃v,K v/\ ∀w,(part t cs off).run P w= .ok v w:=by
  obtain⟨hi,h|h⟩:=Vk h
  . obtain⟨h,a⟩:=h;refine⟨_,h,λw=> ?_⟩;simp[part,a,YF hi]
    grind
  . obtain⟨d,hd,h,a⟩:=h;split at h
    . rename_i v hv;have e:cs[off]? =some v:=by grind
      exact⟨_,h,λw=>by simp[part,a,e]⟩
    grind
def Fg{P:Program}{t:TypeId}{z:Value}(h:LF P t=some z)(w:World):(zeroValue t).run P w= .ok z w:=by
  unfold LF at h;cases hi:P.info? t with
  | none=>grind
  | some i=>simp[hi]at h;simp[zeroValue,typeInfo,hi,h]
def Te{P:Program}:{a:List Field}->{X:Prop}->l9 P a X->X/\ ∀f∈a,∀w,(sizeOf f.type).run P w= .ok (WX P f.type) w
  | [],_,h=>⟨h,by simp⟩
  | f::r,X,h=>by
    obtain⟨n,d,_,v,J⟩:=Fl h;obtain⟨e,m⟩:=Te d;refine⟨e,λg u w=> ?_⟩
    grind
def run_places{P:Program}(d:Array Field)(h: ∀f∈d.toList,∀w,(sizeOf f.type).run P w= .ok (WX P f.type) w)(w:World):
    (d.mapM λf=>do pure (f.offset,<-sizeOf f.type):Sem (Array (Nat×Nat))).run P w= .ok (d.map λf=>(f.offset,WX P f.type)) w:=by
  have key: ∀(l:List Field),(∀f∈l,∀w,(sizeOf f.type).run P w= .ok (WX P f.type) w)->
      (l.mapM (λf=>do pure (f.offset,<-sizeOf f.type):Field->Sem (Nat×Nat))).run P w= .ok (l.map λf=>(f.offset,WX P f.type)) w:=by
    intro l
    induction l with
    | nil=>intro _;simp
    | cons f r ih=>
      intro h;have a:=ih (λg e=>h g (by simp[e]));simp only[bind_pure_comp]at a;simp[List.mapM_cons,h f (by simp),a]
  have m:=key d.toList h;rw[Array.mapM_eq_mapM_toList];simp only[Sem.run_map,m,Result.andThen_ok];congr 1
  grind
def iY{a b:Nat}(h:Nat.beq a b=false): ¬a=b:=λe=>by rw[e,Nat.beq_refl]at h;cases h
def sY{P:Program}{l:Nat}{e:TypeId}{cs:Array Value}{n:Int}{K:Value->Prop}(h:mB P l e cs.toList n K):
    ∃v,K v/\(0<=n/\n<(l:Int))/\ ∀w,(sizeOf e).run P w= .ok 1 w/\(part e cs (n.toNat*1)).run P w= .ok v w:=by
  unfold mB at h;split at h
  . rename_i u hu;obtain⟨z,J,hz,_,hr⟩:=Fl h;have d:=KA J;have m:=KA d.2;have h1:=d.1;have T:=m.1;have h:=m.2;subst h1;split at h
    . rename_i hp;obtain⟨Y,h⟩:=h;have hg:=YE hp (i:=n.toNat) (by omega);have a:evPart P e cs.toList (n.toNat*1) λv=>v= .pointer ((mA cs.toList).getD n.toNat none):=by
        unfold evPart aggK
        grind
      obtain⟨v,hv,O⟩:=Td a
      grind
    grind
  grind
def mD{P:Program}{l:Nat}{e:TypeId}{cs:Array Value}{n:Int}{K:Value->Prop}(h:aI P l e cs.toList n K):
    ∃v,K v/\(0<=n/\n<(l:Int))/\ ∀w,(sizeOf e).run P w= .ok 1 w/\(part e cs (n.toNat*1)).run P w= .ok v w:=by
  unfold aI at h;split at h
  . rename_i u hu;obtain⟨z,O,hz,_,Y⟩:=Fl h;have m:=KA O;have J:=KA m.2;have h1:=m.1;have h2:=J.1;have h:=J.2;subst h1;split at h
    . rename_i hp;obtain⟨T,h⟩:=h;have hg:=fA hp (i:=n.toNat) (by omega);have a:evPart P e cs.toList (n.toNat*1) λv=>v= .slice ((slL cs.toList).getD n.toNat ⟨none,0,0⟩).base ((slL cs.toList).getD n.toNat ⟨none,0,0⟩).len ((slL cs.toList).getD n.toNat ⟨none,0,0⟩).cap:=by
        unfold evPart aggK
        grind
      obtain⟨v,hv,d⟩:=Td a;subst hv;exact⟨_,h,T,λw=>⟨Y w,d w⟩⟩
    grind
  grind
def YH{P:Program}{op:BinOp}{t:TypeId}{x y:Operand}{a b:Value}{w:World}{K:Value->Prop}(h:evBinT P op t a b K):
    (eqGuard op t x y a b).run P w= .ok () w:=by
  unfold evBinT at h;split at h
  . split at h
    . unfold eqGuard;cases op<;>simp
    . exact Pc (λ_ _=>trivial) ⟨_,h⟩
  . exact Pc (λ_ _=>trivial) ⟨_,h⟩
def QM{P:Program}{o:Oper}{ρ:Operand->Value}{K:Value->Prop}(h:evPure P o.op o.type ρ K):
    ∃v,K v/\ ∀w,(execOp ρ o).run P w= .ok (.value v) w:=by
  obtain⟨dst,op,type,pos,after,guard⟩:=o;simp only at h;unfold evPure at h;split at h
  case h_1=>exact⟨_,h,λw=>by simp[execOp]⟩
  case h_2=>exact⟨_,h,λw=>by simp[execOp]⟩
  case h_3=>
    split at h
    . rename_i J;exact⟨_,h,λw=>by simp[execOp,J,asBool,cond_eq_ite]⟩
    grind
  case h_4=>
    split at h
    . rename_i J;obtain⟨p,rfl,h⟩:=HF h;exact⟨_,h,λw=>by simp[execOp,J]⟩
    grind
  case h_5=>
    split at h
    . have hg: ∀x y w,(eqGuard _ _ x y _ _).run P w= .ok () w:=λx y w=>YH h;obtain⟨v,O,a⟩:=Wb h;exact⟨v,O,λw=>by simp[execOp,a,hg]⟩
    . have hg: ∀x y w,(eqGuard _ _ x y _ _).run P w= .ok () w:=λx y w=>Pc (λ_ _=>trivial) ⟨_,h⟩;obtain⟨v,O,a⟩:=Nh h;exact⟨v,O,λw=>by simp[execOp,a,hg]⟩
  case h_6=>
    unfold evUn at h;split at h
    . rename_i hx;exact⟨_,h,λw=>by simp[execOp,Op.unary,hx]⟩
    . rename_i hx;exact⟨_,h,λw=>by simp[execOp,Op.unary,hx,Op.intArith]⟩
    . rename_i hx;exact⟨_,h,λw=>by simp[execOp,Op.unary,hx,Op.intBits]⟩
    grind
  case h_7=>
    split at h
    . rename_i hs hd hx;exact⟨_,h,λw=>by simp[execOp,convert,Ae hs,Ae hd,hx,Conv.intToInt]⟩
    . rename_i hs hd hx;obtain⟨e,h⟩:=Jz h;subst e;exact⟨_,h,λw=>by simp[execOp,convert,Ae hs,Ae hd,hx,Conv.intToFloat,Lr,J0]⟩
    . rename_i hs hd hx;obtain⟨e,h⟩:=Jz h;subst e;obtain⟨n,h1,Y,h⟩:=h;unfold WZ at h1;rw[J0]at h1;exact⟨_,h,λw=>by simp[execOp,convert,Ae hs,Ae hd,hx,Conv.floatToInt,h1,Y]⟩
    grind
  case h_8=>exact⟨_,h,λw=>by simp[execOp,Instr.makeFunc]⟩
  case h_9=>
    split at h
    . rename_i hs;split at h
      . rename_i f hf;obtain⟨z,h,hz,_,a⟩:=Fl h;split at h
        . rename_i hx;obtain⟨p,rfl,h⟩:=HF h;exact⟨_,h,λw=>by simp[execOp,Instr.fieldAt,Ae hs,hf,hx,Instr.sureAddr,fieldPlace,a,hz]⟩
        grind
      grind
    grind
  case h_10=>
    split at h
    . rename_i hs;split at h
      . rename_i f hf;split at h
        . rename_i hx;obtain⟨v,O,a⟩:=Td h;exact⟨_,O,λw=>by simp[execOp,Instr.field,Ae hs,hf,hx,asAgg,a]⟩
        grind
      grind
    grind
  case h_11=>
    split at h
    . rename_i hi;split at h
      . rename_i ht;obtain⟨z,h,hz,_,a⟩:=Fl h;split at h
        . rename_i hx;obtain⟨p,rfl,h1,h⟩:=HF h;exact⟨_,h,λw=>by simp[execOp,Instr.indexAt,Ae ht,hi,hx,asIntOf,a,h1]⟩
        grind
      . rename_i ht;obtain⟨z,h,hz,_,a⟩:=Fl h;split at h
        . rename_i hx;obtain⟨p,rfl,h1,h⟩:=HF h;exact⟨_,h,λw=>by simp[execOp,Instr.indexAt,Ae ht,hi,hx,asIntOf,Instr.sureAddr,a,h1]⟩
        grind
      grind
    grind
  case h_12=>
    split at h
    . rename_i z hz;have aC:=Fg hz;split at h
      . rename_i fs hs;obtain⟨Y,aE⟩:=Te h;obtain⟨out,O,hf⟩:=Lq Y;refine⟨_,O,λw=> ?_⟩;have hp:=run_places fs aE w;have hg:(λi:Nat=>Option.map (λf:Field=>(f.offset,WX P f.type)) fs[i]?)=λi:Nat=>(fs.map λf:Field=>(f.offset,WX P f.type))[i]? :=by grind
        rw[hg]at hf;simp[execOp,Instr.build,aC,Ae hs];simp at hp hf;simp[hp,hf]
      . rename_i hs;obtain⟨n,Y,_,hn,a⟩:=Fl h;obtain⟨out,O,hf⟩:=Lq Y;refine⟨_,O,λw=> ?_⟩;simp at hf;simp[execOp,Instr.build,aC,Ae hs,a,hf]
      grind
    grind
  case h_13=>
    split at h
    . rename_i vs hx;split at h
      . rename_i v hv;rw[Array.getElem?_toList]at hv;obtain⟨u,rfl,Y⟩:=Rh h;exact⟨_,Y,λw=>by simp[execOp,Instr.extract,hx,hv]⟩
      grind
    grind
  case h_14=>
    split at h
    . rename_i ht;obtain⟨z,h,hz,_,a⟩:=Fl h;split at h
      . rename_i hx;obtain⟨hh,m,O,J⟩:=Tc (P:=P) (isS:=true) h;refine⟨_,O,λw=> ?_⟩;simp[execOp,Instr.sliceAt,Instr.slice,Ae ht,hx,J,a]
      grind
    . rename_i ht;obtain⟨z,h,hz,_,a⟩:=Fl h;split at h
      . rename_i hx;obtain⟨p,rfl,Y⟩:=HF h;obtain⟨hh,m,O,J⟩:=Tc (P:=P) (isS:=false) Y;refine⟨_,O,λw=> ?_⟩;simp[execOp,Instr.sliceAt,Ae ht,hx,J,a,Instr.sureAddr]
      grind
    grind
  case h_15=>
    split at h
    . grind
    . rename_i d hni hd;refine⟨_,h,λw=> ?_⟩;cases d<;>first
        | (simp[execOp,Instr.makeInterface,Ae hd];done)
        | grind
    grind
  case h_16=>
    split at h
    . grind
    . rename_i d hni hd;split at h
      . rename_i z hz;unfold TAS at h;split at h
        . rename_i hx;refine⟨_,h,λw=> ?_⟩;cases d<;>first
            | (simp[execOp,Instr.typeAssert,Ae hd,hx,Fg hz];done)
            | exact(hni _ rfl).elim
        . rename_i t v hx;split at h
          . rename_i J;have J:=Nat.eq_of_beq_eq_true J;refine⟨_,h,λw=> ?_⟩;cases d<;>first
              | (simp[execOp,Instr.typeAssert,Ae hd,hx,J];done)
              | grind
          . rename_i J;have J:=iY J;refine⟨_,h,λw=> ?_⟩;cases d<;>first
              | (simp[execOp,Instr.typeAssert,Ae hd,hx,J,Fg hz];done)
              | grind
        grind
      grind
    grind
  case h_17 c=>
    obtain⟨callee,args,argTypes⟩:=c;simp only at h;split at h
    . split at h
      . rename_i ha;split at h
        . rename_i hx;split at h
          . rename_i ht;have T:args= #[_]:=Array.toList_inj.1 (by omega);subst T;cases hT:argTypes.toList with
            | nil=>grind
            | cons t r=>
              have aD:argTypes[0]? =some t:=by simp[<-Array.getElem?_toList,hT]
              simp[hT]at ht;exact⟨_,h,λw=>by simp[execOp,resolve,invoke,builtin,Builtin.len_,aD,hx,Ae ht,goInt]⟩
          grind
        grind
      grind
    . split at h
      . rename_i ha;split at h
        . rename_i hx;split at h
          . rename_i hy;have T:args= #[_,_]:=Array.toList_inj.1 (by omega);subst T;exact⟨_,h,λw=>by simp[execOp,resolve,invoke,builtin,Builtin.min_,Builtin.min2,hx,hy]⟩
          grind
        grind
      . rename_i ha;split at h
        . rename_i hx;split at h
          . rename_i hy;split at h
            . rename_i hz;have T:args= #[_,_,_]:=Array.toList_inj.1 (by omega);subst T;exact⟨_,h,λw=>by simp[execOp,resolve,invoke,builtin,Builtin.min_,Builtin.min2,hx,hy,hz];rfl⟩
            grind
          grind
        grind
      grind
    . split at h
      . rename_i ha;split at h
        . rename_i hx;split at h
          . rename_i hy;have T:args= #[_,_]:=Array.toList_inj.1 (by omega);subst T;exact⟨_,h,λw=>by simp[execOp,resolve,invoke,builtin,Builtin.max_,Builtin.max2,hx,hy]⟩
          grind
        grind
      . rename_i ha;split at h
        . rename_i hx;split at h
          . rename_i hy;split at h
            . rename_i hz;have T:args= #[_,_,_]:=Array.toList_inj.1 (by omega);subst T;exact⟨_,h,λw=>by simp[execOp,resolve,invoke,builtin,Builtin.max_,Builtin.max2,hx,hy,hz];rfl⟩
            grind
          grind
        grind
      grind
    grind
  case h_18=>
    split at h
    . rename_i l e ht;split at h
      . rename_i cs hx;split at h
        . rename_i kk n hi;split at h
          . obtain⟨v,O,J,a⟩:=mD h;refine⟨v,O,λw=> ?_⟩;have h1:=(a w).1;have Y:=(a w).2;rw[Nat.mul_one]at Y;simp[execOp,Instr.index,Ae ht,hi,hx,asIntOf,J,h1,Y]
          . obtain⟨v,O,J,a⟩:=sY h;refine⟨v,O,λw=> ?_⟩;have h1:=(a w).1;have Y:=(a w).2;rw[Nat.mul_one]at Y;simp[execOp,Instr.index,Ae ht,hi,hx,asIntOf,J,h1,Y]
        grind
      grind
    . rename_i ht;split at h
      . rename_i s hx;split at h
        . rename_i kk n hi;obtain⟨h0,b,J,O⟩:=h;exact⟨_,O,λw=>by simp[execOp,Instr.index,Ae ht,hi,hx,asIntOf,h0,J]⟩
        grind
      grind
    grind
  grind
abbrev HI:=World->Prop
def HI.all:HI:=λ_=>True
def HI.cell(p:Addr)(v:Value):HI:=λw=>w.cell? p=some v
def HI.and(a b:HI):HI:=λw=>a w/\b w
def HI.obj(r:Option Nat)(es:Array MapEntry):HI:=λw=>match r with
 | none=>es= #[]
 | some b=> ∃c,w.heap[b]? =some (.map es c)
def Wc:List Ty->Addr->Nat->World->(List Value->HI->Prop)->Prop
 | [],_,_,_,K=>K [] HI.all
 | t::r,p,i,w,K=> ∃x:xJ t,w.cell? (p.add i)=some (mkV t x)/\Wc r p (i+1) w λl S=>K (mkV t x::l) (HI.and (HI.cell (p.add i) (mkV t x)) S)
def aJ(P:Program)(t:TypeId)(p:Addr)(w:World)(K:Value->HI->Prop):Prop:=
 aggK P t (Pb (lZ P 12 t).length (WX P t) (Wc (lZ P 12 t) p 0 w λl S=>K (.agg ⟨l⟩) S))
  λd=> ∃x:xJ (yM d),w.cell? p=some (mkV (yM d) x)/\K (mkV (yM d) x) (HI.cell p (mkV (yM d) x))
abbrev SG(w:World)(r:Option Nat)(es:Array MapEntry):Prop:=HI.obj r es w
def NK(k:IntKind)(n:Int)(es:Array MapEntry)(res:Option (Nat×Value)):Prop:=
 Instr.findNow (.int k) (.int k n) es.toList 0=some res
def keyK(P:Program):Nat->List Field->List Value->Prop->Prop
 | _,[],[],X=>X
 | j,f::r,v::s,X=>match Nat.beq f.offset j with
  | true=>match f.name != "_" with
   | true=>match P.underlying f.type with
    | some (.int k)=>match v with
     | .int k' _=>sameK k k' (keyK P (j+1) r s X)
     | _=>False
    | some .bool=>match v with
     | .bool _=>keyK P (j+1) r s X
     | _=>False
    | _=>False
   | false=>False
  | false=>False
 | _,_,_,_=>False
def MP{P:Program}:{j:Nat}->{a:List Field}->{cs:List Value}->{X:Prop}->keyK P j a cs X->X/\keyK P j a cs True
 | _,[],[],_,h=>⟨h,trivial⟩
 | _,[],_::_,_,h=>h.elim
 | _,_::_,[],_,h=>h.elim
 | j,f::r,v::s,X,h=>by
  revert h
  unfold keyK;split
  .split
   .split
    .split
     .intro h;obtain⟨e,d⟩:=Fk h;subst e;obtain⟨m,u⟩:=MP d;exact⟨m,by unfold sameK;rw[Nat.beq_refl];exact u⟩
     grind
    .split
     .intro h;exact MP h
     grind
    grind
   grind
  grind
def eqA:List Value->List Value->Option Bool
 | [],[]=>some true
 | .int k a::r,.int k' b::s=>match Nat.beq (ik k) (ik k')with
  | true=>bif a==b then eqA r s else some false
  | false=>none
 | .bool a::r,.bool b::s=>bif a==b then eqA r s else some false
 | _,_=>none
def findA(cs:List Value):List MapEntry->Nat->Option (Option (Nat×Value))
 | [],_=>some none
 | e::es,i=>match e.key with
  | .agg ds=>match eqA cs ds.toList with
   | some true=>some (some (i,e.val))
   | some false=>findA cs es (i+1)
   | none=>none
  | _=>none
def valOr(res:Option (Nat×Value))(z:Value):Value:=match res with|some (_,v)=>v|none=>z
def X1(k:IntKind)(n:Int)(r:Option Nat)(w:World)(z:Value)(K:Value->Bool->Array MapEntry->Prop):Prop:=
 ∃es res,SG w r es/\NK k n es res/\K (valOr res z) res.isSome es
def LKA(cs:List Value)(r:Option Nat)(w:World)(z:Value)(K:Value->Bool->Array MapEntry->Prop):Prop:=
 ∃es res,SG w r es/\findA cs es.toList 0=some res/\K (valOr res z) res.isSome es
def evLookup(P:Program)(t:TypeId)(m key:Value)(ok:Bool)(w:World)(K:Value->HI->Prop):Prop:=
 match P.underlying t with
 | some (.map kt et)=>match P.underlying kt with
  | some (.int k)=>match key with
   | .int k' n=>sameK k k' (match m with
    | .map r=>match LF P et with
     | some z=> ∃es res,SG w r es/\NK k n es res/\ ∃x:iX (aH P et),valOr res z=mkVT (aH P et) x/\
       K (bif ok then .tuple #[mkVT (aH P et) x,.bool res.isSome]else mkVT (aH P et) x) (HI.obj r es)
     | none=>False
    | _=>False)
   | _=>False
  | some (.struct fs)=>match key with
   | .agg cs=>match P.stoodInHeld kt with
    | false=>keyK P 0 fs.toList cs.toList (match m with
     | .map r=>match LF P et with
      | some z=> ∃es res,SG w r es/\findA cs.toList es.toList 0=some res/\ ∃x:iX (aH P et),valOr res z=mkVT (aH P et) x/\
        K (bif ok then .tuple #[mkVT (aH P et) x,.bool res.isSome]else mkVT (aH P et) x) (HI.obj r es)
      | none=>False
     | _=>False)
    | true=>False
   | _=>False
  | _=>False
 | _=>False
def HI.entry(r:Nat)(m since a:Nat)(seen:Array Nat)(es:Array MapEntry)(clock:Nat):HI:=λw=>
 w.heap[r]? =some (.mapIter (some m) since seen a)/\w.heap[m]? =some (.map es clock)
def mE(r:Nat)(w:World)(K:Value->Value->HI->Prop):Prop:=
 ∃m since a seen es clock d e,HI.entry r m since a seen es clock w/\seen.back?=some d/\clock=a/\
  es.find? (λx:MapEntry=>x.born==d)=some e/\K e.key e.val (HI.entry r m since a seen es clock)
def peqB:Option Addr->Option Addr->Bool
 | none,b=>b.isNone
 | some _,none=>false
 | some p,some q=>p==q
def okA(w:World)(p:Addr):Prop:= ∃t n,w.shape? p.block=some (t,n)/\w.frozen? p=false/\w.frozen? ⟨p.block,n,none⟩=false
def PAP(a b:Option Addr)(w:World):Prop:=match a with
 | some p=>match b with
  | some q=>p.block=q.block∨(okA w p/\okA w q)
  | none=>True
 | none=>True
def YI{P:Program}{t e:TypeId}{a b:Option Addr}{n:Nat}{w:World}(m:P.underlying t=some (.pointer e))(v:n≠0)(J:(sizeOf e).run P w= .ok n w)(h:PAP a b w):
  (Op.equal t (.pointer a) (.pointer b)).run P w= .ok (peqB a b) w:=by
 have key: ∀d,(Op.equalIn (d+1) t (.pointer a) (.pointer b)).run P w= .ok (peqB a b) w:=by
  intro d;cases a with
  | none=>simp[Op.equalIn,Ae m,peqB]
  | some p=>cases b with
   | none=>simp[Op.equalIn,Ae m,peqB]
   | some q=>
    by_cases hb:p.block=q.block
    .simp[Op.equalIn,Ae m,J,v,sameAddr,hb,peqB]
    .obtain⟨⟨t1,n1,s1,f1,g1⟩,⟨t2,K,s2,f2,g2⟩⟩:=h.resolve_left hb;have u:(p==q)=false:=by
      have:p≠q:=λe=>hb (by rw[e]);simpa using this
     simp[Op.equalIn,Ae m,J,v,sameAddr,hb,peqB,frozen,noView,viewAt,shape,mayBeOne,stringish,Sem.run,s1,f1,g1,s2,f2,g2,u]
 exact key 9999
def mF(a b:Option Addr)(w:World)(K:Bool->Prop):Prop:=PAP a b w/\K (peqB a b)
def evRead(P:Program)(o:Op)(ρ:Operand->Value)(w:World)(K:Value->HI->Prop):Prop:=
 match o with
 | .load t a=>match ρ a with
  | .pointer p=>NC p λp=>aJ P t p w K
  | _=>False
 | .lookup t m k ok=>evLookup P t (ρ m) (ρ k) ok w K
 | .entry it=>match ρ it with
  | .pointer (some ⟨r,0,_⟩)=>mE r w λk v S=>K (.tuple #[k,v]) S
  | _=>False
 | .call c=>match c.callee with
  | .builtin .len=>match c.args.toList with
   | [x]=>match ρ x with
    | .map r=>match(c.argTypes.toList.head?).bind P.underlying with
     | some (.map _ _)=> ∃es,SG w r es/\K (.int .i64 es.size) (HI.obj r es)
     | _=>False
    | _=>False
   | _=>False
  | _=>False
 | .binOp op t x y _=>match ρ x with
  | .pointer a=>match ρ y with
   | .pointer b=>match P.underlying t with
    | some (.pointer e)=>szK P e λ_=>match op with
     | .eql=>mF a b w λr=>K (.bool r) (PAP a b)
     | .neq=>mF a b w λr=>K (.bool (!r)) (PAP a b)
     | _=>False
    | _=>False
   | _=>False
  | _=>False
 | _=>False
def QN{P:Program}:{l:List Ty}->{p:Addr}->{i:Nat}->{w:World}->{K:List Value->HI->Prop}->Wc l p i w K->
  ∃vs S,K vs S/\S w/\vs.length=l.length/\ ∀w',S w'-> ∀acc,(loadCellsFrom p i l.length acc).run P w'= .ok (acc++vs.toArray) w'
 | [],p,i,w,K,h=>⟨[],HI.all,h,trivial,rfl,λw' _ acc=>by simp[loadCellsFrom]⟩
 | t::r,p,i,w,K,h=>by
  obtain⟨x,v,h⟩:=h;obtain⟨vs,S,d,hS,m,u⟩:=QN (P:=P) h;refine⟨_,_,d,⟨v,hS⟩,by simp[m],λw' a acc=> ?_⟩;have e:w'.cell? (p.add i)=some (mkV t x):=a.1;simp[loadCellsFrom,e,u w' a.2]
def SH{P:Program}{t:TypeId}{p:Addr}{w:World}{K:Value->HI->Prop}(h:aJ P t p w K):
  ∃v S,K v S/\S w/\ ∀w',S w'->(loadVar t p).run P w'= .ok v w':=by
 obtain⟨hi,h|h⟩:=Vk h
 .obtain⟨h,m⟩:=h;obtain⟨J,h⟩:=KA h;obtain⟨vs,S,e,hS,Y,O⟩:=QN (P:=P) h;refine⟨_,S,e,hS,λw' a=> ?_⟩;have:=O w' a #[];simp[loadVar,m,YF hi,loadCells,<-J,this]
 .obtain⟨d,hd,⟨x,T,e⟩,m⟩:=h;refine⟨_,_,e,T,λw' a=> ?_⟩;have u:w'.cell? p=some (mkV (yM d) x):=a;simp[loadVar,m,u]
def run_findKey{P:Program}{a:TypeId}{k:IntKind}{n:Int}{es:Array MapEntry}{res:Option (Nat×Value)}(d:P.underlying a=some (.int k))
  (h:NK k n es res)(w:World):(Instr.findKey a (.int k n) es.toList).run P w= .ok res w:=by
 unfold NK at h;simp[Instr.findKey,Ae d,h]
def VR{P:Program}{a:TypeId}{k:IntKind}{n:Int}{e:Bool}(d:Nat)(m:P.underlying a=some (.int k))(w:World):
  (Instr.checkKey e (d+1) a (.int k n)).run P w= .ok () w:=by
 simp[Instr.checkKey,Ae m]
def run_checkKey{P:Program}{a:TypeId}{k:IntKind}{n:Int}{e:Bool}(d:P.underlying a=some (.int k))(w:World):
  (Instr.checkKey e 10000 a (.int k n)).run P w= .ok () w:=VR 9999 d w
def drop_cons{l s:List Value}{j:Nat}{v:Value}(h:l.drop j=v::s):l[j]? =some v/\l.drop (j+1)=s:=by
 constructor
 .have:=List.getElem?_drop (xs:=l) (i:=j) (j:=0)
  grind
 .rw[<-List.tail_drop,h];rfl
def LA{P:Program}{t:TypeId}{cs:Array Value}{j:Nat}{v:Value}(a:(∃k,P.underlying t=some (.int k))∨P.underlying t=some .bool)(e:cs.toList[j]? =some v)(w:World):(part t cs j).run P w= .ok v w:=by
 have d:cs[j]? =some v:=by grind
 rcases a with ⟨k,a⟩|a<;>simp[part,isAgg,Ae a,d]
def Rj{P:Program}(d:Nat)(cs T:Array Value): ∀(fs:List Field) (j:Nat) (s t:List Value) {b:Bool},cs.toList.drop j=s->T.toList.drop j=t->keyK P j fs s True->eqA s t=some b->
  ∀w,(Op.eqFields (d+1) cs T fs).run P w= .ok b w
 | [],j,[],t,b,hc,hd,h,he,w=>by
  cases t with
  | nil=>simp[eqA]at he;subst he;simp[Op.eqFields]
  | cons=>simp[eqA]at he
 | [],_,_::_,_,_,_,_,h,_,_=>h.elim
 | _::_,_,[],_,_,_,_,h,_,_=>h.elim
 | f::r,j,v::s,t,b,hc,hd,h,he,w=>by
  unfold keyK at h;obtain⟨J,K⟩:=drop_cons hc;split at h
  .rename_i Y;have Y:=Nat.eq_of_beq_eq_true Y;subst Y;split at h
   .rename_i hn;have O:f.name≠ "_" :=by grind
    split at h
    .rename_i kk e3;split at h
     .rename_i k a;obtain⟨aB,h2⟩:=Fk h;clear h;subst aB;cases t with
      | nil=>simp[eqA]at he
      | cons u t=>
       obtain⟨e,m⟩:=drop_cons hd;cases u<;>try (simp[eqA]at he;done)
       rename_i k' a';unfold eqA at he;split at he
       .rename_i ek;have ek:=aG (Nat.eq_of_beq_eq_true ek);subst ek;simp only[Op.eqFields,if_pos O,Sem.run_bind,LA (.inl ⟨_,e3⟩) J,LA (.inl ⟨_,e3⟩) e,Result.andThen_ok,run_equalIn_int w d f.type _ _ _ _ e3];cases hab:(a==a')
        .rw[hab]at he;cases he;simp
        .rw[hab]at he;simp only[cond_true]at he;simp[Rj d cs T r (f.offset+1) s t K m h2 he w]
       .cases he
     grind
    .rename_i e3;split at h
     .rename_i a;cases t with
      | nil=>simp[eqA]at he
      | cons u t=>
       obtain⟨e,m⟩:=drop_cons hd;cases u<;>try (simp[eqA]at he;done)
       rename_i a';unfold eqA at he;simp only[Op.eqFields,if_pos O,Sem.run_bind,LA (.inr e3) J,LA (.inr e3) e,Result.andThen_ok,run_equalIn_bool' w d f.type _ _ e3];cases hab:(a==a')
       .rw[hab]at he;cases he;simp
       .rw[hab]at he;simp only[cond_true]at he;simp[Rj d cs T r (f.offset+1) s t K m h he w]
     grind
    grind
   grind
  grind
def Tf{P:Program}{a:TypeId}{e:Array Field}{cs d:Array Value}{b:Bool}(v:P.underlying a=some (.struct e))(hp:P.stoodInHeld a=false)(h:keyK P 0 e.toList cs.toList True)(he:eqA cs.toList d.toList=some b)(w:World):
  (Op.equal a (.agg cs) (.agg d)).run P w= .ok b w:=by
 have u:P.fieldsOf a=e:=by simp[Program.fieldsOf,v]
 have m:P.underlying a=some (.struct (P.fieldsOf a)):=by grind
 show(Op.equalIn (9999+1) a (.agg cs) (.agg d)).run P w=_;rw[run_equalIn_struct w 9999 a cs d m hp,u];exact Rj 9998 cs d e.toList 0 _ _ rfl rfl h he w
def Vo{P:Program}{d:TypeId}{m:Array Field}{cs:Array Value}(a:P.underlying d=some (.struct m))(hp:P.stoodInHeld d=false)(h:keyK P 0 m.toList cs.toList True)(w:World):
  ∀(es:List MapEntry) (i:Nat) {res:Option (Nat×Value)},findA cs.toList es i=some res->(Instr.findAsking d (.agg cs) es i).run P w= .ok res w
 | [],i,res,hf=>by simp[findA]at hf;subst hf;simp[Instr.findAsking]
 | e::es,i,res,hf=>by
  unfold findA at hf;split at hf
  .rename_i ds hd;split at hf
   .rename_i he;cases hf;simp[Instr.findAsking,hd,Tf a hp h he]
   .rename_i he;have:=Vo a hp h w es (i+1) hf;simp[Instr.findAsking,hd,Tf a hp h he,this]
   .cases hf
  .cases hf
def QO{P:Program}{m:TypeId}{u:Array Field}{cs:Array Value}(d:P.underlying m=some (.struct u))(hp:P.stoodInHeld m=false)(h:keyK P 0 u.toList cs.toList True)
  {es:Array MapEntry}{res:Option (Nat×Value)}(a:findA cs.toList es.toList 0=some res)(w:World):(Instr.findKey m (.agg cs) es.toList).run P w= .ok res w:=by
 have v:=Vo d hp h w es.toList 0 a;cases hes:es.toList with
 | nil=>rw[hes]at a;simp[findA]at a;subst a;simp[Instr.findKey,Ae d,Instr.findNow]
 | cons e l=>rw[hes]at v;simp[Instr.findKey,Ae d,Instr.findNow,Instr.sameNow,v]
def Pd{P:Program}(e:Bool)(d:Nat)(cs:Array Value): ∀(O:List Field) (j:Nat) (s:List Value),cs.toList.drop j=s->keyK P j O s True->
  ∀w,(do for f in O do if f.name≠ "_" then Instr.checkKey e (d+1) f.type (<-part f.type cs f.offset):Sem Unit).run P w= .ok () w
 | [],_,_,_,_,w=>by simp
 | _::_,_,[],_,h,_=>h.elim
 | f::r,j,v::s,hc,h,w=>by
  unfold keyK at h;obtain⟨a,m⟩:=drop_cons hc;split at h
  .rename_i K;have K:=Nat.eq_of_beq_eq_true K;subst K;split at h
   .rename_i hn;have u:f.name≠ "_" :=by grind
    split at h
    .rename_i kk e3;split at h
     .obtain⟨Y,T⟩:=Fk h;have J:=Pd e d cs r (f.offset+1) s m T w;simp only[List.forIn_cons,Sem.run_bind,if_pos u,LA (.inl ⟨_,e3⟩) a,Result.andThen_ok,Instr.checkKey,Ae e3,Sem.run_pure]at J⊢;exact J
     grind
    .rename_i e3;split at h
     .have J:=Pd e d cs r (f.offset+1) s m h w;simp only[List.forIn_cons,Sem.run_bind,if_pos u,LA (.inr e3) a,Result.andThen_ok,Instr.checkKey,Ae e3,Sem.run_pure]at J⊢;exact J
     grind
    grind
   grind
  grind
def PF{P:Program}{m:TypeId}{a:Array Field}{cs:Array Value}(u:P.underlying m=some (.struct a))(h:keyK P 0 a.toList cs.toList True)(e:Bool)(w:World):
  (Instr.checkKey e 10000 m (.agg cs)).run P w= .ok () w:=by
 have key: ∀d,(Instr.checkKey e (d+1+1) m (.agg cs)).run P w= .ok () w:=by
  intro d;have:=Pd e d cs a.toList 0 _ rfl h w;rw[Instr.checkKey];simp only[Sem.run_bind,Ae u,Result.andThen_ok];rw[Array.forIn_toList,Sem.run_bind]at this;exact this
 grind
def Fm{P:Program}{w:World}{b:Nat}{es:Array MapEntry}{c:Nat}(h:w.heap[b]? =some (.map es c)):
  (getObj b).run P w= .ok (.map es c) w:=by
 simp[getObj,Sem.run,h]
def QP{P:Program}{o:Oper}{ρ:Operand->Value}{w:World}{K:Value->HI->Prop}(h:evRead P o.op ρ w K):
  ∃v S,K v S/\S w/\ ∀w',S w'->(execOp ρ o).run P w'= .ok (.value v) w':=by
 obtain⟨dst,op,type,pos,after,guard⟩:=o;simp only at h;unfold evRead at h;split at h
 .split at h
  .rename_i J;obtain⟨p,rfl,h⟩:=HF h;obtain⟨v,S,O,hS,hr⟩:=SH h;exact⟨v,S,O,hS,λw' d=>by simp[execOp,Instr.loadAt,J,Instr.sureAddr,hr w' d]⟩
  grind
 .rename_i t m k ok;unfold evLookup at h;split at h
  .rename_i kt et ht;split at h
   .rename_i kk hk;split at h
    .rename_i k' n hkey;obtain⟨rfl,h2⟩:=Fk h;split at h2
     .rename_i r hm;split at h2
      .rename_i z hz;obtain⟨es,res,u,hf,x,J,O⟩:=h2;refine⟨_,_,O,u,λw' d=> ?_⟩;have Y:=run_findKey hk hf w';have T:=λe=>run_checkKey (e:=e) (n:=n) hk w';rw[<-J];cases r with
       | none=>
        have he:es= #[]:=d;simp only[execOp,Instr.lookup,hm,hkey,Sem.run_bind,Ae ht,Result.andThen_ok,Sem.run_pure,T];rw[show([]:List MapEntry)=es.toList from by rw[he],Y];cases res<;>cases ok<;>simp[Fg hz,valOr]
       | some b=>
        obtain⟨c,hc⟩:=d;simp only[execOp,Instr.lookup,hm,hkey,Sem.run_bind,Ae ht,Result.andThen_ok,Sem.run_pure,T,Fm hc,Y];cases res<;>cases ok<;>simp[Fg hz,valOr]
      grind
     grind
    grind
   .rename_i fs hk;split at h
    .rename_i cs hkey;split at h
     .rename_i hp;obtain⟨h2,aE⟩:=MP h;split at h2
      .rename_i r hm;split at h2
       .rename_i z hz;obtain⟨es,res,u,hf,x,J,O⟩:=h2;refine⟨_,_,O,u,λw' d=> ?_⟩;have Y:=QO hk hp aE hf w';have T:=λe=>PF hk aE e w';rw[<-J];cases r with
        | none=>
         have he:es= #[]:=d;simp only[execOp,Instr.lookup,hm,hkey,Sem.run_bind,Ae ht,Result.andThen_ok,Sem.run_pure,T];rw[show([]:List MapEntry)=es.toList from by rw[he],Y];cases res<;>cases ok<;>simp[Fg hz,valOr]
        | some b=>
         obtain⟨c,hc⟩:=d;simp only[execOp,Instr.lookup,hm,hkey,Sem.run_bind,Ae ht,Result.andThen_ok,Sem.run_pure,T,Fm hc,Y];cases res<;>cases ok<;>simp[Fg hz,valOr]
       grind
      grind
     grind
    grind
   grind
  grind
 .split at h
  .rename_i J;obtain⟨m,since,aF,seen,es,clock,aI,e,hS,hb,hc,hf,O⟩:=h;refine⟨_,_,O,hS,λw' d=> ?_⟩;obtain⟨h1,h2⟩:=d;subst hc;simp[execOp,Instr.entry,J,getObj,Sem.run,h1,hb,h2,hf]
  grind
 .rename_i c;obtain⟨callee,args,argTypes⟩:=c;simp only at h;split at h
  .split at h
   .rename_i ha;split at h
    .rename_i r J;split at h
     .rename_i ht;obtain⟨es,u,O⟩:=h;refine⟨_,_,O,u,λw' d=> ?_⟩;have aH:args= #[_]:=Array.toList_inj.1 (by omega);subst aH;cases hT:argTypes.toList with
      | nil=>grind
      | cons t r'=>
       have aC:argTypes[0]? =some t:=by simp[<-Array.getElem?_toList,hT]
       simp[hT]at ht;cases r with
       | none=>
        have he:es= #[]:=d;subst he;simp[execOp,resolve,invoke,builtin,Builtin.len_,aC,J,Ae ht,goInt]
       | some b=>
        obtain⟨c,hc⟩:=d;simp[execOp,resolve,invoke,builtin,Builtin.len_,aC,J,Ae ht,goInt,Fm hc]
     grind
    grind
   grind
  grind
 .rename_i op t x y _;split at h
  .rename_i a J;split at h
   .rename_i b hy;split at h
    .rename_i e ht;obtain⟨n,h,hn,_,hr⟩:=Fl h;have hg: ∀w',(eqGuard op t x y (ρ x) (ρ y)).run P w'= .ok () w':=λw'=>by
      rw[J,hy];unfold eqGuard;cases op<;>simp
     split at h
     .obtain⟨hp,O⟩:=h;refine⟨_,_,O,hp,λw' d=> ?_⟩;have he:=YI ht hn (hr w') d;have:=hg w';rw[J,hy]at this;simp[execOp,J,hy,binOp,he,this]
     .obtain⟨hp,O⟩:=h;refine⟨_,_,O,hp,λw' d=> ?_⟩;have he:=YI ht hn (hr w') d;have:=hg w';rw[J,hy]at this;simp[execOp,J,hy,binOp,he,this]
     grind
    grind
   grind
  grind
 grind
def szZ(P:Program)(t:TypeId)(K:Nat->Prop):Prop:=match P.info? t with
 | some _=>K (WX P t)
 | none=>False
def mG{P:Program}{t:TypeId}{K:Nat->Prop}(h:szZ P t K): ∃n,K n/\n=WX P t/\ ∀w,(sizeOf t).run P w= .ok n w:=by
 unfold szZ at h;split at h
 .rename_i i hi;refine⟨_,h,rfl,λw=> ?_⟩;simp[sizeOf,typeInfo,hi,WX,Program.cellsOf]
 grind
def stCells(p:Addr):Nat->List Value->World->(World->Prop)->Prop
 | _,[],w,K=>K w
 | i,v::r,w,K=>((∃u,w.cell? (p.add i)=some u)/\w.frozen? (p.add i)=false/\v.oneCell'=true)/\stCells p (i+1) r (w.setCell (p.add i) v) K
def Kj(zs:Array Value)(n:Nat):Array Value:=(Array.range n).map λi=>zs[i %zs.size]!
def rowAt(w:World)(b:Option Addr)(n:Nat)(l:List Value):Prop:=match b with
 | none=>l=[]
 | some a=>l.length=n/\ ∀j v,l[j]? =some v->w.cell? (a.add j)=some v
def APP(elem size bytes:Nat)(zs:Array Value)(s x:AW)(w:World)(K:AW->World->Prop):Prop:=
 ∃news,rowAt w x.base (x.len*size) news/\
  (s.len+x.len<=s.cap->match s.base with
   | some a=>stCells (a.add (s.len*size)) 0 news w λw'=>K ⟨s.base,s.len+x.len,s.cap⟩ w'
   | none=>K ⟨none,s.len+x.len,s.cap⟩ w)/\
  (s.cap<s.len+x.len->(s.len+x.len)*bytes<=140737488355328/\s.len+x.len<=9223372036854775807/\ ∃d,rowAt w s.base (s.len*size) d/\
   ∀cap,s.len+x.len<=cap->cap<9223372036854775808->
    K ⟨some ⟨w.heap.size,0,none⟩,s.len+x.len,cap⟩ (w.drew.alloc (.cells (d.toArray++news.toArray++Builtin.zeroCells zs (cap-(s.len+x.len))) elem)))
def World.GX(w:World)(b:Nat)(o:Obj):World:={w with heap:=w.heap.setIfInBounds b o}
def mapPut(es:Array MapEntry)(c:Nat)(key v:Value)(res:Option (Nat×Value)):Obj:=match res with
 | some (i,_)=>.map (es.modify i λe=>{e with key,val:=v}) c
 | none=>.map (es.push {key,val:=v,born:=c}) (c+1)
def We(es:Array MapEntry)(c:Nat)(res:Option (Nat×Value)):Obj:=match res with
 | some (i,_)=>.map (es.eraseIdxIfInBounds i) c
 | none=>.map es c
def KB(k:IntKind)(n:Int)(v:Value)(r:Option Nat)(w:World)(K:World->Prop):Prop:=
 ∃b es c res,r=some b/\w.heap[b]? =some (.map es c)/\NK k n es res/\K (World.GX w b (mapPut es c (.int k n) v res))
def aK(cs:List Value)(v:Value)(r:Option Nat)(w:World)(K:World->Prop):Prop:=
 ∃b es c res,r=some b/\w.heap[b]? =some (.map es c)/\findA cs es.toList 0=some res/\K (World.GX w b (mapPut es c (.agg ⟨cs⟩) v res))
def sZ(k:IntKind)(n:Int)(z:Value)(r:Option Nat)(w:World)(K:Value->Int->World->Prop):Prop:=
 ∃b es c res,r=some b/\w.heap[b]? =some (.map es c)/\NK k n es res/\match res with
  | some (i,v)=> ∃e,es[i]? =some e/\K v (e.born:Int) (World.GX w b (.map (es.modify i λe=>{e with key:=.int k n}) c))
  | none=>K z (c:Int) (World.GX w b (.map (es.push {key:=.int k n,val:=z,born:=c}) (c+1)))
def tA(s:Int)(v:Value)(r:Option Nat)(w:World)(K:World->Prop):Prop:=
 ∃b es c i,r=some b/\w.heap[b]? =some (.map es c)/\es.findIdx? (λe=>(e.born:Int)==s)=some i/\K (World.GX w b (.map (es.modify i λe=>{e with val:=v}) c))
def CPY(size:Nat)(d x:AW)(w:World)(K:Nat->World->Prop):Prop:=
 ∃vs,rowAt w x.base (Nat.min x.len d.len*size) vs/\match d.base with
  | none=>K (Nat.min x.len d.len) w
  | some a=>stCells a 0 vs w λw'=>K (Nat.min x.len d.len) w'
def mH(t:Nat):Nat:=(t %2)*2^63+0x7ff0000000000000+1+(t/2) %(2^52-1)
def FRES(r:Option Nat)(w:World)(K:Nat->World->Prop):Prop:=match r with
 | some b=>K b w
 | none=> ∀t,K (mH t) w.drew
def fArith0(op:BinOp)(a b:Nat):Option Nat:=match op with
 | .add=>FloatKind.f64.format.add a b
 | .sub=>FloatKind.f64.format.sub a b
 | .mul=>FloatKind.f64.format.mul a b
 | _=>FloatKind.f64.format.div a b
noncomputable def JW(op:BinOp)(a b:Nat):Option Nat:=Nd (fArith0 op a b)
def isArith:BinOp->Bool
 | .add| .sub| .mul| .quo=>true
 | _=>false
def MDEL(k:IntKind)(n:Int)(r:Option Nat)(w:World)(K:World->Prop):Prop:=match r with
 | none=>K w
 | some b=> ∃es c res,w.heap[b]? =some (.map es c)/\NK k n es res/\K (World.GX w b (We es c res))
abbrev Ef:=FuncId->Array Value->World->(Value->World->Prop)->(Value->World->Prop)->Prop
def EW:Value->World->Prop:=λ_ _=>False
def Ends(K Kp:Value->World->Prop)(e:Ending)(w:World):Prop:=
 (∃v,e= .returned v/\K v w)∨(∃v,e= .panicked [{v:=v,recovered:=false}]/\Kp v w)
def Ends.val{K:Value->World->Prop}{e:Ending}{w:World}(h:Ends K EW e w): ∃v,e= .returned v/\K v w:=by
 rcases h with h|⟨_,_,f⟩
 .exact h
 .exact f.elim
def DYN(G:Ef)(v:Value)(args:Array Value)(w:World)(K:Value->World->Prop):Prop:=match v with
 | .func (.func g) first cap=>G g ((first++args)++cap) w K EW
 | _=>False
def CAL(G:Ef)(g:FuncId)(args:Array Value)(w:World)(K:Value->World->Prop):Prop:=G g args w K EW
def yO(P:Program):List TypeId->(List Value->Prop)->Prop
 | [],K=>K []
 | t::r,K=> ∃x:iX (aH P t),yO P r λl=>K (mkVT (aH P t) x::l)
def exRes(P:Program)(ty:TypeId)(v:Value)(K:Value->Prop):Prop:=match P.underlying ty with
 | some (.tuple ts)=>yO P ts.toList λl=>v= .tuple ⟨l⟩/\K (.tuple ⟨l⟩)
 | _=> ∃x:iX (aH P ty),v=mkVT (aH P ty) x/\K (mkVT (aH P ty) x)
def Vp{P:Program}:{ts:List TypeId}->{K:List Value->Prop}->yO P ts K-> ∃l,K l
 | [],_,h=>⟨_,h⟩
 | _::_,_,⟨_,h⟩=>let⟨l,h⟩:=Vp h;⟨_,h⟩
def Tg{P:Program}{ty:TypeId}{v:Value}{K:Value->Prop}(h:exRes P ty v K):K v:=by
 unfold exRes at h;split at h
 .obtain⟨l,rfl,a⟩:=Vp h;omega
 grind
def leftOf(es:Array MapEntry)(seen:Array Nat):Array MapEntry:=es.filter λe=> !seen.contains e.born
def Th(r:Nat)(w:World)(a:World->Prop)(u:Value->Value->World->Prop):Prop:=
 ∃d since seen last,w.heap[r]? =some (.mapIter d since seen last)/\match d with
  | none=>a w
  | some m=> ∃es clock,w.heap[m]? =some (.map es clock)/\(!seen.isEmpty&& !es.isEmpty&&es.all (·.born≥last))=false/\
    (∀w',(w'=w∨w'=w.drew)->((leftOf es seen).filter (·.born<since)).isEmpty=true->a w')/\
    (∀w' e,(w'=w∨w'=w.drew)->e∈leftOf es seen->u e.key e.val (World.GX w' r (.mapIter (some m) since (seen.push e.born) clock)))
def Kk(r:Option Nat)(cl:Nat):Obj:=match r with
 | none=>.mapIter none 0 #[] 0
 | some m=>.mapIter (some m) cl #[] cl
def PG(w:World)(r:Option Nat)(cl:Nat):Prop:=match r with
 | none=>True
 | some m=> ∃es,w.heap[m]? =some (.map es cl)
def PAN(x:Value)(K:Prop):Prop:=match x with
 | .iface _ _=>K
 | _=>False
def YJ{x:Value}{K:Prop}(h:PAN x K):(∃t v,x= .iface t v)/\K:=by
 unfold PAN at h
 grind
def CLR(zs:Array Value)(b:Option Addr)(n:Nat)(w:World)(K:World->Prop):Prop:=match b with
 | none=>K w
 | some a=>stCells a 0 (Builtin.zeroCells zs n).toList w K
def evEff(P:Program)(C G:Ef)(o:Op)(ty:TypeId)(ρ:Operand->Value)(w:World)(K Kp:Value->World->Prop):Prop:=
 match o with
 | .alloc t=>match LF P t with
  | some z=>K (.pointer (some ⟨w.heap.size,0,none⟩)) (w.alloc (.cells z.cells t))
  | none=>False
 | .box t x=>K (.pointer (some ⟨w.heap.size,0,none⟩)) (w.alloc (.cells (ρ x).cells t))
 | .buildSlice t n parts=>match P.underlying t with
  | some (.slice e)=>szK P e λz=>leK (n*z) 4096 (match LF P e with
   | some zv=>evFill (λi=>some (i*z,z)) ((parts.map λ(i,x)=>(i,ρ x)).toList) (Kj zv.cells (n*z)).toList λl=>
     K (.slice (some ⟨w.heap.size,0,none⟩) n n) (w.alloc (.cells ⟨l⟩ e))
   | none=>False)
  | _=>False
 | .store t a x=>match ρ a with
  | .pointer p=>NC p λp=>szZ P t λn=>Pb (ρ x).cells.toList.length n (stCells p 0 (ρ x).cells.toList w λw'=>K undef w')
  | _=>False
 | .range t x=>match P.underlying t with
  | some (.map _ _)=>match ρ x with
   | .map r=> ∃cl,PG w r cl/\K (.pointer (some ⟨w.heap.size,0,none⟩)) (w.alloc (Kk r cl))
   | _=>False
  | _=>False
 | .next it false=>match ρ it with
  | .pointer (some ⟨r,0,_⟩)=>Th r w (λw'=>K (.tuple #[.bool false]) w') λk v w'=>K (.tuple #[.bool true,k,v]) w'
  | _=>False
 | .makeMap _ none=>K (.map (some w.heap.size)) (w.alloc (.map #[] 0))
 | .makeSlice t l c=>match P.underlying t with
  | some (.slice e)=>szK P e λz=>match LF P e with
   | some zv=>match ρ l with
    | .int .i64 l=>match ρ c with
     | .int .i64 c=>(0<=l/\l<=c/\c<9223372036854775808/\(P.bytesOf e:Int)*c<=140737488355328)/\
       K (.slice (some ⟨w.heap.size,0,none⟩) l.toNat c.toNat) (w.alloc (.cells (Kj zv.cells (c.toNat*z)) e))
     | _=>False
    | _=>False
   | none=>False
  | _=>False
 | .mapUpdate t m k x| .insert t m k x=>match P.underlying t with
  | some (.map kt _)=>match P.underlying kt with
   | some (.int kk)=>match ρ k with
    | .int k' n=>sameK kk k' (match ρ m with
     | .map r=>KB kk n (ρ x) r w λw'=>K undef w'
     | _=>False)
    | _=>False
   | some (.struct fs)=>match ρ k with
    | .agg cs=>match P.stoodInHeld kt with
     | false=>keyK P 0 fs.toList cs.toList (match ρ m with
      | .map r=>aK cs.toList (ρ x) r w λw'=>K undef w'
      | _=>False)
     | true=>False
    | _=>False
   | _=>False
  | _=>False
 | .mapEntry t m k=>match P.underlying t with
  | some (.map kt et)=>match P.underlying kt with
   | some (.int kk)=>match ρ k with
    | .int k' n=>sameK kk k' (match ρ m with
     | .map r=>match LF P et with
      | some z=>sZ kk n z r w λv s w'=>K (.tuple #[v,.int .i64 s]) w'
      | none=>False
     | _=>False)
    | _=>False
   | _=>False
  | _=>False
 | .entryStore _ m s x=>match ρ s with
  | .int _ s=>match ρ m with
   | .map r=>tA s (ρ x) r w λw'=>K undef w'
   | _=>False
  | _=>False
 | .binOp op _ x y _=>match isArith op with
  | true=>match ρ x with
   | .float k a=>match ρ y with
    | .float k' b=>X7 k (X7 k' (FRES (JW op a b) w λr w'=>K (.float .f64 r) w'))
    | _=>False
   | _=>False
  | false=>False
 | .call c=>match c.callee with
  | .value (.func g)=>C g (c.args.map ρ) w K Kp
  | .value f=>DYN G (ρ f) (c.args.map ρ) w λv w'=>exRes P ty v λv=>K v w'
  | .builtin .append=>match c.args.toList,c.argTypes.toList with
   | [s,x],[ts,tx]=>match P.underlying ts with
    | some (.slice e)=>match P.underlying tx with
     | some (.slice _)=>szK P e λz=>match LF P e with
      | some zv=>match ρ s with
       | .slice sb sl sc=>match ρ x with
        | .slice xb xl xc=>APP e z (P.bytesOf e) zv.cells ⟨sb,sl,sc⟩ ⟨xb,xl,xc⟩ w λr w'=>K (.slice r.base r.len r.cap) w'
        | _=>False
       | _=>False
      | none=>False
     | _=>False
    | _=>False
   | _,_=>False
  | .builtin .copy=>match c.args.toList,c.argTypes.toList with
   | [d,x],t::_=>match P.underlying t with
    | some (.slice e)=>szK P e λz=>match ρ d with
     | .slice db dl dc=>match ρ x with
      | .slice xb xl xc=>CPY z ⟨db,dl,dc⟩ ⟨xb,xl,xc⟩ w λn w'=>K (.int .i64 n) w'
      | _=>False
     | _=>False
    | _=>False
   | _,_=>False
  | .builtin .delete=>match c.args.toList,c.argTypes.toList with
   | [m,k],t::_=>match P.underlying t with
    | some (.map kt _)=>match P.underlying kt with
     | some (.int kk)=>match ρ k with
      | .int k' n=>sameK kk k' (match ρ m with
       | .map r=>MDEL kk n r w λw'=>K (.tuple #[]) w'
       | _=>False)
      | _=>False
     | _=>False
    | _=>False
   | _,_=>False
  | .builtin .clear=>match c.args.toList,c.argTypes.toList with
   | [x],[t]=>match P.underlying t with
    | some (.slice e)=>match LF P e with
     | some zv=>match ρ x with
      | .slice b n _=>CLR zv.cells b n w λw'=>K (.tuple #[]) w'
      | _=>False
     | none=>False
    | _=>False
   | _,_=>False
  | .builtin .panic=>match c.args.toList with
   | [x]=>PAN (ρ x) (Kp (ρ x) w)
   | _=>False
  | _=>False
 | .panic x=>PAN (ρ x) (Kp (ρ x) w)
 | _=>False
def Goes(P:Program)(r:Result Next)(K Kp:Value->World->Prop):Prop:=match r with
 | .ok (.value v) w=>K v w
 | .ok .skip w=>K undef w
 | .ok (.enter f args) w=>Calls P f args w (Ends K Kp)
 | .halt (.panic v) w=>Kp v w
 | _=>False
def JX{P:Program}{p:Addr}:{vs:List Value}->{i:Nat}->{w:World}->{K:World->Prop}->stCells p i vs w K->
  ∃w',K w'/\(storeCells p vs i).run P w= .ok () w'
 | [],i,w,K,h=>⟨w,h,by rfl⟩
 | v::r,i,w,K,h=>by
  obtain⟨⟨⟨u,hu⟩,d,ho⟩,h⟩:=h;obtain⟨w',a,e⟩:=JX (P:=P) h;exact⟨w',a,by simp[storeCells,run_store P w _ v .plain ho,hu,d,e]⟩
def Ho{P:Program}{w:World}{b:Option Addr}{n size len cap:Nat}{l:List Value}(h:rowAt w b (n*size) l):
  (Builtin.firstCells size n (.slice b len cap)).run P w= .ok l.toArray w:=by
 cases b with
 | none=>have:l=[]:=h;subst this;rfl
 | some a=>exact run_firstCells_some w size n a len cap l h.1 h.2
def Ti{w:World}{b:Option Addr}{n:Nat}{l:List Value}(h:rowAt w b n l):rowAt w.drew b n l:=by
 cases b with
 | none=>exact h
 | some a=>exact⟨h.1,λj v d=>by simpa using h.2 j v d⟩
def iZ{P:Program}{e z ts tx ty:Nat}{zv:Value}{sb xb:Option Addr}{sl J v xc:Nat}{w:World}{K:AW->World->Prop}
  (O:P.underlying ts=some (.slice e))(u: ∃e',P.underlying tx=some (.slice e'))(hz: ∀w,(sizeOf e).run P w= .ok z w)(aA:LF P e=some zv)
  (h:APP e z (P.bytesOf e) zv.cells ⟨sb,sl,J⟩ ⟨xb,v,xc⟩ w K):
  ∃r w',K r w'/\(Builtin.append_ #[ts,tx] ty #[.slice sb sl J,.slice xb v xc]).run P w= .ok (.slice r.base r.len r.cap) w':=by
 obtain⟨news,hn,m,d⟩:=h;obtain⟨e',u⟩:=u;simp only at m d hn;obtain⟨i,hi⟩: ∃i,P.info? e=some i:=by
  cases hi:P.info? e with
  | none=>simp[LF,hi]at aA
  | some i=>simp
 have aN:i.bytes=P.bytesOf e:=by simp[Program.bytesOf,hi]
 have aH:=Fg aA;by_cases hc:sl+v<=J
 .have h1:=m hc;have hf:=Ho (P:=P) (len:=v) (cap:=xc) hn;cases sb with
  | none=>exact⟨_,_,h1,by simp[Builtin.append_,Ae O,Ae u,hz,Builtin.lenOf,hc,hf]⟩
  | some a=>
   obtain⟨w',hK,hr⟩:=JX (P:=P) h1;refine⟨_,_,hK,by simp[Builtin.append_,Ae O,Ae u,hz,Builtin.lenOf,hc,hf,hr]⟩
 .obtain⟨hb,aD,aK,ho,hK⟩:=d (by omega);have aJ:=growslice_fits (bytes:=i.bytes) (by omega:J<sl+v) (by grind);have T: ¬(281474976710656<Builtin.nextslicecap (sl+v) J*i.bytes):=by omega
  have Y: ¬(9223372036854775807<((sl:Int)+(v:Int))):=by omega
  have hf:=Ho (P:=P) (len:=v) (cap:=xc) (Ti hn);have aF:=Ho (P:=P) (len:=sl) (cap:=J) (Ti ho);have hk:=hK (grownCap w (sl+v) J e) (grownCap_ge w _ _ _) (by
   have:=grownCap_le_maxLen w (sl+v) J e (by simpa[maxLen]using aD);simp only[maxLen]at this;omega)
  refine⟨_,_,hk,?_⟩;simp[Builtin.append_,Ae O,Ae u,hz,typeInfo,hi,aH,Builtin.lenOf,hc,Y,T,Question.forced,hf,aF,newRow,grownCap]
  grind
def Tj(kd:TypeDesc)(key:Value): ∀(es:List MapEntry) (j i:Nat) (v:Value),Instr.findNow kd key es j=some (some (i,v))->j<=i
 | [],j,i,v,h=>by simp[Instr.findNow]at h
 | e::r,j,i,v,h=>by
  simp only[Instr.findNow]at h;split at h
  .grind
  .have:=Tj kd key r (j+1) i v h;omega
  grind
def Ml(k:IntKind)(n:Int): ∀(es:List MapEntry) (j i:Nat) (v:Value),Instr.findNow (.int k) (.int k n) es j=some (some (i,v))->
  ∃e,es[i-j]? =some e/\e.key= .int k n/\e.val=v
 | [],j,i,v,h=>by simp[Instr.findNow]at h
 | e::r,j,i,v,h=>by
  simp only[Instr.findNow]at h;split at h
  .rename_i hs;simp at h;obtain⟨rfl,rfl⟩:=h;refine⟨e,by simp,?_,rfl⟩;unfold Instr.sameNow at hs
   grind
  .obtain⟨a,he,h1,d⟩:=Ml k n r (j+1) i v h;have:=Tj _ _ _ _ _ _ h
   grind
  grind
def HJ{P:Program}{w:World}{b:Nat}{es:Array MapEntry}{c:Nat}(h:w.heap[b]? =some (.map es c))(o:Obj):
  (setObj b o).run P w= .ok () (World.GX w b o):=by
 simp[setObj,Sem.run,h,World.GX]
def Vq{P:Program}{k:IntKind}{n:Int}(w:World):(Instr.keyThatStays (.int k n) (.int k n)).run P w= .ok (.int k n) w:=by
 have:Instr.sameBits 10000 (.int k n) (.int k n)=true:=by
  rw[show(10000:Nat)=9999+1 from rfl];cases k<;>simp[Instr.sameBits]
 simp[Instr.keyThatStays,this]
def PH{P:Program}{t T Y:TypeId}{k:IntKind}{n:Int}{v:Value}{r:Option Nat}{w:World}{K:World->Prop}
  (ht:P.underlying t=some (.map T Y))(O:P.underlying T=some (.int k))(h:KB k n v r w K):
  ∃w',K w'/\(Instr.mapUpdate t (.map r) (.int k n) v).run P w= .ok () w':=by
 obtain⟨b,es,c,res,rfl,a,J,hK⟩:=h;refine⟨_,hK,?_⟩;have m:=run_findKey O J w;simp only[Instr.mapUpdate,Sem.run_bind,Ae ht,Result.andThen_ok,Fm a,run_checkKey O,m];cases res with
 | none=>simp[HJ a,mapPut]
 | some q=>
  obtain⟨i,u⟩:=q;obtain⟨e,he,h1,_⟩:=Ml k n es.toList 0 i u J;have d:es[i]? =some e:=by grind
  simp[d,h1,Vq,HJ a,mapPut]
def aL{P:Program}{t J O ty:TypeId}{k:IntKind}{n:Int}{r:Option Nat}{w:World}{K:World->Prop}{ts:Array TypeId}(a:ts[0]? =some t)
  (v:P.underlying t=some (.map J O))(m:P.underlying J=some (.int k))(h:MDEL k n r w K):
  ∃w',K w'/\(Builtin.delete_ ts ty #[.map r,.int k n]).run P w= .ok (.tuple #[]) w':=by
 cases r with
 | none=>exact⟨w,h,by simp[Builtin.delete_,a,Ae v,run_checkKey m]⟩
 | some b=>
  obtain⟨es,c,res,d,Y,T⟩:=h;refine⟨_,T,?_⟩;have e:=run_findKey m Y w;simp only[Builtin.delete_,a,List.getElem?_toArray,List.getElem?_cons_zero,List.getElem?_cons_succ,Sem.run_bind,Ae v,Result.andThen_ok,Fm d,run_checkKey m,e];cases res with
  | none=>simp[HJ d,We]
  | some q=>obtain⟨i,u⟩:=q;simp[HJ d,We]
def Fits(P:Program)(C:Ef):Prop:= ∀g args w K Kp,C g args w K Kp->
 ((∀w,(callFunc g args).run P w= .ok (.enter g args) w)/\Calls P g args w (Ends K Kp))∨ ∃v w',(callFunc g args).run P w= .ok (.value v) w'/\K v w'
def aM: ∀{l m:List Value},eqA l m=some true->l=m
 | [],[],_=>rfl
 | [],_::_,h=>by simp[eqA]at h
 | v::l,m,h=>by
  cases v<;>cases m<;>try (simp[eqA]at h;done)
  all_goals (rename_i u m;cases u<;>try (simp[eqA]at h;done))
  .unfold eqA at h;rename_i a b;cases hab:(a==b)
   .grind
   .rw[hab]at h;rw[aM h,(by grind:a=b)]
  .unfold eqA at h;split at h
   .rename_i k a k' b _ d;have d:=aG (Nat.eq_of_beq_eq_true d);cases hab:(a==b)
    .grind
    .rw[hab]at h;rw[aM h,d,(by grind:a=b)]
   grind
def Tl(n:Nat): ∀{l m:List Value},eqA l m=some true->((l.zip l).all λ(x,y)=>Instr.sameBits n x y)=true
 | [],_,_=>rfl
 | v::l,m,h=>by
  cases v<;>cases m<;>try (simp[eqA]at h;done)
  all_goals (rename_i u m;cases u<;>try (simp[eqA]at h;done))
  .unfold eqA at h;rename_i a b;cases hab:(a==b)
   .grind
   .rw[hab]at h;simp only[List.zip_cons_cons,List.all_cons,Tl n h,Bool.and_true];cases n<;>simp[Instr.sameBits]
  .unfold eqA at h;split at h
   .rename_i k a k' b _ ek;cases hab:(a==b)
    .grind
    .rw[hab]at h;simp only[List.zip_cons_cons,List.all_cons,Tl n h,Bool.and_true];cases n<;>simp[Instr.sameBits]
   grind
def YK(cs:List Value): ∀(es:List MapEntry) (j i:Nat) (v:Value),findA cs es j=some (some (i,v))-> ∃e a,es[i-j]? =some e/\j<=i/\e.key= .agg a/\eqA cs a.toList=some true
 | [],j,i,v,h=>by simp[findA]at h
 | e::es,j,i,v,h=>by
  unfold findA at h;split at h
  .rename_i a hd;split at h
   .grind
   .obtain⟨m,d,h1,u,J,K⟩:=YK cs es (j+1) i v h
    grind
   grind
  grind
def Ni{P:Program}{t Y et:TypeId}{fs:Array Field}{cs:Array Value}{v:Value}{r:Option Nat}{w:World}{K:World->Prop}
  (ht:P.underlying t=some (.map Y et))(hk:P.underlying Y=some (.struct fs))(hp:P.stoodInHeld Y=false)(a:keyK P 0 fs.toList cs.toList True)(h:aK cs.toList v r w K):
  ∃w',K w'/\(Instr.mapUpdate t (.map r) (.agg cs) v).run P w= .ok () w':=by
 obtain⟨b,es,c,res,rfl,d,hf,hK⟩:=h;refine⟨_,hK,?_⟩;have O:=QO hk hp a hf w;simp only[Instr.mapUpdate,Sem.run_bind,Ae ht,Result.andThen_ok,Fm d,PF hk a,O];cases res with
 | none=>simp[HJ d,mapPut]
 | some q=>
  obtain⟨i,u⟩:=q;obtain⟨e,ds,he,_,h1,h2⟩:=YK cs.toList es.toList 0 i u hf;have J:es[i]? =some e:=by grind
  have m:cs=ds:=Array.toList_inj.1 (aM h2);subst m;have T:(Instr.keyThatStays (.agg cs) (.agg cs)).run P w= .ok (.agg cs) w:=by
   have:Instr.sameBits 10000 (.agg cs) (.agg cs)=true:=by
    rw[Instr.sameBits];simp only[beq_self_eq_true,Bool.true_and];exact Tl 9999 h2
   simp[Instr.keyThatStays,this]
  simp[J,h1,T,HJ d,mapPut]
def YL{P:Program}{w:World}{b:Nat}{a:Option Nat}{s l:Nat}{d:Array Nat}(h:w.heap[b]? =some (.mapIter a s d l))(o:Obj):
  (setObj b o).run P w= .ok () (World.GX w b o):=by
 simp[setObj,Sem.run,h,World.GX]
def jA{P:Program}{dst:Option Tmp}{it:Operand}{type:TypeId}{pos:String}{after:Array Edge}{guard:Option (Nat×Bool)}{ρ:Operand->Value}{w:World}{r m since last clock:Nat}{sp:Option Nat}
  {seen:Array Nat}{es:Array MapEntry}{K Kp:Value->World->Prop}(hx:ρ it= .pointer (some ⟨r,0,sp⟩))(hr:w.heap[r]? =some (.mapIter (some m) since seen last))(hm:w.heap[m]? =some (.map es clock))
  (v:(!seen.isEmpty&& !es.isEmpty&&es.all (·.born≥last))=false)
  (hn: ∀w',(w'=w∨w'=w.drew)->((leftOf es seen).filter (·.born<since)).isEmpty=true->K (.tuple #[.bool false]) w')
  (hs: ∀w' e,(w'=w∨w'=w.drew)->e∈leftOf es seen->K (.tuple #[.bool true,e.key,e.val]) (World.GX w' r (.mapIter (some m) since (seen.push e.born) clock))):
  Goes P ((execOp ρ ⟨dst,.next it false,type,pos,after,guard⟩).run P w) K Kp:=by
 have aC:(getObj r).run P w= .ok (.mapIter (some m) since seen last) w:=by simp[getObj,Sem.run,hr]
 have aB:=Fm (P:=P) hm;simp only[execOp,Instr.next,hx,Sem.run_bind,aC,Result.andThen_ok,aB,v,Bool.false_eq_true,if_false];obtain⟨left,u⟩: ∃left,left=leftOf es seen:=⟨_,rfl⟩;rw[<-u]at hn hs;have hl:(es.filter λe=> !seen.contains e.born)=left:=u.symm;simp only[hl];obtain⟨O4,hold⟩: ∃O4,O4=left.filter (λx=>decide (x.born<since)):=⟨_,rfl⟩;obtain⟨nu,aE⟩: ∃nu,nu=left.filter (λx=>decide (x.born≥since)):=⟨_,rfl⟩;rw[<-hold]at hn;simp only[<-hold,<-aE];obtain⟨a,d⟩: ∃a,a=((if O4.isEmpty=true then #[none]else #[])++Array.map some (O4++nu):Array (Option MapEntry)):=⟨_,rfl⟩;simp only[<-d];have Y:0<a.size:=by
  rw[d];by_cases ho:O4.isEmpty=true
  .grind
  .simp[ho];have:O4.size≠0:=λe=>ho (by grind);omega
 have aA: ∃idx w',(w'=w∨w'=w.drew)/\(choose (.mapNext a.size)).run P w= .ok idx w'/\idx<a.size:=by
  rw[run_choose];by_cases hf:Question.forced (.mapNext a.size)=true
  .exact⟨0,w,.inl rfl,by grind,Y⟩
  .exact⟨_,_,.inr rfl,by rw[if_neg hf];rfl,Nat.mod_lt _ Y⟩
 obtain⟨idx,w',aH,T,aD⟩:=aA;rw[T];simp only[Result.andThen_ok];have O:a[idx]? =some a[idx]:=Array.getElem?_eq_getElem aD;rw[O];cases hc:a[idx]with
 | none=>
  have aF:O4.isEmpty=true:=by grind
  simp only[Sem.run_pure,Result.andThen_ok,Goes]
  grind
 | some e=>
  have J:some e∈a:=by grind
  have aL:e∈left:=by
   rw[d]at J;simp only[Array.mem_append,Array.mem_map]at J
   grind
  have aG:w'.heap[r]? =some (.mapIter (some m) since seen last):=by
   rcases aH with rfl|rfl<;>exact hr
  simp only[Sem.run_bind,YL aG,Result.andThen_ok,Sem.run_pure,Goes]
  grind
def YM{P:Program}{C G:Ef}(hC:Fits P C)(hG:Fits P G){o:Oper}{ρ:Operand->Value}{w:World}{K Kp:Value->World->Prop}(hρ: ∀g,ρ (.func g)= .func (.func g) #[] #[])
  (h:evEff P C G o.op o.type ρ w K Kp):Goes P ((execOp ρ o).run P w) K Kp:=by
 obtain⟨dst,op,type,pos,after,guard⟩:=o;simp only at h;unfold evEff at h;split at h
 case h_1=>
  split at h
  .rename_i z hz;simpa[execOp,Instr.alloc,Fg hz,newVar,newRow,Goes]using h
  grind
 case h_2=>simpa[execOp,Instr.box,newVar,newRow,Goes]using h
 case h_3=>
  split at h
  .rename_i t n parts _ e ht;obtain⟨z,h,aG,_,d⟩:=Fl h;obtain⟨hle,h⟩:=YD h;split at h
   .rename_i zv hz;obtain⟨out,O,hf⟩:=Lq h;have aN: ¬(16777216<n*z):=Nat.not_lt.2 (Nat.le_trans hle (by decide));by_cases hn:n=0
    .subst hn;simp[Kj,Array.range_zero']at hf;simp[execOp,Instr.buildSlice,Ae ht,d,hf,newRow,Goes,Array.range_zero'];omega
    .have aY: ¬(n*z=0):=Nat.mul_ne_zero hn aG;simp[Kj]at hf;simp[execOp,Instr.buildSlice,Ae ht,d,aN,aY,Fg hz,hf,newRow,Goes];omega
   grind
  grind
 case h_4=>
  split at h
  .rename_i T;obtain⟨p,rfl,J⟩:=HF h;obtain⟨n,h3,hn,d⟩:=mG J;obtain⟨hl,h4⟩:=KA h3;obtain⟨w',O,aI⟩:=JX (P:=P) h4;have aM:=hl;rw[Array.length_toList]at aM;simp[execOp,Instr.storeAt,T,Instr.sureAddr,storeVar,d,aM,aI,Goes,O]
  grind
 case h_5=>
  split at h
  .rename_i ht;split at h
   .rename_i r T;obtain⟨cl,d,O⟩:=h;cases r with
    | none=>simpa[execOp,Instr.range,Ae ht,T,Goes,Kk]using O
    | some m=>
     obtain⟨es,hm⟩:=d;simpa[execOp,Instr.range,Ae ht,T,Fm hm,Goes,Kk]using O
   grind
  grind
 case h_6=>
  split at h
  .rename_i r sp T;obtain⟨mo,since,seen,last,d,h⟩:=h;have aX:(getObj r).run P w= .ok (.mapIter mo since seen last) w:=by simp[getObj,Sem.run,d]
   cases mo with
   | none=>
    simp[execOp,Instr.next,T,aX,Goes];exact h
   | some m=>
    obtain⟨es,clock,hm,aF,hn,hs⟩:=h;exact jA T d hm aF hn hs
  grind
 case h_7=>simpa[execOp,Instr.makeMap,Goes]using h
 case h_8=>
  split at h
  .rename_i e ht;obtain⟨z,h,aG,_,d⟩:=Fl h;split at h
   .rename_i zv hz;split at h
    .rename_i l hl;split at h
     .rename_i c hc;obtain⟨⟨h0,h1,J,h3⟩,O⟩:=h;obtain⟨i,hi⟩: ∃i,P.info? e=some i:=by
       cases hi:P.info? e with
       | none=>simp[LF,hi]at hz
       | some i=>simp
      have aV:P.bytesOf e=i.bytes:=by simp[Program.bytesOf,hi]
      rw[aV]at h3;have a8:0<=l:=h0;have w1:IntKind.i64.wrap l=l:=IntWalk.i64_in l (by omega);have w2:IntKind.i64.wrap c=c:=IntWalk.i64_in c (by omega);have t1: ¬(c<0):=by omega
      have t2: ¬(l<0):=by omega
      have t3: ¬(c<l):=by omega
      have t4: ¬(281474976710656<(i.bytes:Int)*c):=by omega
      by_cases aE:c.toNat*z=0
      .have:c.toNat=0:=by rcases Nat.mul_eq_zero.1 aE with h|h<;>omega
       simp[Kj,aE,Array.range_zero']at O;simp[execOp,Instr.makeSlice,Ae ht,hl,hc,asInt,asIntOf,typeInfo,hi,w1,w2,t1,t2,t3,t4,d,aE,newRow,Goes,Array.range_zero'];omega
      .have aJ: ¬(c.toNat*z=0):=aE;simp[Kj]at O;simp[execOp,Instr.makeSlice,Ae ht,hl,hc,asInt,asIntOf,typeInfo,hi,w1,w2,t1,t2,t3,t4,d,aJ,Fg hz,newRow,Goes];omega
     grind
    grind
   grind
  grind
 case h_9=>
  split at h
  .rename_i ht;split at h
   .rename_i hk;split at h
    .rename_i hkey;obtain⟨rfl,J⟩:=Fk h;split at J
     .rename_i hm;obtain⟨w',O,d⟩:=PH ht hk J;simpa[execOp,hkey,hm,d,Goes]using O
     grind
    grind
   .rename_i hk;split at h
    .rename_i hkey;split at h
     .rename_i hp;obtain⟨J,aD⟩:=MP h;split at J
      .rename_i hm;obtain⟨w',O,d⟩:=Ni ht hk hp aD J;simpa[execOp,hkey,hm,d,Goes]using O
      grind
     grind
    grind
   grind
  grind
 case h_10=>
  split at h
  .rename_i ht;split at h
   .rename_i hk;split at h
    .rename_i hkey;obtain⟨rfl,J⟩:=Fk h;split at J
     .rename_i hm;obtain⟨w',O,d⟩:=PH ht hk J;simpa[execOp,hkey,hm,d,Goes]using O
     grind
    grind
   .rename_i hk;split at h
    .rename_i hkey;split at h
     .rename_i hp;obtain⟨J,aD⟩:=MP h;split at J
      .rename_i hm;obtain⟨w',O,d⟩:=Ni ht hk hp aD J;simpa[execOp,hkey,hm,d,Goes]using O
      grind
     grind
    grind
   grind
  grind
 case h_11=>
  split at h
  .rename_i ht;split at h
   .rename_i hk;split at h
    .rename_i hkey;obtain⟨aD,J⟩:=Fk h;subst aD;split at J
     .rename_i hm;split at J
      .rename_i z hz;obtain⟨b,es,c,res,rfl,hb,hf,O⟩:=J;have aK:=run_findKey hk hf w;cases res with
       | none=>
        simp[execOp,hkey,hm,Instr.mapEntry,Ae ht,Fm hb,run_checkKey hk,aK,Fg hz,HJ hb,goInt,Goes];omega
       | some q=>
        obtain⟨i,u⟩:=q;obtain⟨e,he,O⟩:=O;obtain⟨e',a7,h1,_⟩:=Ml _ _ es.toList 0 i u hf;have a0:es[i]? =some e':=by grind
        have aW:e'=e:=by grind
        subst aW;simp[execOp,hkey,hm,Instr.mapEntry,Ae ht,Fm hb,run_checkKey hk,aK,he,h1,Vq,HJ hb,goInt,Goes];omega
      grind
     grind
    grind
   grind
  grind
 case h_12=>
  split at h
  .rename_i hs;split at h
   .rename_i hm;obtain⟨b,es,c,i,rfl,hb,hi,O⟩:=h;simp[execOp,hs,hm,Instr.entryStore,Fm hb,asInt,asIntOf,hi,HJ hb,Goes];omega
   grind
  grind
 case h_13 op t x y _=>
  split at h
  .rename_i hop;split at h
   .rename_i T;split at h
    .rename_i hy;obtain⟨e1,h1⟩:=Jz h;obtain⟨e2,J⟩:=Jz h1;clear h h1;subst e1;subst e2;have hg:(eqGuard op t x y (ρ x) (ρ y)).run P w= .ok () w:=by
      unfold eqGuard
      simp_all
     unfold FRES at J;split at J
     .rename_i r d;cases op<;>first|(simp[isArith]at hop;done)|(simp only[JW,J0,fArith0]at d;simp[execOp,T,hy]at hg⊢;simp[hg,binOp,Op.floatArith,d,Goes];omega)
     .rename_i d;cases op<;>first|(simp[isArith]at hop;done)|(simp only[JW,J0,fArith0]at d;simp[execOp,T,hy]at hg⊢;simp[hg,binOp,Op.floatArith,d,Goes,Question.forced];exact J _)
    grind
   grind
  grind
 case h_14 c=>
  obtain⟨callee,args,argTypes⟩:=c;simp only at h;split at h
  .simp[execOp,resolve,hρ,Deferred.ofValue,invoke];rcases hC _ _ _ _ _ h with ⟨h1,J⟩|⟨v,w',h1,J⟩
   .simpa[h1,Goes]using J
   .simpa[h1,Goes]using J
  .unfold DYN at h;split at h
   .rename_i hf;simp[execOp,resolve,hf,Deferred.ofValue,invoke];rcases hG _ _ _ _ _ h with ⟨h1,J⟩|⟨v,w',h1,J⟩
    .simp at h1 J;simp only[h1,Result.andThen_ok,Goes];refine J.mono ?_;intro e w' hE;obtain⟨v,rfl,hv⟩:=hE.val;exact .inl ⟨v,rfl,Tg hv⟩
    .simp at h1;simp only[h1,Result.andThen_ok,Goes];exact Tg J
   grind
  .split at h
   .rename_i ha hT;have Y:args= #[_,_]:=Array.toList_inj.1 (by omega);have aH:argTypes= #[_,_]:=Array.toList_inj.1 (by omega);subst Y;subst aH;split at h
    .rename_i ht;split at h
     .rename_i htx;obtain⟨z,h,aG,_,d⟩:=Fl h;split at h
      .rename_i zv hz;split at h
       .rename_i hs;split at h
        .rename_i T;obtain⟨r,w',O,aQ⟩:=iZ (ty:=type) ht ⟨_,htx⟩ d hz h;simpa[execOp,resolve,invoke,builtin,hs,T,aQ,Goes]using O
        grind
       grind
      grind
     grind
    grind
   grind
  .split at h
   .rename_i ha hT;have Y:args= #[_,_]:=Array.toList_inj.1 (by omega);subst Y;split at h
    .rename_i ht;obtain⟨z,h,aG,_,d⟩:=Fl h;split at h
     .rename_i hd;split at h
      .rename_i T;have aC:=congrArg (λl:List TypeId=>l[0]?) hT;simp only[Array.getElem?_toList,List.getElem?_cons_zero]at aC;obtain⟨vs,aP,h⟩:=h;have hf:=λlen cap=>Ho (P:=P) (w:=w) (len:=len) (cap:=cap) aP;split at h
       .rename_i hb;simp only at hb;subst hb;simp only at hf;simpa[execOp,resolve,invoke,builtin,Builtin.copy_,aC,hd,T,Ae ht,d,Builtin.lenOf,hf,goInt,Goes]using h
       .rename_i a hb;simp only at hb;subst hb;simp only at hf;obtain⟨w',O,aI⟩:=JX (P:=P) h;simpa[execOp,resolve,invoke,builtin,Builtin.copy_,aC,hd,T,Ae ht,d,Builtin.lenOf,hf,aI,goInt,Goes]using O
      grind
     grind
    grind
   grind
  .split at h
   .rename_i ha hT;have Y:args= #[_,_]:=Array.toList_inj.1 (by omega);subst Y;split at h
    .rename_i ht;split at h
     .rename_i hk;split at h
      .rename_i hkey;obtain⟨rfl,J⟩:=Fk h;split at J
       .rename_i hm;have aC:=congrArg (λl:List TypeId=>l[0]?) hT;simp only[Array.getElem?_toList,List.getElem?_cons_zero]at aC;obtain⟨w',O,d⟩:=aL (ty:=type) aC ht hk J;simpa[execOp,resolve,invoke,builtin,hkey,hm,d,Goes]using O
       grind
      grind
     grind
    grind
   grind
  .split at h
   .rename_i ha hT;have Y:args= #[_]:=Array.toList_inj.1 (by omega);have aH:argTypes= #[_]:=Array.toList_inj.1 (by omega);subst Y;subst aH;split at h
    .rename_i ht;split at h
     .rename_i zv hz;split at h
      .rename_i b n c T;unfold CLR at h;split at h
       .simpa[execOp,resolve,invoke,builtin,Builtin.clear_,Ae ht,T,Goes]using h
       .rename_i a;cases n with
        | zero=>
         have:(Builtin.zeroCells zv.cells 0).toList=[]:=by simp[Builtin.zeroCells]
         rw[this]at h;simpa[execOp,resolve,invoke,builtin,Builtin.clear_,Ae ht,T,Goes,stCells]using h
        | succ n=>
         obtain⟨w',O,d⟩:=JX (P:=P) h;simpa[execOp,resolve,invoke,builtin,Builtin.clear_,Ae ht,T,Fg hz,d,Goes]using O
      grind
     grind
    grind
   grind
  .split at h
   .rename_i ha;have Y:args= #[_]:=Array.toList_inj.1 (by omega);subst Y;obtain⟨⟨t,v,T⟩,h⟩:=YJ h;rw[T]at h;simpa[execOp,resolve,invoke,builtin,Instr.panic,goPanic,T,Goes]using h
   grind
  grind
 case h_15=>
  obtain⟨⟨t,v,T⟩,h⟩:=YJ h;rw[T]at h;simpa[execOp,Instr.panic,goPanic,T,Goes]using h
 grind
inductive OpK where|pure|read|eff
def isEqP:BinOp->Bool
 | .eql| .neq=>true
 | _=>false
def opK(P:Program):Op->OpK
 | .load .. | .lookup .. | .entry _=>.read
 | .range .. | .next .. | .alloc _| .box .. | .buildSlice .. | .store .. | .makeMap .. | .makeSlice .. | .mapUpdate .. | .insert .. | .mapEntry .. | .entryStore .. | .panic _=>.eff
 | .call c=>match c.callee with
  | .builtin .len=>match(c.argTypes.toList.head?).bind P.underlying with
   | some (.map _ _)=>.read
   | _=>.pure
  | .builtin .min| .builtin .max=>.pure
  | _=>.eff
 | .binOp op t _ y _=>match isArith op with
  | true=>match P.underlying t with
   | some (.float _)=>.eff
   | _=>.pure
  | false=>match y with
   | .tmp _=>match isEqP op with
    | true=>match P.underlying t with
     | some (.pointer _)=>.read
     | _=>.pure
    | false=>.pure
   | _=>.pure
 | _=>.pure
def isEff(P:Program)(o:Op):Bool:=match opK P o with| .eff=>true|_=>false
def mI(P:Program)(C G:Ef)(o:Op)(ty:TypeId)(ρ:Operand->Value)(w:World)(K Kp:Value->World->Prop):Prop:=
 match opK P o with
 | .pure=>evPure P o ty ρ λv=>K v w
 | .read=>evRead P o ρ w λv _=>K v w
 | .eff=>evEff P C G o ty ρ w K Kp
def Pe{P:Program}{C G:Ef}(hC:Fits P C)(e:Fits P G){o:Oper}{ρ:Operand->Value}{w:World}{K Kp:Value->World->Prop}(m: ∀g,ρ (.func g)= .func (.func g) #[] #[])(h:mI P C G o.op o.type ρ w K Kp):
  Goes P ((execOp ρ o).run P w) K Kp:=by
 unfold mI at h;split at h
 .obtain⟨v,a,d⟩:=QM h;rw[d w];exact a
 .obtain⟨v,S,a,hS,d⟩:=QP h;rw[d w hS];exact a
 .exact YM hC e m h
def Pf{P:Program}{o:Oper}{a:Act}{w:World}{K Kp:Value->World->Prop}{Q:Exit->Act->World->Prop}
  {next:Act->World->Prop}(h:Goes P ((execOp a.eval o).run P w) K Kp)(d: ∀v w',K v w'->next (a.put o.dst v) w')
  (hp: ∀v w',Kp v w'->Q (.panic [{v:=v,recovered:=false}]) a w'):o.wp P a w next Q:=by
 unfold Oper.wp;unfold Goes at h;split at h
 .rename_i hr;rw[hr,Oper.upon_value];exact d _ _ h
 .rename_i hr;rw[hr,Oper.upon_skip];exact d _ _ h
 .rename_i hr;rw[hr,Oper.upon_enter];refine h.mono ?_;rintro e w' (⟨v,rfl,m⟩|⟨v,rfl,m⟩)
  .exact d _ _ m
  .exact hp _ _ m
 .rename_i hr;rw[hr,Oper.upon_panic];exact hp _ _ h
 .exact h.elim
def yieldF(ops:Array Oper)(f:Fr)(j:Nat):Option Bool:=match(ops[j]?).bind (·.dst)with
 | some t=>match f t with
  | .bool b=>some b
  | _=>none
 | none=>none
def wantF(ops:Array Oper)(f:Fr):Option (Nat×Bool)->Bool
 | none=>true
 | some (j,want)=>match yieldF ops f j with
  | some b=>match b,want with
   | true,true=>true
   | false,false=>true
   | _,_=>false
  | none=>false
def Tm{ops:Array Oper}{a:Act}{o:Oper}:wantF ops (Dm a) o.guard=Region.wanted o (yielded ops a.tmps):=by
 have d: ∀j,yieldF ops (Dm a) j=yielded ops a.tmps j:=by
  intro j;unfold yieldF yielded;cases (ops[j]?).bind (·.dst)with
  | none=>rfl
  | some t=>
   simp only[Dm,Option.bind_some,Array.getD_eq_getD_getElem?];cases h:a.tmps[t]? with
   | none=>simp[undef]
   | some v=>grind
 unfold wantF Region.wanted;cases o.guard with
 | none=>rfl
 | some g=>
  obtain⟨j,want⟩:=g;simp only[d];cases yielded ops a.tmps j with
  | none=>rfl
  | some b=>cases b<;>cases want<;>rfl
def Mm:List Oper->Nat->Bool
 | [],_=>false
 | o::r,i=>match o.guard with
  | some (j,_)=>bif Nat.beq j i then true else Mm r i
  | none=>Mm r i
def Tn(b:Bool)(v:Value)(K:Value->Prop):Prop:=
 match b with
 | true=>match v with
  | .bool x=>CND x (K (.bool true)) (K (.bool false))
  | v=>K v
 | false=>K v
def Mn{b:Bool}{v:Value}{K:Value->Prop}(h:Tn b v K):K v:=by
 unfold Tn at h;split at h
 .split at h
  .rename_i x;cases x<;>exact h
  .exact h
 .exact h
def evOps(P:Program)(C G:Ef)(ops:Array Oper)(Q:Fr->World->Prop)(a:Fr->Value->World->Prop):Nat->List Oper->Fr->World->Prop
 | _,[],f,w=>Q f w
 | i,o::r,f,w=>match wantF ops f o.guard with
  | true=>mI P C G o.op o.type f.ev w (λv w'=>Tn (Mm ops.toList i) v λv=>evOps P C G ops Q a (i+1) r (f.PZ o.dst v) w') (a f)
  | false=>evOps P C G ops Q a (i+1) r (f.PZ o.dst undef) w
def dsts:List Oper->List Nat
 | []=>[]
 | o::r=>match o.dst with
  | some d=>d::dsts r
  | none=>dsts r
structure Gg(W:List Nat)(a a':Act):Prop where
 size:a'.tmps.size=a.tmps.size
 defers:a'.defers=a.defers
 out: ∀t,t∉W->Dm a' t=Dm a t
def Gg.refl(W:List Nat)(a:Act):Gg W a a:=⟨rfl,rfl,λ_ _=>rfl⟩
def Gg.trans{W:List Nat}{a b c:Act}(h:Gg W a b)(k:Gg W b c):Gg W a c:=
 ⟨k.size.trans h.size,k.defers.trans h.defers,λt d=>(k.out t d).trans (h.out t d)⟩
def Gg.mono{W V:List Nat}{a b:Act}(h:Gg W a b)(d: ∀t,t∈W->t∈V):Gg V a b:=
 ⟨h.size,h.defers,λt e=>h.out t λhw=>e (d t hw)⟩
def Gg.put{W:List Nat}{a:Act}{d:Option Nat}{v:Value}(u: ∀t,d=some t->t∈W):Gg W a (a.put d v):=by
 refine⟨It a d v,Pa a d v,λt J=> ?_⟩;cases d with
 | none=>rfl
 | some d=>
  have m:d≠t:=λe=>J (e▸u d rfl);simp only[Dm,Act.put,Array.getD_eq_getD_getElem?,Array.getElem?_setIfInBounds_ne m]
def within(n:Nat)(W:List Nat):Prop:= ∀t,t∈W->t<n
def Nj{P:Program}{C G:Ef}(hC:Fits P C)(O:Fits P G){ops:Array Oper}{n:Nat}{W:List Nat}(hW:within n W)(Q:Fr->World->Prop)(u:Fr->Value->World->Prop)(J:Exit->Act->World->Prop)(a0:Act)
  (hQ: ∀a w,a.tmps.size=n->Gg W a0 a->Q (Dm a) w->J .normal a w)
  (Y: ∀a v w,a.tmps.size=n->Gg W a0 a->u (Dm a) v w->J (.panic [{v:=v,recovered:=false}]) a w):
  ∀(l:List Oper) (i:Nat) (a:Act) (w:World),(∀o∈l,∀d,o.dst=some d->d∈W)->a.tmps.size=n->Gg W a0 a->evOps P C G ops Q u i l (Dm a) w->wpList P ops J l a w
 | [],i,a,w,_,hn,ha,h=>hQ a w hn ha h
 | o::r,i,a,w,hd,hn,ha,h=>by
  simp only[evOps]at h;unfold wpList;rw[Tm]at h;have m: ∀t,o.dst=some t->t∈W:=λt ht=>hd o (by simp) t ht;have e: ∀v,Dm (a.put o.dst v)=(Dm a).PZ o.dst v:=λv=>Ri (λt ht=>by have:=hW t (m t ht);omega) v;split at h
  .rename_i hw;rw[if_pos hw];refine .inl (Pf (K:=λv w'=>Tn (Mm ops.toList i) v λv=>evOps P C G ops Q u (i+1) r ((Dm a).PZ o.dst v) w') (Kp:=u (Dm a)) ?_ (λv w' T=> ?_) λv w' T=>Y a v w' hn ha T)
   .have:=Pe hC O (λ_=>rfl) (o:=o) h;rwa[JB]at this
   .refine Nj hC O hW Q u J a0 hQ Y r (i+1) _ w' (λo ho=>hd o (by simp[ho])) (by rw[It];exact hn) (ha.trans (Gg.put m)) ?_;rw[e];exact Mn T
  .rename_i hw;rw[if_neg (by simp[hw])];refine Nj hC O hW Q u J a0 hQ Y r (i+1) _ w (λo ho=>hd o (by simp[ho])) (by rw[It];exact hn) (ha.trans (Gg.put m)) ?_;rw[e];exact h
abbrev Fam:=List (Nat×(World->Prop))
def waits:List Edge->Nat->Bool
 | [],_=>false
 | e::r,k=>match Region.binds .any e with
  | true=>bif Nat.beq e.on k then true else waits r k
  | false=>waits r k
def YN{l:List Edge}{k:Nat}(h: ∀e∈l,Region.binds .any e=true->e.on≠k):waits l k=false:=by
 induction l with
 | nil=>rfl
 | cons e r ih=>
  have d:=ih λe he=>h e (by simp[he]);unfold waits;split
  .rename_i hb;have a:=h e (by simp) hb;have:Nat.beq e.on k=false:=by
    cases hh:Nat.beq e.on k
    .rfl
    .exact absurd (Nat.eq_of_beq_eq_true hh) a
   grind
  omega
def keepFam{α:Type}(after:List Edge):List (Nat×α)->List (Nat×α)
 | []=>[]
 | p::r=>match waits after p.1 with
  | true=>keepFam after r
  | false=>p::keepFam after r
def JN{α:Type}(after:List Edge): ∀(l:List (Nat×α)) p,p∈keepFam after l->p∈l
 | [],p,h=>by simp[keepFam]at h
 | q::r,p,h=>by
  unfold keepFam at h;split at h
  .exact List.mem_cons_of_mem _ (JN after r p h)
  .rcases List.mem_cons.1 h with rfl|h
   .simp
   .exact List.mem_cons_of_mem _ (JN after r p h)
def QR{α:Type}(after:List Edge): ∀(l m:List (Nat×α)),(∀p∈l,p∈m)-> ∀p∈keepFam after l,p∈keepFam after m:=by
 have key: ∀(m:List (Nat×α)) p,p∈m->waits after p.1=false->p∈keepFam after m:=by
  intro m
  induction m with
  | nil=>grind
  | cons q r ih=>
   intro p h hw;unfold keepFam;rcases List.mem_cons.1 h with rfl|h
   .simp[hw]
   .split
    .exact ih p h hw
    .exact List.mem_cons_of_mem _ (ih p h hw)
 have a: ∀(l:List (Nat×α)) p,p∈keepFam after l->waits after p.1=false:=by
  intro l
  induction l with
  | nil=>intro p h;simp[keepFam]at h
  | cons q r ih=>
   intro p h;unfold keepFam at h
   grind
 intro l m d p hp;exact key m p (d p (JN after l p hp)) (a l p hp)
def afterOf(ops:Array Oper)(j:Nat):List Edge:=match ops[j]? with|some o=>o.after.toList|none=>[]
def gather(f:Edge->List Edge):List Edge->List Edge
 | []=>[]
 | e::r=>match Region.binds .any e with
  | true=>f e++gather f r
  | false=>gather f r
def afterAll(ops:Array Oper):Nat->List Edge->List Edge
 | 0,l=>l
 | n+1,l=>l++gather (λe=>afterAll ops n (afterOf ops e.on)) l
def Vr:List Oper->Bool
 | []=>false
 | o::r=>match o.op with
  | .lookup .. =>true
  | _=>Vr r
def yP(ops:Array Oper)(o:Op):Bool:=match o with
 | .call c=>match c.callee with
  | .value (.tmp _)=>Vr ops.toList
  | _=>false
 | _=>false
def KJ(ops:Array Oper)(o:Oper):List Edge:=match yP ops o.op with
 | true=>afterAll ops 8 o.after.toList
 | false=>o.after.toList
def I7(ops:Array Oper)(j:Nat):List Edge:=match ops[j]? with|some o=>KJ ops o|none=>[]
def ME(ops:Array Oper)(listed:Array Bool):Prop:= ∀(k:Nat) o,ops[k]? =some o->listed.getD k true=true-> ∀e∈o.after,Region.binds .any e=true->listed.getD e.on false=true
def Pg{f:Edge->List Edge}: ∀{l:List Edge} {e:Edge},e∈gather f l-> ∃d∈l,Region.binds .any d=true/\e∈f d
 | [],e,h=>by cases h
 | d::r,e,h=>by
  unfold gather at h;split at h
  .rename_i hb;rcases List.mem_append.1 h with h|h
   .exact⟨d,by simp,hb,h⟩
   .obtain⟨a,h1,m⟩:=Pg h;exact⟨a,by simp[h1],m⟩
  .obtain⟨a,h1,m⟩:=Pg h;exact⟨a,by simp[h1],m⟩
def ME.all{ops:Array Oper}{listed:Array Bool}(v:ME ops listed): ∀(n:Nat) {l:List Edge},(∀e∈l,Region.binds .any e=true->listed.getD e.on false=true)->
  ∀e∈afterAll ops n l,Region.binds .any e=true->listed.getD e.on false=true
 | 0,l,h,e,he,hb=>h e he hb
 | n+1,l,h,e,he,hb=>by
  unfold afterAll at he;rcases List.mem_append.1 he with he|he
  .exact h e he hb
  .obtain⟨d,hd,u,he⟩:=Pg he;refine v.all n (λJ a m=> ?_) e he hb;have K:=h d hd u;unfold afterOf at a;split at a
   .rename_i o ho;exact v d.on o ho (by grind) J (by simpa using a) m
   .cases a
def ME.ahead{ops:Array Oper}{listed:Array Bool}(m:ME ops listed){j:Nat}{d:Oper}(u:ops[j]? =some d)(a: ∀e∈d.after,Region.binds .any e=true->listed.getD e.on false=true):
  ∀e∈I7 ops j,Region.binds .any e=true->listed.getD e.on false=true:=by
 unfold I7;rw[u];show ∀e∈KJ ops d,_;unfold KJ;split
 .exact m.all 8 λe he=>a e (by simpa using he)
 .exact λe he=>a e (by simpa using he)
def ME.set{ops:Array Oper}{listed:Array Bool}(O:ME ops listed){j:Nat}(T:j∈Region.ready .any ops listed):ME ops (listed.setIfInBounds j true):=by
 obtain⟨J,Y,u,a⟩:=mem_ready.1 T;have up: ∀m,listed.getD m false=true->(listed.setIfInBounds j true).getD m false=true:=λm hm=>by
  rw[Array.getD_eq_getD_getElem?]at hm⊢;rw[Array.getElem?_setIfInBounds];split
  .split
   .rfl
   .rename_i e1 e2;rw[Array.getElem?_eq_none (by omega)]at hm;cases hm
  .exact hm
 intro k o d K e he v;by_cases hjk:j=k
 .subst hjk;rw[u]at d;cases d;exact up _ (a e he v)
 .rw[getD_set_ne true hjk]at K;exact up _ (O k o d K e he v)
def Kl(P:Program)(ops:Array Oper)(Q:Exit->Act->World->Prop):Nat->Fam->Array Bool->Act->World->Prop
 | 0,_,listed,a,w=>Region.ready .any ops listed=[]/\Q .normal a w
 | fuel+1,fam,listed,a,w=>
  (Region.ready .any ops listed=[]->Q .normal a w)/\
  ∀j∈Region.ready .any ops listed,wpOp P ops Q j (λd w'=>(∀p∈keepFam (I7 ops j) fam,p.2 w')/\
   Kl P ops Q fuel (keepFam (I7 ops j) fam) (listed.setIfInBounds j true) d w') a w
section
variable{P:Program}{ops:Array Oper}{Q:Exit->Act->World->Prop}
def To: ∀(fuel:Nat) (d:Fam) (listed:Array Bool) (a:Act) (w:World),Kl P ops Q fuel d listed a w->wpAny P .any ops Q fuel listed a w
 | 0,_,_,_,_,h=>h
 | fuel+1,_,_,_,_,h=>⟨h.1,λi hi=>wpOp_mono (λe w' m=>To fuel _ _ e w' m.2) (h.2 i hi)⟩
def SJ: ∀(fuel:Nat) (e d:Fam) (listed:Array Bool) (a:Act) (w:World),(∀p∈d,p∈e)->Kl P ops Q fuel e listed a w->Kl P ops Q fuel d listed a w
 | 0,_,_,_,_,_,_,h=>h
 | fuel+1,e,d,_,_,_,hs,h=>⟨h.1,λj u=>wpOp_mono (λv w' m=>
   ⟨λp hp=>m.1 p (QR _ _ _ hs p hp),SJ fuel _ _ _ _ _ (QR _ _ _ hs) m.2⟩) (h.2 j u)⟩
def Nk(i:Nat): ∀(fuel:Nat) (d:Fam) (listed:Array Bool) (a:Act) (w:World),Kl P ops Q fuel d listed a w->Kl P ops Q fuel ((i,λ_=>True)::d) listed a w
 | 0,_,_,_,_,h=>h
 | fuel+1,d,listed,a,w,h=>by
  refine⟨h.1,λj m=>wpOp_mono (λu w' e=> ?_) (h.2 j m)⟩;unfold keepFam;split
  .exact e
  .refine⟨λp hp=> ?_,Nk i fuel _ _ _ _ e.2⟩;rcases List.mem_cons.1 hp with rfl|hp
   .trivial
   .exact e.1 p hp
def Nl{i:Nat}{oi:Oper}{v:Value}{S:World->Prop}(hi:ops[i]? =some oi)(aA: ∀(j:Nat) (o:Oper) cs b,ops[j]? =some o->o.op≠ .select cs b)
  (hQ: ∀c a w,¬Q (.panic c) a w):
  ∀(fuel:Nat) (d:Fam) (listed:Array Bool) (a:Act) (w:World),
   (∀j oj,ops[j]? =some oj->j≠i->listed.getD j true=false->(∀e∈oj.after,Region.binds .any e=true->e.on≠i)->oi.apart ops oj=true)->
   ME ops listed->i∈Region.ready .any ops listed->YieldsIf P ops S oi v a->S w->(∀p∈d,p.2 w)->
   Kl P ops Q fuel ((i,S)::d) (listed.setIfInBounds i true) (a.put oi.dst v) w->Kl P ops Q (fuel+1) d listed a w:=by
 have own: ∀(fuel:Nat) (d:Fam) (listed:Array Bool) (a:Act) (w:World),YieldsIf P ops S oi v a->S w->(∀p∈d,p.2 w)->
   Kl P ops Q fuel ((i,S)::d) (listed.setIfInBounds i true) (a.put oi.dst v) w->
   wpOp P ops Q i (λa' w'=>(∀p∈keepFam (I7 ops i) d,p.2 w')/\Kl P ops Q fuel (keepFam (I7 ops i) d) (listed.setIfInBounds i true) a' w') a w:=by
  intro fuel d listed a w hy hS m H;refine hy.wpOp hi hS ⟨λp hp=>m p (JN _ _ _ hp),SJ _ _ _ _ _ _ (λp hp=>List.mem_cons_of_mem _ (JN _ _ _ hp)) H⟩
 intro fuel
 induction fuel with
 | zero=>
  intro d listed a w _ aB Y hy hS m H;refine⟨λh=>(by rw[h]at Y;cases Y),λj hj=> ?_⟩;by_cases hji:j=i
  .subst hji;exact own 0 d listed a w hy hS m H
  .have:=ready_mono hj hji;rw[H.1]at this;cases this
 | succ fuel ih=>
  intro d listed a w J aB Y hy hS m H;refine⟨λh=>(by rw[h]at Y;cases Y),λj hj=> ?_⟩;by_cases hji:j=i
  .subst hji;exact own _ d listed a w hy hS m H
  .have h1:=H.2 j (ready_mono hj hji);obtain⟨aH,oj,O,T⟩:=mem_ready.1 hj;have aI: ∀e∈oj.after,Region.binds .any e=true->e.on≠i:=λe he hb heq=>by
    have h1:=T e he hb;have h0:=(mem_ready.1 Y).1
    grind
   have aC:keepFam (I7 ops j) ((i,S)::d)=(i,S)::keepFam (I7 ops j) d:=by
    have aP:waits (I7 ops j) i=false:=YN λe he hb heq=>by
     have h1:=aB.ahead O T e he hb;have h0:=(mem_ready.1 Y).1
     grind
    simp[keepFam,aP]
   rw[aC]at h1;have h2:=wpOp_putIf O (J j oj O hji aH aI) (λcs b=>aA i oi cs b hi) (λcs b=>aA j oj cs b O) (λc a w h=>(hQ _ _ _ h).elim) hy h1;have K: ∀k ok,ops[k]? =some ok->k≠i->(listed.setIfInBounds j true).getD k true=false->
     (∀e∈ok.after,Region.binds .any e=true->e.on≠i)->oi.apart ops ok=true:=λk ok hk aN aJ aO=>by
    refine J k ok hk aN ?_ aO;by_cases hjk:j=k
    .grind
    .rw[getD_set_ne true hjk]at aJ;exact aJ
   refine wpOp_mono (λa' w' h3=> ?_) h2;obtain⟨aQ,aF,h4⟩:=h3;have aL:S w':=aF (i,S) (by simp);have u: ∀p∈keepFam (I7 ops j) d,p.2 w':=λp hp=>aF p (by simp[hp]);refine⟨u,ih _ (listed.setIfInBounds j true) a' w' K (aB.set hj) (ready_mono Y (Ne.symm hji)) aQ aL u ?_⟩;rw[Array.setIfInBounds_comm _ _ hji];exact h4
end
def pickEarly(P:Program)(ops:Array Oper)(listed:Array Bool):List Nat->Option Nat
 | []=>none
 | i::r=>match ops[i]? with
  | some o=>match isEff P o.op with
   | true=>pickEarly P ops listed r
   | false=>match Region.free .any ops listed i with
    | true=>some i
    | false=>pickEarly P ops listed r
  | none=>pickEarly P ops listed r
def KK{P:Program}{ops:Array Oper}{listed:Array Bool}: ∀{l:List Nat} {i:Nat},pickEarly P ops listed l=some i->i∈l/\Region.free .any ops listed i=true
 | [],i,h=>by simp[pickEarly]at h
 | k::r,i,h=>by
  unfold pickEarly at h;split at h
  .split at h
   .obtain⟨h1,a⟩:=KK h;grind
   .split at h
    .grind
    .obtain⟨h1,a⟩:=KK h;grind
  .obtain⟨h1,a⟩:=KK h;grind
def Wf:List (Nat×HI)->World->Prop->Prop
 | [],_,X=>X
 | p::r,w,X=>p.2 w/\Wf r w X
def QS: ∀{l:List (Nat×HI)} {w:World} {X:Prop},Wf l w X->(∀p∈l,p.2 w)/\X
 | [],_,_,h=>⟨by simp,h⟩
 | p::r,w,X,h=>by
  obtain⟨h1,d⟩:=h;obtain⟨e,m⟩:=QS d;exact⟨λq a=>by rcases List.mem_cons.1 a with rfl|a;exact h1;exact e q a,m⟩
def mJ:List Nat->(Nat->Prop)->Prop
 | [],_=>True
 | [j],K=>K j
 | j::r,K=>K j/\mJ r K
def Tp: ∀{l:List Nat} {K:Nat->Prop},mJ l K-> ∀j∈l,K j
 | [],_,_,_,h=>by cases h
 | [j],K,h,k,a=>by simp at a;subst a;exact h
 | j::i::r,K,h,k,a=>by
  rcases List.mem_cons.1 a with rfl|a
  .exact h.1
  .exact Tp h.2 k a
def evDraw(P:Program)(C G:Ef)(ops:Array Oper)(Q:Fr->World->Prop):Nat->List (Nat×HI)->Array Bool->Fr->World->Prop
 | 0,_,listed,f,w=>match Region.ready .any ops listed with
  | []=>Q f w
  | _::_=>False
 | fuel+1,pend,listed,f,w=>match Region.ready .any ops listed with
  | []=>Q f w
  | j::rs=>match pickEarly P ops listed (j::rs)with
   | some i=>match ops[i]? with
    | some o=>match wantF ops f o.guard with
     | true=>match opK P o.op with
      | .pure=>evPure P o.op o.type f.ev λv=>Tn (Mm ops.toList i) v λv=>evDraw P C G ops Q fuel pend (listed.setIfInBounds i true) (f.PZ o.dst v) w
      | .read=>evRead P o.op f.ev w λv S=>Tn (Mm ops.toList i) v λv=>evDraw P C G ops Q fuel ((i,S)::pend) (listed.setIfInBounds i true) (f.PZ o.dst v) w
      | .eff=>False
     | false=>evDraw P C G ops Q fuel pend (listed.setIfInBounds i true) (f.PZ o.dst undef) w
    | none=>False
   | none=>mJ (j::rs) λi=>match ops[i]? with
    | some o=>match wantF ops f o.guard with
     | true=>mI P C G o.op o.type f.ev w (λv w'=>Wf (keepFam (KJ ops o) pend) w' (Tn (Mm ops.toList i) v λv=>
       evDraw P C G ops Q fuel (keepFam (KJ ops o) pend) (listed.setIfInBounds i true) (f.PZ o.dst v) w')) EW
     | false=>evDraw P C G ops Q fuel (keepFam (KJ ops o) pend) (listed.setIfInBounds i true) (f.PZ o.dst undef) w
    | none=>False
def Wg{P:Program}{C G:Ef}(hC:Fits P C)(hG:Fits P G){ops:Array Oper}{n:Nat}{W:List Nat}(hW:within n W)(hd: ∀(i:Nat) o,ops[i]? =some o-> ∀d,o.dst=some d->d∈W)
  (aB:Region.noSelect ops=true)(Q:Fr->World->Prop)(QQ:Exit->Act->World->Prop)(hP: ∀c a w,¬QQ (.panic c) a w)(a0:Act)
  (hQ: ∀a w,a.tmps.size=n->Gg W a0 a->Q (Dm a) w->QQ .normal a w):
  ∀(fuel:Nat) (e:List (Nat×HI)) (listed:Array Bool) (a:Act) (w:World),ME ops listed->a.tmps.size=n->Gg W a0 a->(∀p∈e,p.2 w)->
   evDraw P C G ops Q fuel e listed (Dm a) w->Kl P ops QQ fuel e listed a w:=by
 have K: ∀(a:Act) (i:Nat) (o:Oper) v,a.tmps.size=n->ops[i]? =some o->Dm (a.put o.dst v)=(Dm a).PZ o.dst v:=
  λa i o v T ho=>Ri (λt ht=>by have:=hW t (hd i o ho t ht);omega) v
 intro fuel
 induction fuel with
 | zero=>
  intro e listed a w J T ha _ h;unfold evDraw at h;split at h
  .rename_i hr;exact⟨hr,hQ a w T ha h⟩
  .exact h.elim
 | succ fuel ih=>
  intro e listed a w J T ha u h;unfold evDraw at h;split at h
  .rename_i hr;exact⟨λ_=>hQ a w T ha h,λj hj=>by rw[hr]at hj;cases hj⟩
  .rename_i j rs hr;split at h
   .rename_i i hpick;obtain⟨aJ,O⟩:=KK hpick;split at h
    .rename_i o ho;have m:i∈Region.ready .any ops listed:=by rw[hr];exact aJ
     rw[Tm]at h;split at h
     .rename_i hw;split at h
      .obtain⟨v,hK,aA⟩:=QM h;have Y:=Mn hK;rw[<-K a i o v T ho]at Y;refine Nl (oi:=o) (v:=v) (S:=λ_=>True) ho (Region.noSelect_spec aB) hP fuel e listed a w (Region.free_spec ho O) J m (.inl ⟨hw,λw' _=> ?_⟩) trivial u ?_
       .have:=aA w';rwa[JB]at this
       .exact Nk _ _ _ _ _ _ (ih _ _ _ w (J.set m) (by rw[It];exact T) (ha.trans (Gg.put (hd i o ho))) u Y)
      .obtain⟨v,S,hK,hS,aA⟩:=QP h;have Y:=Mn hK;rw[<-K a i o v T ho]at Y;refine Nl (oi:=o) (v:=v) (S:=S) ho (Region.noSelect_spec aB) hP fuel e listed a w (Region.free_spec ho O) J m (.inl ⟨hw,λw' aI=> ?_⟩) hS u ?_
       .have:=aA w' aI;rwa[JB]at this
       .refine ih ((i,S)::e) _ _ w (J.set m) (by rw[It];exact T) (ha.trans (Gg.put (hd i o ho))) ?_ Y
        grind
      grind
     .rename_i hw;rw[<-K a i o undef T ho]at h;have h1:=ih e _ _ w (J.set m) (by rw[It];exact T) (ha.trans (Gg.put (hd i o ho))) u h;refine Nl (oi:=o) (v:=undef) (S:=λ_=>True) ho (Region.noSelect_spec aB) hP fuel e listed a w (Region.free_spec ho O) J m (.inr ⟨by omega,rfl⟩) trivial u ?_;exact Nk _ _ _ _ _ _ h1
    .exact h.elim
   .refine⟨λh0=>(by rw[hr]at h0;cases h0),λi hi=> ?_⟩;rw[hr]at hi;have h1:=Tp h i hi;split at h1
    .rename_i o ho;have aM:I7 ops i=KJ ops o:=by simp[I7,ho]
     have aG:ME ops (listed.setIfInBounds i true):=J.set (by rw[hr];exact hi);suffices hgoal:wpOp P ops QQ i (λa' w'=>(∀p∈keepFam (KJ ops o) e,p.2 w')/\
       Kl P ops QQ fuel (keepFam (KJ ops o) e) (listed.setIfInBounds i true) a' w') a w by grind
     unfold wpOp;rw[ho];show(if _ then _ else _);rw[Tm]at h1;split at h1
     .rename_i hw;rw[if_pos hw];have hg:=Pe hC hG (λ_=>rfl) (o:=o) h1;rw[JB]at hg;refine .inl (Pf hg (λv w' hK=> ?_) λ_ _ f=>f.elim);obtain⟨hk,h2⟩:=QS hK;have h3:=Mn h2;rw[<-K a i o v T ho]at h3;exact⟨hk,ih _ _ _ w' aG (by rw[It];exact T) (ha.trans (Gg.put (hd i o ho))) hk h3⟩
     .rename_i hw;rw[if_neg (by simp[hw])];rw[<-K a i o undef T ho]at h1;have hk: ∀p∈keepFam (KJ ops o) e,p.2 w:=λp hp=>u p (JN _ _ _ hp);exact⟨hk,ih _ _ _ w aG (by rw[It];exact T) (ha.trans (Gg.put (hd i o ho))) hk h1⟩
    grind
structure QI where
  loops:List (Nat×sK)
  MQ:List (Nat×sK)
def look{α:Type}:List (Nat×α)->Nat->Option α
  | [],_=>none
  | (k,x)::r,n=>bif Nat.beq k n then some x else look r n
def orElse{α:Type}:Option α->Option α->Option α
  | some x,_=>some x
  | none,y=>y
def firstR:Code->Option Nat
  | .region id _ _=>some id
  | .seq a b=>orElse (firstR a) (firstR b)
  | .cond _ a b=>orElse (firstR a) (firstR b)
  | .block _ c=>firstR c
  | .loop c=>firstR c
  | .scope c=>firstR c
  | _=>none
def written:Code->List Nat
  | .region _ ops _=>dsts ops.toList
  | .seq a b=>written a++written b
  | .cond _ a b=>written a++written b
  | .block _ c=>written c
  | .loop c=>written c
  | .scope c=>written c
  | _=>[]
abbrev Post:=Exit->Fr->World->Prop
def Post.then(K:Fr->World->Prop)(Q:Post):Post:=λe f w=>match e with
  | .normal=>K f w
  | e=>Q e f w
def Post.inBlock(id:Nat)(Q:Post):Post:=λe f w=>match e with
  | .exit k=>match Nat.beq k id with
    | true=>Q .normal f w
    | false=>Q (.exit k) f w
  | e=>Q e f w
def Post.noGoto(Q:Post):Post:=λe f w=>match e with
  | .goto _=>False
  | e=>Q e f w
def BI(σ:Type)(s0:σ)(w0:World)(body:σ->(Nat->Value)->World->(σ->World->Prop)->Prop):Prop:=
  ∃(I:σ->World->Prop) (μ:σ->World->Nat),I s0 w0/\ ∀s j w,I s w->body s j w λs' w'=>I s' w'/\μ s' w'<μ s w
def Ao(σ:Type)(first:(σ->World->Prop)->Prop)(rest:σ->(Nat->Value)->World->Prop):Prop:=
  ∃J:σ->World->Prop,first J/\ ∀s j w,J s w->rest s j w
def ev(P:Program)(C G:Ef)(A:QI):Code->Post->Fr->World->Prop
  | .skip,Q,f,w=>Q .normal f w
  | .ret,Q,f,w=>Q .ret f w
  | .exit id,Q,f,w=>Q (.exit id) f w
  | .region _ ops d,Q,f,w=>match d with
    | false=>evOps P C G ops (Q .normal) (λf v w=>Q (.panic [{v:=v,recovered:=false}]) f w) 0 ops.toList f w
    | true=>match Region.noSelect ops with
      | true=>evDraw P C G ops (Q .normal) ops.size [] (Array.replicate ops.size false) f w.drew
      | false=>False
  | .seq x y,Q,f,w=>match(firstR y).bind (look A.MQ)with
    | none=>ev P C G A x (Post.then (ev P C G A y Q) Q) f w
    | some l=>Ao (St l) (λJ=>ev P C G A x (Post.then (λa w'=>Fr.get l a λs=>J s w') Q) f w)
        λs j w'=>ev P C G A y Q (Fr.set l s (f.YA (written x) j)) w'
  | .cond c x y,Q,f,w=>match f.ev c with
    | .bool b=>CND b (ev P C G A x Q f w) (ev P C G A y Q f w)
    | _=>False
  | .block id c,Q,f,w=>ev P C G A c (Post.inBlock id Q) f w
  | .scope c,Q,f,w=>ev P C G A c (Post.noGoto Q) f w
  | .label _,Q,f,w=>Q .normal f w
  | .loop c,Q,f,w=>match(firstR c).bind (look A.loops)with
    | none=>False
    | some l=>Fr.get l f λs=>BI (St l) s w λs j w' next=>
        ev P C G A c (Post.then (λa e=>Fr.get l a λs'=>next s' e) Q) (Fr.set l s (f.YA (written c) j)) w'
  | _,_,_,_=>False
def lift(n:Nat)(W:List Nat)(a0:Act)(Q:Post):Exit->Act->World->Prop
  | .outgrown,_,_=>False
  | e,a,w=>a.tmps.size=n/\Gg W a0 a/\Q e (Dm a) w
def calmQ(Q:Post):Post:=λe f w=>match e with
  | .panic _=>False
  | e=>Q e f w
def Og{n:Nat}{W V:List Nat}{a0:Act}{Q:Post}(h: ∀t,t∈W->t∈V)(e:Exit)(a:Act)(w:World)(d:lift n W a0 Q e a w):lift n V a0 Q e a w:=by
  cases e<;>simp only[lift]at d⊢ <;>first
    | exact d
    | exact⟨d.1,d.2.1.mono h,d.2.2⟩
def Tq: ∀{l:List Oper} {o:Oper} {d:Nat},o∈l->o.dst=some d->d∈dsts l
  | [],o,d,h,_=>by cases h
  | p::r,o,d,h,hd=>by
    unfold dsts;rcases List.mem_cons.1 h with rfl|h
    . rw[hd];simp
    . have:=Tq h hd
      grind
def FF{P:Program}{C G:Ef}(hC:Fits P C)(O:Fits P G)(hm:P.follows .mixedOrders=true){A:QI}{n:Nat}:
    ∀(c:Code),within n (written c)-> ∀(Q:Post) (a:Act) (w:World),a.tmps.size=n->ev P C G A c Q (Dm a) w->c.wp P (lift n (written c) a Q) a w
  | .skip,_,Q,a,w,hn,h=>wp_skip ⟨hn,.refl _ _,h⟩
  | .ret,_,Q,a,w,hn,h=>wp_ret ⟨hn,.refl _ _,h⟩
  | .exit id,_,Q,a,w,hn,h=>wp_exit ⟨hn,.refl _ _,h⟩
  | .region id ops d,hW,Q,a,w,hn,h=>by
    have hd: ∀(i:Nat) o,ops[i]? =some o-> ∀d,o.dst=some d->d∈dsts ops.toList:=λi o ho d hd=>
      Tq (Array.mem_toList_iff.2 (Array.mem_of_getElem? ho)) hd
    unfold ev at h;split at h
    . refine wp_region_list ?_;exact Nj hC O hW (Q .normal) (λf v w=>Q (.panic [{v:=v,recovered:=false}]) f w) _ a (λu w' Y ha hq=>⟨Y,ha,hq⟩) (λu v w' Y ha hq=>⟨Y,ha,hq⟩) ops.toList 0 a w (λo ho d hd=>Tq ho hd) hn (.refl _ _) h
    . split at h
      . rename_i hs;refine Code.wp_mono (Q:=lift n (dsts ops.toList) a (calmQ Q)) (λe u w' m=> ?_) (wp_region_any hm (To _ [] _ _ _ ?_))
        . cases e<;>simp only[lift,calmQ]at m⊢ <;>first
            | exact m
            | grind
        exact Wg hC O hW hd hs (Q .normal) (lift n (dsts ops.toList) a (calmQ Q)) (λc a w h=>h.2.2) a (λu w' Y ha hq=>⟨Y,ha,hq⟩) ops.size [] _ a _ (λk o hk m=>by
          have aJ:=(Array.getElem?_eq_some_iff.1 hk).1;rw[Array.getD_eq_getD_getElem?,Array.getElem?_replicate,if_pos aJ]at m;cases m) hn (.refl _ _) (by simp) h
      grind
  | .seq x y,hW,Q,a,w,hn,h=>by
    have aB:within n (written x):=λt ht=>hW t (by simp[written,ht]);have aC:within n (written y):=λt ht=>hW t (by simp[written,ht]);unfold ev at h;split at h
    . refine wp_seq (Code.wp_mono (λe u w' m=> ?_) (FF hC O hm x aB _ a w hn h));cases e<;>simp only[lift,Exit.then,Post.then]at m⊢ <;>first
        | exact m.elim
        | exact⟨m.1,m.2.1.mono (by simp[written];grind),m.2.2⟩
        | (refine Code.wp_mono (λe aG K aI=> ?_) (FF hC O hm y aC Q u w' m.1 m.2.2)
           have h1:=Og (V:=written (.seq x y)) (by simp[written];grind) e aG K aI;have h2:Gg (written (.seq x y)) a u:=m.2.1.mono (by simp[written];grind);cases e<;>simp only[lift]at h1⊢ <;>first
             | exact h1
             | exact⟨h1.1,h2.trans h1.2.1,h1.2.2⟩)
    . rename_i l hl0;obtain⟨J,h1,h2⟩:=h;refine wp_seq (Code.wp_mono (λe u w' m=> ?_) (FF hC O hm x aB _ a w hn h1));cases e<;>simp only[lift,Exit.then,Post.then]at m⊢ <;>first
        | exact m.elim
        | exact⟨m.1,m.2.1.mono (by simp[written];grind),m.2.2⟩
        | (obtain⟨s,hs,hJ⟩:=Nb m.2.2
           have h3:ev P C G A y Q (Fr.set l s ((Dm a).YA (written x) (Dm u))) w':=h2 s (Dm u) w' hJ;rw[Nc hs (λt ht=>m.2.1.out t ht)]at h3;refine Code.wp_mono (λe aG K aI=> ?_) (FF hC O hm y aC Q u w' m.1 h3);have h1:=Og (V:=written (.seq x y)) (by simp[written];grind) e aG K aI;have h2:Gg (written (.seq x y)) a u:=m.2.1.mono (by simp[written];grind);cases e<;>simp only[lift]at h1⊢ <;>first
             | exact h1
             | exact⟨h1.1,h2.trans h1.2.1,h1.2.2⟩)
  | .cond c x y,hW,Q,a,w,hn,h=>by
    have aB:within n (written x):=λt ht=>hW t (by simp[written,ht]);have aC:within n (written y):=λt ht=>hW t (by simp[written,ht]);unfold ev at h;split at h
    . rename_i b hb;rw[Of]at hb;cases b
      . refine wp_cond_false hb (Code.wp_mono (λe u w' m=> ?_) (FF hC O hm y aC _ a w hn h));exact Og (by simp[written];grind) e u w' m
      . refine wp_cond_true hb (Code.wp_mono (λe u w' m=> ?_) (FF hC O hm x aB _ a w hn h));exact Og (by simp[written];grind) e u w' m
    grind
  | .block id c,hW,Q,a,w,hn,h=>by
    refine wp_block (Code.wp_mono (λe u w' m=> ?_) (FF hC O hm c hW _ a w hn h));cases e<;>simp only[lift,Exit.inBlock,Post.inBlock]at m⊢ <;>first
      | exact m
      | skip
    rename_i k;obtain⟨h1,h2,h3⟩:=m;split at h3
    . rename_i e;have:=Nat.eq_of_beq_eq_true e;subst this;rw[if_pos rfl];exact⟨h1,h2,h3⟩
    . rename_i e;rw[if_neg (by intro e';subst e';simp at e)];exact⟨h1,h2,h3⟩
  | .loop c,hW,Q,a,w,hn,h=>by
    unfold ev at h;split at h
    . exact h.elim
    . rename_i l hl0;obtain⟨s0,aS,I,μ,h0,aD⟩:=Nb h;have key:(Code.loop c).wp P (lift n (written c) a Q) a w:=by
        refine wp_loop (λu w'=>u.tmps.size=n/\Gg (written c) a u/\ ∃s,PE l s (Dm u)/\I s w')
          (λu w'=> @dite Nat (∃s,PE l s (Dm u)/\I s w') (Classical.propDecidable _) (λh=>μ (Classical.choose h) w') (λ_=>0)) ⟨hn,.refl _ _,s0,aS,h0⟩ ?_
        intro a1 w1 hI;obtain⟨aQ,aH,s,hs,hi⟩:=hI;have hex: ∃s,PE l s (Dm a1)/\I s w1:=⟨s,hs,hi⟩;have hc:=Classical.choose_spec hex;have hr:ev P C G A c (Post.then (λf' K=>Fr.get l f' λs'=>I s' K/\μ s' K<μ (Classical.choose hex) w1) Q) (Fr.set l (Classical.choose hex) ((Dm a).YA (written c) (Dm a1))) w1:=aD (Classical.choose hex) (Dm a1) w1 hc.2;rw[Nc hc.1 (λt ht=>aH.out t ht)]at hr;refine Code.wp_mono (λe a2 w2 m=> ?_) (FF hC O hm c hW _ a1 w1 aQ hr);cases e<;>simp only[lift,Exit.then,Post.then]at m⊢ <;>first
          | exact m.elim
          | exact⟨m.1,aH.trans m.2.1,m.2.2⟩
          | skip
        obtain⟨aR,aO,h3⟩:=m;obtain⟨s',aN,aP,aJ⟩:=Nb h3;have T: ∃s,PE l s (Dm a2)/\I s w2:=⟨s',aN,aP⟩;refine⟨⟨aR,aH.trans aO,T⟩,?_⟩;rw[dif_pos T,dif_pos hex];rw[Vj (Classical.choose_spec T).1 aN];exact aJ
      exact key
  | .rangeFunc _ _ _ _,_,_,_,_,_,h=>by simp[ev]at h
  | .scope c,hW,Q,a,w,hn,h=>by
    refine wp_scope_straight (Code.wp_mono (λe u w' m=> ?_) (FF hC O hm c hW _ a w hn h));cases e<;>simp only[lift,Exit.noGoto,Post.noGoto]at m⊢ <;>first
      | exact m
      | grind
  | .label _,_,Q,a,w,hn,h=>wp_label ⟨hn,.refl _ _,h⟩
  | .goto _,_,_,_,_,_,h=>by simp[ev]at h
  | .refuse _,_,_,_,_,_,h=>by simp[ev]at h
def evRes(P:Program):List ResultVar->Fr->World->(List Value->Prop)->Prop
  | [],_,_,K=>K []
  | .tmp t::r,f,w,K=>evRes P r f w λl=>K (f t::l)
  | .cell a ty::r,f,w,K=>match f a with
    | .pointer p=>NC p λp=>aJ P ty p w λv _=>evRes P r f w λl=>K (v::l)
    | _=>False
def resV:List Value->Value
  | [v]=>v
  | l=>.tuple ⟨l⟩
def nthV:List Value->Nat->Value
  | [],_=>undef
  | v::_,0=>v
  | _::r,n+1=>nthV r n
def FZ(args:List Value):Fr:=λt=>nthV args t
def finQ(P:Program)(fn:Func)(K Kp:Value->World->Prop):Post:=λe f w=>match e with
  | .normal=>evRes P fn.results.toList f w λl=>K (resV l) w
  | .ret=>evRes P fn.results.toList f w λl=>K (resV l) w
  | .panic [⟨v,false,false⟩]=>Kp v w
  | _=>False
def withinB(n:Nat):List Nat->Bool
  | []=>true
  | t::r=>match Nat.ble (t+1) n with
    | true=>withinB n r
    | false=>false
def Ku{n:Nat}:{W:List Nat}->withinB n W=true->within n W
  | [],_=>by intro t a;cases a
  | t::r,h=>by
    unfold withinB at h;split at h
    . rename_i hle;intro u hu;rcases List.mem_cons.1 hu with rfl|hu
      . have:=Nat.le_of_ble_eq_true hle;omega
      . exact Ku h u hu
    . cases h
def Wh: ∀(l:List Value) (t:Nat),nthV l t=(l[t]?).getD undef
  | [],t=>by simp[nthV]
  | v::r,0=>by simp[nthV]
  | v::r,n+1=>by simp[nthV,Wh r n]
def resOne(tmps:Array Value):ResultVar->Sem Value
  | .tmp t=>pure (tmps.getD t undef)
  | .cell a t=>do loadVar t (<-asAddr (tmps.getD a undef))
def Ph{P:Program}{a:Act}{w:World}:{rs:List ResultVar}->{K:List Value->Prop}->evRes P rs (Dm a) w K->
    ∃l,K l/\(rs.mapM (resOne a.tmps)).run P w= .ok l w
  | [],K,h=>⟨[],h,by simp⟩
  | .tmp t::r,K,h=>by
    unfold evRes at h;obtain⟨l,d,m⟩:=Ph h;exact⟨_,d,by simp only[List.mapM_cons,Sem.run_bind,resOne,Sem.run_pure,Result.andThen_ok,m];rfl⟩
  | .cell p ty::r,K,h=>by
    unfold evRes at h;split at h
    . rename_i q hq;obtain⟨O,rfl,u⟩:=HF h;obtain⟨v,S,h1,hS,J⟩:=SH u;obtain⟨l,d,m⟩:=Ph h1;have e:a.tmps.getD p undef= .pointer (some O):=hq;exact⟨_,d,by simp only[List.mapM_cons,Sem.run_bind,resOne,e,asAddr,Sem.run_pure,Result.andThen_ok,J w hS,m]⟩
    grind
def KC{P:Program}{fn:Func}{a:Act}{w:World}{K:List Value->Prop}(h:evRes P fn.results.toList (Dm a) w K):
    ∃l,K l/\(results fn a.tmps).run P w= .ok (resV l) w:=by
  obtain⟨l,d,e⟩:=Ph h;refine⟨l,d,?_⟩;have he:results fn a.tmps=(do let vs <-fn.results.mapM (resOne a.tmps);pure (if h:vs.size=1 then vs[0]else .tuple vs)):=by
    unfold results;congr 2
  rw[he,Array.mapM_eq_mapM_toList];simp only[Sem.run_bind,Sem.run_map,e,Result.andThen_ok,Sem.run_pure];congr 1
  match l with
  | []=>simp[resV]
  | [v]=>simp[resV]
  | v::u::r=>simp[resV]
def YO{P:Program}{C G:Ef}{A:QI}{fn:Func}{c:Code}{args:List Value}{w:World}{K Kp:Value->World->Prop}
    (hC:Fits P C)(O:Fits P G)(hm:P.follows .mixedOrders=true)(u:Nat.ble args.length fn.ntmps=true)
    (Y:withinB fn.ntmps (written c)=true)(h:ev P C G A c (finQ P fn K Kp) (FZ args) w):
    c.wp P (bodyPost P fn (Ends K Kp)) {tmps:=(⟨args⟩:Array Value)++Array.replicate (fn.ntmps-(⟨args⟩:Array Value).size) undef,defers:=[]} w:=by
  have J:=Nat.le_of_ble_eq_true u;have h0:Dm ⟨(⟨args⟩:Array Value)++Array.replicate (fn.ntmps-args.length) undef,[]⟩=FZ args:=by
    funext t;simp only[Dm,FZ,Wh,Array.getD_eq_getD_getElem?,Array.getElem?_append]
    grind
  have hn:((⟨args⟩:Array Value)++Array.replicate (fn.ntmps-args.length) undef).size=fn.ntmps:=by simp;omega
  rw[<-h0]at h;refine Code.wp_mono (λe a' w' a=> ?_) (FF hC O hm c (Ku Y) _ _ w hn h);cases e<;>simp only[lift,finQ,bodyPost]at a⊢ <;>first
    | exact a.elim
    | exact a.2.2.elim
    | (obtain⟨_,m,d⟩:=a
       obtain⟨l,T,hr⟩:=KC d;exact⟨m.defers,_,hr,.inl ⟨_,rfl,T⟩⟩)
    | (obtain⟨_,m,d⟩:=a
       split at d
       . grind
       . grind
       . rename_i v he;cases he;exact⟨m.defers,.inr ⟨_,rfl,d⟩⟩
       grind)
def YP{P:Program}{C G:Ef}{A:QI}{f:FuncId}{fn:Func}{c:Code}{args:List Value}{w:World}{K Kp:Value->World->Prop}
    (hC:Fits P C)(d:Fits P G)(hm:P.follows .mixedOrders=true)(u:P.funcs[f]? =some fn)(m:fn.body=some c)(a:Nat.ble args.length fn.ntmps=true)
    (e:withinB fn.ntmps (written c)=true)(h:ev P C G A c (finQ P fn K Kp) (FZ args) w):
    Calls P f ⟨args⟩ w (Ends K Kp):=calls_of_wp u m (YO hC d hm a e h)
def Fo:List VT->Type
  | []=>Unit
  | t::r=>iX t×Fo r
def mkArgs:(l:List VT)->Fo l->List Value
  | [],_=>[]
  | t::r,x=>mkVT t x.1::mkArgs r x.2
def unArgs:(l:List VT)->List Value->(Fo l->Prop)->Prop
  | [],[],K=>K ()
  | t::r,v::vs,K=>unVT t v λx=>unArgs r vs λy=>K (x,y)
  | _,_,_=>False
def GH:{l:List VT}->{vs:List Value}->{K:Fo l->Prop}->unArgs l vs K-> ∃x,vs=mkArgs l x/\K x
  | [],[],_,h=>⟨(),rfl,h⟩
  | [],_::_,_,h=>h.elim
  | _::_,[],_,h=>h.elim
  | t::r,v::vs,K,h=>by
    simp only[unArgs]at h;obtain⟨x,rfl,a⟩:=Rh h;obtain⟨y,rfl,d⟩:=GH a;exact⟨(x,y),rfl,d⟩
def Iu:{l:List VT}->{x:Fo l}->(mkArgs l x).length=l.length
  | [],_=>rfl
  | t::r,x=>by simp[mkArgs,Iu]
abbrev Entry:=Array Value->World->(Value->World->Prop)->(Value->World->Prop)->Prop
def HK(P:Program)(g:FuncId)(c:Entry):Prop:= ∀args w K Kp,c args w K Kp->
  (∀w,(callFunc g args).run P w= .ok (.enter g args) w)/\Calls P g args w (Ends K Kp)
def E7(P:Program)(g:FuncId)(c:Entry):Prop:= ∀args w K Kp,c args w K Kp->
  ((∀w,(callFunc g args).run P w= .ok (.enter g args) w)/\Calls P g args w (Ends K Kp))∨ ∃v w',(callFunc g args).run P w= .ok (.value v) w'/\K v w'
def HK.any{P:Program}{g:FuncId}{c:Entry}(h:HK P g c):E7 P g c:=λargs w K Kp a=>.inl (h args w K Kp a)
def Tr{P:Program}{f:FuncId}{fn:Func}{e:Array Value->Sem Value}(J:P.funcs[f]? =some fn)(a:(fn.name== "runtime.NumGoroutine")=false)(m:fn.body.isNone=true)(O:Extern.findNext fn=none)(he:Extern.find fn=some e)
    {c:Entry}(u: ∀args w K Kp,c args w K Kp-> ∃v,(e args).run P w= .ok v w/\K v w):E7 P f c:=λargs w K Kp h=>by
  obtain⟨v,h1,d⟩:=u args w K Kp h;refine .inr ⟨v,w,?_,d⟩;rw[run_callFunc_extern J a m O he,h1];rfl
def tabC(l:List (Nat×Entry)):Ef:=λg args w K Kp=>match look l g with
  | some c=>c args w K Kp
  | none=>False
def Ts{α:Type}:{l:List (Nat×α)}->{g:Nat}->{c:α}->look l g=some c->(g,c)∈l
  | [],_,_,h=>by simp[look]at h
  | (k,x)::r,g,c,h=>by
    simp only[look,cond_eq_ite]at h;by_cases e:Nat.beq k g=true
    . rw[if_pos e]at h;have:=Nat.eq_of_beq_eq_true e
      grind
    . rw[if_neg e]at h;exact List.mem_cons_of_mem _ (Ts h)
def Oh{P:Program}{l:List (Nat×Entry)}(h: ∀p∈l,E7 P p.1 p.2):Fits P (tabC l):=by
  intro g args w K Kp a;unfold tabC at a;split at a
  . rename_i c hl;exact h _ (Ts hl) args w K Kp a
  grind
def IE{P:Program}: ∀p∈([]:List (Nat×Entry)),E7 P p.1 p.2:=by simp
def Tt{P:Program}{g:Nat}{c:Entry}{l:List (Nat×Entry)}(h:E7 P g c)(a: ∀p∈l,E7 P p.1 p.2): ∀p∈(g,c)::l,E7 P p.1 p.2:=by grind
def BP{P:Program}{g:Nat}{c:Entry}{l:List (Nat×Entry)}(h:HK P g c)(a: ∀p∈l,E7 P p.1 p.2): ∀p∈(g,c)::l,E7 P p.1 p.2:=Tt h.any a
def ground(P:Program):Ef:=λg args w K Kp=>
  (∀w,(callFunc g args).run P w= .ok (.enter g args) w)/\Calls P g args w (Ends K Kp)
def Lt(P:Program):Fits P (ground P):=λ_ _ _ _ _ h=>.inl h
def SK{P:Program}{T:List (Nat×Entry)}{A:QI}{f:FuncId}{fn:Func}{c:Code}{l:List VT}{F:Fo l->(Value->World->Prop)->(Value->World->Prop)->World->Prop}
    (u: ∀p∈T,E7 P p.1 p.2)(hm:P.follows .mixedOrders=true)(Y:P.funcs[f]? =some fn)(a: ∀args w,(callFunc f args).run P w= .ok (.enter f args) w)
    (O:fn.body=some c)(e:Nat.ble l.length fn.ntmps=true)(v:withinB fn.ntmps (written c)=true)
    (d: ∀x K Kp w,F x K Kp w=ev P (tabC T) (ground P) A c (finQ P fn K Kp) (FZ (mkArgs l x)) w):
    HK P f λargs w K Kp=>unArgs l args.toList λx=>F x K Kp w:=by
  intro args w K Kp h;obtain⟨x,hx,m⟩:=GH h;have J:args=⟨mkArgs l x⟩:=Array.toList_inj.1 (by omega);subst J;refine⟨λw=>a _ w,?_⟩;rw[d]at m;exact YP (Oh u) (Lt P) hm Y O (by rw[Iu];exact e) v m
abbrev QT:=FuncId->Array Value->Option Value->World->(Bool->World->Prop)->Prop
abbrev LG:=Array Value->Option Value->World->(Bool->World->Prop)->Prop
def modeOf:Option Value->FrameMode
  | none=>.returning
  | some v=>.panicking [{v:=v,recovered:=false}]
def Tu:Option Value->Bool->FrameMode
  | none,_=>.returning
  | some v,b=>.panicking [{v:=v,recovered:=b}]
def HZ(P:Program)(g:FuncId)(c:LG):Prop:= ∀args pv w K,c args pv w K->
  (∀w,(callFunc g args).run P w= .ok (.enter g args) w)/\CallsD P g args (modeOf pv) w λe a w'=> ∃v b,e= .returned v/\K b w'/\a=Tu pv b
def xK(P:Program)(C:QT):Prop:= ∀g args pv w K,C g args pv w K->
  (∀w,(callFunc g args).run P w= .ok (.enter g args) w)/\CallsD P g args (modeOf pv) w λe a w'=> ∃v b,e= .returned v/\K b w'/\a=Tu pv b
def tabD(l:List (Nat×LG)):QT:=λg args pv w K=>match look l g with
  | some c=>c args pv w K
  | none=>False
def jB{P:Program}{l:List (Nat×LG)}(h: ∀p∈l,HZ P p.1 p.2):xK P (tabD l):=by
  intro g args pv w K a;unfold tabD at a;split at a
  . rename_i c hl;exact h _ (Ts hl) args pv w K a
  grind
def MR{P:Program}: ∀p∈([]:List (Nat×LG)),HZ P p.1 p.2:=by simp
def LH{P:Program}{g:Nat}{c:LG}{l:List (Nat×LG)}(h:HZ P g c)(a: ∀p∈l,HZ P p.1 p.2): ∀p∈(g,c)::l,HZ P p.1 p.2:=by grind
def YQ{P:Program}{T:List (Nat×Entry)}{A:QI}{f:FuncId}{fn:Func}{c:Code}{l:List VT}{F:Fo l->(World->Prop)->World->Prop}
    (O: ∀p∈T,E7 P p.1 p.2)(hm:P.follows .mixedOrders=true)(hf:P.funcs[f]? =some fn)(a: ∀args w,(callFunc f args).run P w= .ok (.enter f args) w)
    (hb:fn.body=some c)(m:Nat.ble l.length fn.ntmps=true)(Y:withinB fn.ntmps (written c)=true)
    (d: ∀x K w,F x K w=ev P (tabC T) (ground P) A c (finQ P fn (λ_ w'=>K w') EW) (FZ (mkArgs l x)) w):
    HZ P f λargs _ w K=>unArgs l args.toList λx=>F x (K false) w:=by
  intro args pv w K h;obtain⟨x,hx,u⟩:=GH h;have ha:args=⟨mkArgs l x⟩:=Array.toList_inj.1 (by omega);subst ha;refine⟨λw=>a _ w,?_⟩;rw[d]at u;refine(callsD_of_wp hf hb (YO (Oh O) (Lt P) hm (by rw[Iu];exact m) Y u)).mono ?_;rintro e u' w' ⟨rfl,hE⟩;obtain⟨v,rfl,J⟩:=hE.val;refine⟨v,false,rfl,J,?_⟩;cases pv<;>rfl
def recOf:Code->Option (Nat×Code)
  | .seq (.region _ ops false) y=>match ops.toList with
    | [o]=>match o.op with
      | .call c=>match c.callee with
        | .builtin .recover=>match o.guard,o.dst with
          | none,some d=>some (d,y)
          | _,_=>none
        | _=>none
      | _=>none
    | _=>none
  | _=>none
def aN{c:Code}{d:Nat}{y:Code}(h:recOf c=some (d,y)):
    ∃id o k,c= .seq (.region id #[o] false) y/\o.op= .call k/\k.callee= .builtin .recover/\o.guard=none/\o.dst=some d:=by
  unfold recOf at h;split at h
  . rename_i id ops y';split at h
    . rename_i o ho;split at h
      . rename_i k hk;split at h
        . rename_i hb;split at h
          . rename_i hg hd;cases h;have:ops= #[o]:=Array.toList_inj.1 (by omega);subst this
            grind
          . cases h
        . cases h
      . cases h
    . cases h
  . cases h
def YR{args:List Value}{n:Nat}:Dm ⟨(⟨args⟩:Array Value)++Array.replicate (n-args.length) undef,[]⟩=FZ args:=by
  funext t;simp only[Dm,FZ,Wh,Array.getD_eq_getD_getElem?,Array.getElem?_append]
  grind
def Rk{P:Program}{T:List (Nat×Entry)}{A:QI}{f:FuncId}{fn:Func}{c y:Code}{d:Nat}{l:List VT}{F:Fo l->Value->(World->Prop)->World->Prop}
    (hT: ∀p∈T,E7 P p.1 p.2)(hm:P.follows .mixedOrders=true)(hf:P.funcs[f]? =some fn)(u: ∀args w,(callFunc f args).run P w= .ok (.enter f args) w)
    (hb:fn.body=some c)(aD:recOf c=some (d,y))(aQ:Nat.ble l.length fn.ntmps=true)(hd:Nat.ble (d+1) fn.ntmps=true)(hW:withinB fn.ntmps (written y)=true)
    (aG: ∀x v K w,F x v K w=ev P (tabC T) (ground P) A y (finQ P fn (λ_ w'=>K w') EW) ((FZ (mkArgs l x)).put d v) w):
    HZ P f λargs pv w K=>unArgs l args.toList λx=>F x (pv.getD .nilIface) (K pv.isSome) w:=by
  intro args pv w K h;obtain⟨x,hx,h2⟩:=GH h;have ha:args=⟨mkArgs l x⟩:=Array.toList_inj.1 (by omega);subst ha;refine⟨λw=>u _ w,?_⟩;rw[aG]at h2;obtain⟨id,o,k,rfl,ho,hk,hg,aA⟩:=aN aD;have aF:=Nat.le_of_ble_eq_true aQ;have aZ:=Nat.le_of_ble_eq_true hd;rw[<-Iu (x:=x)]at aF;refine callsD_of_wpS hf hb λm cs J=>wpS_seq (wpS_region ?_);have hn:((⟨mkArgs l x⟩:Array Value)++Array.replicate (fn.ntmps-(⟨mkArgs l x⟩:Array Value).size) undef).size=fn.ntmps:=by simp;omega
  generalize hA:({tmps:=(⟨mkArgs l x⟩:Array Value)++Array.replicate (fn.ntmps-(⟨mkArgs l x⟩:Array Value).size) undef,defers:=[]}:Act)=a0;have aK:Dm a0=FZ (mkArgs l x):=by rw[<-hA];exact YR
  have aM:a0.tmps.size=fn.ntmps:=by grind
  have aL:a0.defers=[]:=by rw[<-hA]
  have aE:(execOp a0.eval o).run P w= .ok .recover w:=by
    obtain⟨dst,op,type,pos,after,guard⟩:=o;obtain⟨callee,aI,aU⟩:=k;simp only at ho hk;subst ho;subst hk;simp[execOp,resolve,invoke,builtin]
  have O:Region.wanted o (yielded #[o] a0.tmps)=true:=by simp[Region.wanted,hg]
  have key: ∀(a:List Frame) (v:Value),ev P (tabC T) (ground P) A y (finQ P fn (λ_ w'=>K pv.isSome w') EW) ((FZ (mkArgs l x)).put d v) w->
      (∃Y,a={m with mode:=Y}::cs/\Y=Tu pv pv.isSome)->
      wpOpsS P #[o] (Exit.thenS (y.wpS P (bodyPostS P fn m cs λe Y w'=> ∃v b,e= .returned v/\K b w'/\Y=Tu pv b)) (bodyPostS P fn m cs λe Y w'=> ∃v b,e= .returned v/\K b w'/\Y=Tu pv b)) [] (a0.put o.dst v) a w:=by
    rintro a v aB ⟨Y,aY,hu⟩;show y.wpS P _ (a0.put o.dst v) a w;refine wpS_of_wp ?_;have aP:Dm (a0.put o.dst v)=(FZ (mkArgs l x)).put d v:=by rw[aA,YB (by omega),aK]
    rw[<-aP]at aB;refine Code.wp_mono (λe a' w' hl=> ?_) (FF (Oh hT) (Lt P) hm y (Ku hW) _ _ w (by rw[It];exact aM) aB);have aS: ∀{W},Gg W (a0.put o.dst v) a'->a'.defers=[]:=λh=>by rw[h.defers,Pa,aL]
    cases e<;>simp only[lift,finQ,bodyPostS]at hl⊢ <;>first
      | exact hl.elim
      | exact hl.2.2.elim
      | (obtain⟨_,ha,hq⟩:=hl
         obtain⟨r,hK,hr⟩:=KC hq
         grind)
      | (obtain⟨_,ha,hq⟩:=hl
         split at hq
         . grind
         . grind
         . exact hq.elim
         grind)
  show wpOpsS P #[o] _ [0] a0 (m::cs) w;unfold wpOpsS;simp only[List.getElem?_toArray,List.getElem?_cons_zero];rw[if_pos O,aE];cases pv with
  | none=>
    have:recoverD (m::cs)=none:=by simp[recoverD,J,modeOf]
    simp only[this];exact key (m::cs) .nilIface h2 ⟨m.mode,rfl,J⟩
  | some v=>
    have:recoverD (m::cs)=some (v,{m with mode:=.panicking [{v:=v,recovered:=true}]}::cs):=by simp[recoverD,J,modeOf]
    simp only[this];exact key _ v h2 ⟨_,rfl,rfl⟩
def deferOf:Code->Option Call
  | .region _ ops false=>match ops.toList with
    | [o]=>match o.op with
      | .defer c=>match o.guard,o.dst with
        | none,none=>some c
        | _,_=>none
      | _=>none
    | _=>none
  | _=>none
def Wi{x:Code}{c:Call}(h:deferOf x=some c): ∃id o,x= .region id #[o] false/\o.op= .defer c/\o.guard=none/\o.dst=none:=by
  unfold deferOf at h;split at h
  . rename_i id ops;split at h
    . rename_i o ho;split at h
      . rename_i k hk;split at h
        . rename_i hg hd;cases h;have:ops= #[o]:=Array.toList_inj.1 (by omega);subst this
          grind
        . cases h
      . cases h
    . cases h
  . cases h
def deferOf2:Code->Option (Oper×Call)
  | .region _ ops false=>match ops.toList with
    | [o1,o]=>match o.op with
      | .defer c=>match o.guard,o.dst with
        | none,none=>match o1.guard with
          | none=>some (o1,c)
          | _=>none
        | _,_=>none
      | _=>none
    | _=>none
  | _=>none
def VU{x:Code}{a:Oper}{c:Call}(h:deferOf2 x=some (a,c)): ∃id o,x= .region id #[a,o] false/\o.op= .defer c/\o.guard=none/\o.dst=none/\a.guard=none:=by
  unfold deferOf2 at h;split at h
  . rename_i id ops;split at h
    . rename_i p o ho;split at h
      . rename_i k hk;split at h
        . rename_i hg hd;split at h
          . rename_i hg1;cases h;have:ops= #[_,o]:=Array.toList_inj.1 (by omega);subst this
            grind
          . cases h
        . cases h
      . cases h
    . cases h
  . cases h
def evD(P:Program)(C G:Ef)(A:QI)(a:Post)(d:FuncId->Array Value->Post):Code->Fr->World->Prop
  | .seq x y,f,w=>match deferOf x with
    | some c=>match c.callee with
      | .value v=>match f.ev v with
        | .func (.func g) first cap=>ev P C G A y (d g ((first++c.args.map f.ev)++cap)) f w
        | _=>False
      | _=>False
    | none=>match deferOf2 x with
      | some (o1,c)=>mI P C G o1.op o1.type f.ev w (λu w'=>match c.callee with
        | .value v=>match(f.PZ o1.dst u).ev v with
          | .func (.func g) first cap=>ev P C G A y (d g ((first++c.args.map (f.PZ o1.dst u).ev)++cap)) (f.PZ o1.dst u) w'
          | _=>False
        | _=>False) λ_ _=>False
      | none=>match(firstR y).bind (look A.MQ)with
        | none=>ev P C G A x (Post.then (evD P C G A a d y) a) f w
        | some l=>Ao (St l) (λJ=>ev P C G A x (Post.then (λe w'=>Fr.get l e λs=>J s w') a) f w)
            λs j w'=>evD P C G A a d y (Fr.set l s (f.YA (written x) j)) w'
  | c,f,w=>ev P C G A c a f w
def liftD(n:Nat)(d:Post)(m:FuncId->Array Value->Post):Exit->Act->World->Prop
  | .outgrown,_,_=>False
  | e,a,w=>a.tmps.size=n/\((a.defers=[]/\d e (Dm a) w)∨ ∃g cap args,a.defers=[⟨.fn (.func g) cap,args⟩]/\m g (args++cap) e (Dm a) w)
def jC{P:Program}{C G:Ef}(hC:Fits P C)(hG:Fits P G)(hm:P.follows .mixedOrders=true){A:QI}{n:Nat}{Q0:Post}{Q1:FuncId->Array Value->Post}:
    ∀(c:Code),within n (written c)-> ∀(a:Act) (w:World),a.tmps.size=n->a.defers=[]->evD P C G A Q0 Q1 c (Dm a) w->c.wp P (liftD n Q0 Q1) a w:=by
  have plain: ∀(c:Code),within n (written c)-> ∀(a:Act) (w:World),a.tmps.size=n->a.defers=[]->ev P C G A c Q0 (Dm a) w->c.wp P (liftD n Q0 Q1) a w:=by
    intro c hW a w hn hd h;refine Code.wp_mono (λe a' w' d=> ?_) (FF hC hG hm c hW Q0 a w hn h);cases e<;>simp only[lift,liftD]at d⊢ <;>first
      | exact d.elim
      | exact⟨d.1,.inl ⟨by rw[d.2.1.defers,hd],d.2.2⟩⟩
  intro c
  induction c with
  | seq x y _ ihy=>
    intro hW a w hn hd h;have aE:within n (written x):=λt ht=>hW t (by simp[written,ht]);have T:within n (written y):=λt ht=>hW t (by simp[written,ht]);unfold evD at h;split at h
    . rename_i k hk;obtain⟨id,o,rfl,ho,hg,K⟩:=Wi hk;split at h
      . rename_i v hv;split at h
        . rename_i g first cap hf
          refine wp_seq (wp_region_list ?_);show wpList P #[o] _ [o] a w;unfold wpList;have m:Region.wanted o (yielded #[o] a.tmps)=true:=by simp[Region.wanted,hg]
          rw[if_pos m];refine .inl ?_;have O:(execOp a.eval o).run P w= .ok (.defer ⟨.fn (.func g) cap,first++k.args.map (Dm a).ev⟩) w:=by
            obtain⟨dst,op,type,pos,after,guard⟩:=o;obtain⟨callee,aD,aM⟩:=k;simp only at ho hv;subst ho;subst hv;rw[Of]at hf;simp[execOp,resolve,hf,Deferred.ofValue,JB]
          unfold Oper.wp;rw[O,Oper.upon_defer,K];show(Exit.then _ _ _ _ _:Prop);have h2:=FF hC hG hm y T (Q1 g ((first++k.args.map (Dm a).ev)++cap)) {a with defers:=⟨.fn (.func g) cap,first++k.args.map (Dm a).ev⟩::a.defers} w hn h;refine Code.wp_mono (λe a' w' d=> ?_) h2;cases e<;>simp only[lift,liftD]at d⊢ <;>first
            | exact d.elim
            | exact⟨d.1,.inr ⟨g,cap,_,by rw[d.2.1.defers,hd],d.2.2⟩⟩
        grind
      grind
    . split at h
      . rename_i o1 k hk;obtain⟨id,o,rfl,ho,hg,K,aO⟩:=VU hk;refine wp_seq (wp_region_list ?_);show wpList P #[o1,o] _ [o1,o] a w;unfold wpList;have Y:Region.wanted o1 (yielded #[o1,o] a.tmps)=true:=by simp[Region.wanted,aO]
        rw[if_pos Y];have aL: ∀v,Dm (a.put o1.dst v)=(Dm a).PZ o1.dst v:=λv=>Ri (λt ht=>by have:=aE t (by simp[written,dsts,ht]);omega) v;refine .inl (Pf (Kp:=λ_ _=>False) (by have:=Pe hC hG (λ_=>rfl) (o:=o1) h;rwa[JB]at this) (λu w' hK=> ?_) λv w' hK=>hK.elim);split at hK
        . rename_i v hv;rw[<-aL]at hK;split at hK
          . rename_i g first cap hf
            unfold wpList;have m:Region.wanted o (yielded #[o1,o] (a.put o1.dst u).tmps)=true:=by simp[Region.wanted,hg]
            rw[if_pos m];refine .inl ?_;have O:(execOp (a.put o1.dst u).eval o).run P w'= .ok (.defer ⟨.fn (.func g) cap,first++k.args.map (Dm (a.put o1.dst u)).ev⟩) w':=by
              obtain⟨dst,op,type,pos,after,guard⟩:=o;obtain⟨callee,aD,aM⟩:=k;simp only at ho hv;subst ho;subst hv;rw[Of]at hf;simp[execOp,resolve,hf,Deferred.ofValue,JB]
            unfold Oper.wp;rw[O,Oper.upon_defer,K];show(Exit.then _ _ _ _ _:Prop);have h2:=FF hC hG hm y T (Q1 g ((first++k.args.map (Dm (a.put o1.dst u)).ev)++cap)) {(a.put o1.dst u)with defers:=⟨.fn (.func g) cap,first++k.args.map (Dm (a.put o1.dst u)).ev⟩::(a.put o1.dst u).defers} w' (by rw[<-hn];exact It _ _ _) hK;refine Code.wp_mono (λe a' w' d=> ?_) h2;cases e<;>simp only[lift,liftD]at d⊢ <;>first
              | exact d.elim
              | exact⟨d.1,.inr ⟨g,cap,_,by rw[d.2.1.defers,Pa,hd],d.2.2⟩⟩
          . exact hK.elim
        . exact hK.elim
      split at h
      . refine wp_seq (Code.wp_mono (λe a' w' d=> ?_) (FF hC hG hm x aE _ a w hn h));cases e<;>simp only[lift,Exit.then,Post.then,liftD]at d⊢ <;>first
          | exact d.elim
          | exact⟨d.1,.inl ⟨by rw[d.2.1.defers,hd],d.2.2⟩⟩
          | exact ihy T a' w' d.1 (by rw[d.2.1.defers,hd]) d.2.2
      . rename_i l hl0;obtain⟨J,h1,h2⟩:=h;refine wp_seq (Code.wp_mono (λe a' w' d=> ?_) (FF hC hG hm x aE _ a w hn h1));cases e<;>simp only[lift,Exit.then,Post.then,liftD]at d⊢ <;>first
          | exact d.elim
          | exact⟨d.1,.inl ⟨by rw[d.2.1.defers,hd],d.2.2⟩⟩
          | (obtain⟨s,hs,hJ⟩:=Nb d.2.2
             have h3:evD P C G A Q0 Q1 y (Fr.set l s ((Dm a).YA (written x) (Dm a'))) w':=h2 s (Dm a') w' hJ;rw[Nc hs (λt ht=>d.2.1.out t ht)]at h3;exact ihy T a' w' d.1 (by rw[d.2.1.defers,hd]) h3)
  | _=>intro hW a w hn hd h;exact plain _ hW a w hn hd (by unfold evD at h;exact h)
def finD(P:Program)(fn:Func)(D:QT)(K Kp:Value->World->Prop)(g:FuncId)(args:Array Value):Post:=λe f w=>match e with
  | .normal=>D g args none w λ_ w'=>evRes P fn.results.toList f w' λl=>K (resV l) w'
  | .ret=>D g args none w λ_ w'=>evRes P fn.results.toList f w' λl=>K (resV l) w'
  | .panic [⟨v,false,false⟩]=>D g args (some v) w λb w'=>match b with
    | true=>evRes P fn.results.toList f w' λl=>K (resV l) w'
    | false=>Kp v w'
  | _=>False
def calls_of_evD{P:Program}{C G:Ef}{D:QT}{A:QI}{f:FuncId}{fn:Func}{c:Code}{args:List Value}{w:World}{K Kp:Value->World->Prop}
    (hC:Fits P C)(hG:Fits P G)(hD:xK P D)(hm:P.follows .mixedOrders=true)(hf:P.funcs[f]? =some fn)(hb:fn.body=some c)(aA:Nat.ble args.length fn.ntmps=true)
    (hW:withinB fn.ntmps (written c)=true)(h:evD P C G A (finQ P fn K Kp) (finD P fn D K Kp) c (FZ args) w):
    Calls P f ⟨args⟩ w (Ends K Kp):=by
  have aB:=Nat.le_of_ble_eq_true aA;have hn:((⟨args⟩:Array Value)++Array.replicate (fn.ntmps-args.length) undef).size=fn.ntmps:=by simp;omega
  rw[<-YR (n:=fn.ntmps)]at h;refine calls_of_wp_defers hf hb (Code.wp_mono (λe T w' J=> ?_) (jC hC hG hm c (Ku hW) _ w hn rfl h));have leave: ∀(pv:Option Value) (g:FuncId) (cap a:Array Value),D g (a++cap) pv w' (λb d=>match pv,b with
        | some v,false=>Kp v d
        | _,_=>evRes P fn.results.toList (Dm T) d λl=>K (resV l) d)->
      Leaves P fn T.tmps (Ends K Kp) [⟨.fn (.func g) cap,a⟩] (modeOf pv) w':=by
    intro pv g cap a hd;obtain⟨h1,h2⟩:=hD _ _ _ _ _ hd;refine leaves_cons (by cases pv<;>simp[modeOf]) (f:=g) (args:=a++cap) (by simp[invoke,h1]) (h2.mono ?_);rintro e u' d ⟨v,b,rfl,Y,rfl⟩;cases pv with
    | none=>
      obtain⟨r,u,O⟩:=KC Y;exact⟨_,O,.inl ⟨_,rfl,u⟩⟩
    | some p=>
      cases b with
      | true=>
        obtain⟨r,u,O⟩:=KC Y;exact⟨_,O,.inl ⟨_,rfl,u⟩⟩
      | false=>exact .inr ⟨_,rfl,Y⟩
  cases e<;>simp only[liftD,bodyPostD]at J⊢ <;>first
    | exact J.elim
    | skip
  . obtain⟨_,⟨hd,m⟩|⟨g,cap,a,hd,m⟩⟩:=J
    . rw[hd];obtain⟨r,u,O⟩:=KC m;exact⟨_,O,.inl ⟨_,rfl,u⟩⟩
    . rw[hd];exact leave none g cap a m
  . obtain⟨_,⟨_,m⟩|⟨_,_,_,_,m⟩⟩:=J<;>exact m.elim
  . obtain⟨_,⟨_,m⟩|⟨_,_,_,_,m⟩⟩:=J<;>exact m.elim
  . obtain⟨_,⟨hd,m⟩|⟨g,cap,a,hd,m⟩⟩:=J
    . rw[hd];obtain⟨r,u,O⟩:=KC m;exact⟨_,O,.inl ⟨_,rfl,u⟩⟩
    . rw[hd];exact leave none g cap a m
  . obtain⟨_,⟨hd,m⟩|⟨g,cap,a,hd,m⟩⟩:=J
    . rw[hd];unfold finQ at m;split at m
      . grind
      . grind
      . rename_i v he;cases he;exact .inr ⟨_,rfl,m⟩
      grind
    . rw[hd];unfold finD at m;split at m
      . grind
      . grind
      . rename_i v he;cases he;refine leave (some v) g cap a ?_;have:(λ(b:Bool) (d:World)=>match b with
          | true=>evRes P fn.results.toList (Dm T) d λl=>K (resV l) d
          | false=>Kp v d)=λ(b:Bool) (d:World)=>match some v,b with
          | some v,false=>Kp v d
          | _,_=>evRes P fn.results.toList (Dm T) d λl=>K (resV l) d:=by grind
        grind
      grind
def Ends.mono{K Kp a:Value->World->Prop}{e:Ending}{w:World}(h:Ends K Kp e w)(hp: ∀v w,Kp v w->a v w):Ends K a e w:=by
  rcases h with h|⟨v,h1,d⟩
  . exact .inl h
  . exact .inr ⟨v,h1,hp _ _ d⟩
def JY{P:Program}{T:List (Nat×Entry)}{TD:List (Nat×LG)}{A:QI}{f:FuncId}{fn:Func}{c:Code}{l:List VT}{F:Fo l->(Value->World->Prop)->World->Prop}
    (J: ∀p∈T,E7 P p.1 p.2)(m: ∀p∈TD,HZ P p.1 p.2)(hm:P.follows .mixedOrders=true)(hf:P.funcs[f]? =some fn)(a: ∀args w,(callFunc f args).run P w= .ok (.enter f args) w)
    (hb:fn.body=some c)(u:Nat.ble l.length fn.ntmps=true)(O:withinB fn.ntmps (written c)=true)
    (d: ∀x K w,F x K w=evD P (tabC T) (ground P) A (finQ P fn K EW) (finD P fn (tabD TD) K EW) c (FZ (mkArgs l x)) w):
    HK P f λargs w K _=>unArgs l args.toList λx=>F x K w:=by
  intro args w K Kp h;obtain⟨x,hx,v⟩:=GH h;have Y:args=⟨mkArgs l x⟩:=Array.toList_inj.1 (by omega);subst Y;refine⟨λw=>a _ w,?_⟩;rw[d]at v;exact(calls_of_evD (Oh J) (Lt P) (jB m) hm hf hb (by rw[Iu];exact u) O v).mono λe w' hE=>hE.mono λ_ _ f=>f.elim
def jD{P:Program}{f:FuncId}{C:Nat->Entry}(h: ∀n,HK P f (C n)):HK P f λargs w K Kp=> ∃n,C n args w K Kp:=
  λargs w K Kp ⟨n,hc⟩=>h n args w K Kp hc
def DQ(k:IntKind)(op:Nat)(a b:Int):Int:=
 k.wrap (match op with
  | 0=>BitVec.ofInt k.bits a&&&BitVec.ofInt k.bits b
  | 1=>BitVec.ofInt k.bits a|||BitVec.ofInt k.bits b
  | 2=>BitVec.ofInt k.bits a^^^BitVec.ofInt k.bits b
  | _=>BitVec.ofInt k.bits a&&& ~~~BitVec.ofInt k.bits b).toNat
def Wj{P:Program}{c:Entry}(a:c=λargs w K Kp=>unArgs [.one (.int .u64)] args.toList λx=>K (.float .f64 (Int.toNat x.1)) w):
  ∀args w K Kp,c args w K Kp-> ∃v,(Extern.MathFloatBits.float64frombits args).run P w= .ok v w/\K v w:=by
 subst a;intro args w K Kp h;obtain⟨x,d,h⟩:=GH h;obtain rfl:args= #[.int .u64 x.1]:=Array.toList_inj.1 (by rw[d];rfl);exact⟨_,rfl,h⟩
def aO{P:Program}{c:Entry}(a:c=λargs w K Kp=>unArgs [.one .xI] args.toList λx=>K (.int .u64 ((show Nat from x.1):Int)) w):
  ∀args w K Kp,c args w K Kp-> ∃v,(Extern.MathFloatBits.float64bits args).run P w= .ok v w/\K v w:=by
 subst a;intro args w K Kp h;obtain⟨x,d,h⟩:=GH h;obtain rfl:args= #[.float .f64 x.1]:=Array.toList_inj.1 (by rw[d];rfl);exact⟨_,rfl,h⟩
def Wl(a b c:Int)(K:Int->Int->Prop):Prop:=(0<=a/\0<=b/\0<=c/\c<=1)/\K ((a+b+c) %18446744073709551616) ((a+b+c)/18446744073709551616)
def jE{P:Program}{c:Entry}(J:c=λargs w K Kp=>unArgs [.one (.int .u64),.one (.int .u64),.one (.int .u64)] args.toList λx=>Wl x.1 x.2.1 x.2.2.1 λa b=>K (.tuple ⟨[.int .u64 a,.int .u64 b]⟩) w):
  ∀args w K Kp,c args w K Kp-> ∃v,(add64Entry args).run P w= .ok v w/\K v w:=by
 subst J;intro args w K Kp h;obtain⟨x,O,⟨h1,d,e,m⟩,u⟩:=GH h;clear h;obtain rfl:args= #[.int .u64 x.1,.int .u64 x.2.1,.int .u64 x.2.2.1]:=Array.toList_inj.1 (by rw[O];rfl);exact⟨_,run_add64 _ _ _ h1 d e m w,u⟩
end Go.Sh

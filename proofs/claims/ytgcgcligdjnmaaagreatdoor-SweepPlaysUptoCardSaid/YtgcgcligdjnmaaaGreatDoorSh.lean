/- A function's code comes to a plain predicate transformer, shown once for all codes. No further condition. -/
import Derived.OrdersHeld
import Derived.WalkKit
import Derived.KernelRfl
import Derived.Laws.CopyRow
import Derived.Scope
import Derived.Laws.Externs
import Derived.Recover
set_option linter.all false
set_option maxRecDepth 50000
namespace Go.Sh
inductive Ty where
  | int (k:IntKind)|bool|ptr|sl|map|any|zL
structure Aa where
  base:Option Addr
  len:Nat
  cap:Nat
def vA:Ty->Type
  | .int _=>Int
  | .bool=>Bool
  | .ptr=>Option Addr
  | .sl=>Aa
  | .map=>Option Nat
  | .any=>Value
  | .zL=>Nat
def mkV:(t:Ty)->vA t->Value
  | .int k,n=>.int k n
  | .bool,b=>.bool b
  | .ptr,a=>.pointer a
  | .sl,s=>.slice (Aa.base s) (Aa.len s) (Aa.cap s)
  | .map,r=>.map r
  | .any,v=>v
  | .zL,b=>.float .f64 (show Nat from b)
def ik:IntKind->Nat
  | .i8=>0| .i16=>1| .i32=>2| .i64=>3| .u8=>4| .u16=>5| .u32=>6| .u64=>7
def aP{a b:IntKind}(h:ik a=ik b):a=b:=by
  cases a<;>cases b<;>first|rfl|(simp[ik]at h)
def sameK(a b:IntKind)(X:Prop):Prop:=match Nat.beq (ik a) (ik b)with|true=>X|false=>False
def F1{a b:IntKind}{X:Prop}(h:sameK a b X):a=b/\X:=by
  unfold sameK at h;split at h
  . rename_i e;exact⟨aP (Nat.eq_of_beq_eq_true e),h⟩
  . exact h.elim
abbrev Xr(k:FloatKind)(X:Prop):Prop:=match k with| .f64=>X| .f32=>False
def KC{k:FloatKind}{X:Prop}(h:Xr k X):k= .f64/\X:=by
  cases k
  . exact h.elim
  . exact⟨rfl,h⟩
def unV:(t:Ty)->Value->(vA t->Prop)->Prop
  | .int k,.int k' n,K=>sameK k k' (K n)
  | .bool,.bool b,K=>K b
  | .ptr,.pointer a,K=>K a
  | .sl,.slice a n c,K=>K (Aa.mk a n c)
  | .map,.map r,K=>K r
  | .any,v,K=>K v
  | .zL,.float k b,K=>Xr k (K b)
  | _,_,_=>False
def Xs{t:Ty}{v:Value}{K:vA t->Prop}(h:unV t v K): ∃x,v=mkV t x/\K x:=by
  unfold unV at h;split at h
  . obtain⟨rfl,h2⟩:=F1 h;exact⟨_,rfl,h2⟩
  . exact⟨_,rfl,h⟩
  . exact⟨_,rfl,h⟩
  . exact⟨_,rfl,h⟩
  . exact⟨_,rfl,h⟩
  . exact⟨_,rfl,h⟩
  . obtain⟨rfl,h2⟩:=KC h;exact⟨_,rfl,h2⟩
  grind
def iF:List Ty->Type
  | []=>Unit
  | t::r=>vA t×iF r
def mkVs:(l:List Ty)->iF l->List Value
  | [],_=>[]
  | t::r,x=>mkV t x.1::mkVs r x.2
def unVs:(l:List Ty)->List Value->(iF l->Prop)->Prop
  | [],[],K=>K ()
  | t::r,v::vs,K=>unV t v λx=>unVs r vs λy=>K (x,y)
  | _,_,_=>False
def VW:{l:List Ty}->{vs:List Value}->{K:iF l->Prop}->unVs l vs K-> ∃x,vs=mkVs l x/\K x
  | [],[],_,h=>⟨(),rfl,h⟩
  | [],_::_,_,h=>h.elim
  | _::_,[],_,h=>h.elim
  | t::r,v::vs,K,h=>by
    simp only[unVs]at h;obtain⟨x,rfl,h2⟩:=Xs h;obtain⟨y,rfl,d⟩:=VW h2;exact⟨(x,y),rfl,d⟩
inductive VT where
  | one (t:Ty)
  | agg (l:List Ty)
def lJ:VT->Type
  | .one t=>vA t
  | .agg l=>iF l
def mkVT:(t:VT)->lJ t->Value
  | .one t,x=>mkV t x
  | .agg l,x=>.agg ⟨mkVs l x⟩
def unVT:(t:VT)->Value->(lJ t->Prop)->Prop
  | .one t,v,K=>unV t v K
  | .agg l,.agg cs,K=>unVs l cs.toList K
  | .agg _,_,_=>False
def Qo{t:VT}{v:Value}{K:lJ t->Prop}(h:unVT t v K): ∃x,v=mkVT t x/\K x:=by
  cases t with
  | one t=>exact Xs h
  | agg l=>
    cases v<;>simp only[unVT]at h;rename_i cs;obtain⟨x,d,h⟩:=VW h;exact⟨x,by simp only[mkVT,<-d],h⟩
abbrev Fr:=Nat->Value
def Fr.put(f:Fr)(d:Nat)(v:Value):Fr:=λt=>bif Nat.beq t d then v else f t
def Fr.Oz(f:Fr):Option Nat->Value->Fr
  | some d,v=>f.put d v
  | none,_=>f
def memB:List Nat->Nat->Bool
  | [],_=>false
  | x::r,t=>bif Nat.beq t x then true else memB r t
def Xt:{l:List Nat}->{t:Nat}->(memB l t=true↔t∈l)
  | [],t=>by simp[memB]
  | x::r,t=>by
    simp only[memB,List.mem_cons,cond_eq_ite];by_cases h:Nat.beq t x=true
    . simp[h,Nat.eq_of_beq_eq_true h]
    . have d:t≠x:=λe=>h (e▸Nat.beq_refl t);simp[h,Xt (l:=r) (t:=t),d]
def Fr.Xu(f:Fr)(l:List Nat)(j:Nat->Value):Fr:=λt=>bif memB l t then j t else f t
def Fr.ev(f:Fr):Operand->Value
  | .tmp t=>f t
  | .const v=>v
  | .global g=>.pointer (some ⟨g,0,none⟩)
  | .func g=>.func (.func g) #[] #[]
def EG(a:Act):Fr:=λt=>a.tmps.getD t undef
def OB(a:Act)(x:Operand):(EG a).ev x=a.eval x:=by cases x<;>rfl
def JA(a:Act):(EG a).ev=a.eval:=funext (OB a)
def Xv{a:Act}{d:Nat}(hd:d<a.tmps.size)(v:Value):EG (a.put (some d) v)=(EG a).put d v:=by
  funext t;simp only[EG,Act.put,Fr.put,Array.getD_eq_getD_getElem?,cond_eq_ite];by_cases h:t=d
  . subst h;simp[hd]
  . have j:Nat.beq t d=false:=by
      cases j:Nat.beq t d
      . rfl
      . exact absurd (Nat.eq_of_beq_eq_true j) h
    grind
def Qq{a:Act}{d:Option Nat}(hd: ∀t,d=some t->t<a.tmps.size)(v:Value):EG (a.put d v)=(EG a).Oz d v:=by
  cases d with
  | none=>rfl
  | some t=>exact Xv (hd t rfl) v
def Io(a:Act)(d:Option Nat)(v:Value):(a.put d v).tmps.size=a.tmps.size:=by
  cases d<;>simp[Act.put]
def O0(a:Act)(d:Option Nat)(v:Value):(a.put d v).defers=a.defers:=by
  cases d<;>rfl
abbrev qU:=List (Nat×VT)
def St:qU->Type
  | []=>Unit
  | (_,t)::r=>lJ t×St r
def Fr.set:(l:qU)->St l->Fr->Fr
  | [],_,f=>f
  | (d,t)::r,s,f=>Fr.set r s.2 (f.put d (mkVT t s.1))
def Fr.get:(l:qU)->Fr->(St l->Prop)->Prop
  | [],_,K=>K ()
  | (d,t)::r,f,K=>unVT t (f d) λx=>Fr.get r f λs=>K (x,s)
def Oc:(l:qU)->St l->Fr->Prop
  | [],_,_=>True
  | (d,t)::r,s,f=>f d=mkVT t s.1/\Oc r s.2 f
def NM:{l:qU}->{f:Fr}->{K:St l->Prop}->Fr.get l f K-> ∃s,Oc l s f/\K s
  | [],_,_,h=>⟨(),trivial,h⟩
  | (d,t)::r,f,K,h=>by
    obtain⟨x,j,h⟩:=Qo h;obtain⟨s,hs,h⟩:=NM h;exact⟨(x,s),⟨j,hs⟩,h⟩
def eX:{t:Ty}->{x y:vA t}->mkV t x=mkV t y->x=y
  | .int _,_,_,h=>by simp only[mkV]at h;injection h
  | .bool,_,_,h=>by simp only[mkV]at h;injection h
  | .ptr,_,_,h=>by simp only[mkV]at h;injection h
  | .sl,x,y,h=>by
    simp only[mkV]at h;injection h with h1 h2 h3
    cases x;cases y;grind
  | .map,_,_,h=>by simp only[mkV]at h;injection h
  | .any,_,_,h=>h
  | .zL,_,_,h=>by simp only[mkV]at h;injection h
def Xw:{l:List Ty}->{x y:iF l}->mkVs l x=mkVs l y->x=y
  | [],_,_,_=>rfl
  | t::r,(x,xs),(y,ys),h=>by
    simp only[mkVs]at h;injection h with h1 h2
    rw[eX h1,Xw h2]
def lU:{t:VT}->{x y:lJ t}->mkVT t x=mkVT t y->x=y
  | .one _,_,_,h=>eX h
  | .agg _,_,_,h=>by
    simp only[mkVT]at h;injection h with h1
    injection h1 with h2
    exact Xw h2
def VX:{l:qU}->{s s':St l}->{f:Fr}->Oc l s f->Oc l s' f->s=s'
  | [],_,_,_,_,_=>rfl
  | (d,t)::r,(x,s),(y,s'),f,h,h'=>by
    have h1:mkVT t x=mkVT t y:=h.1.symm.trans h'.1;have h2:x=y:=lU h1;have j:s=s':=VX h.2 h'.2
    grind
def lV:{l:qU}->{s:St l}->{g f:Fr}->Oc l s g->(∀t,t∉l.map (·.1)->f t=g t)->Fr.set l s f=g
  | [],_,g,f,_,h=>funext λt=>h t (by simp)
  | (d,t)::r,s,g,f,hs,h=>by
    simp only[Fr.set];refine lV hs.2 λu hu=> ?_;simp only[Fr.put,cond_eq_ite];by_cases e:Nat.beq u d=true
    . have:=Nat.eq_of_beq_eq_true e;subst this;simp[hs.1]
    . have j:u≠d:=λe'=>e (e'▸Nat.beq_refl u)
      grind
def NN{l:qU}{s:St l}{W:List Nat}{f g:Fr}(hs:Oc l s g)(d: ∀t,t∉W->g t=f t):Fr.set l s (f.Xu W g)=g:=by
  refine lV hs λt _=> ?_;simp only[Fr.Xu,cond_eq_ite];by_cases h:memB W t=true
  . simp[h]
  . simp only[h,Bool.false_eq_true,if_false];exact(d t λhm=>h (Xt.2 hm)).symm
def NC(a:Option Addr)(K:Addr->Prop):Prop:=match a with|some p=>K p|none=>False
def CND(b:Bool)(T E:Prop):Prop:=match b with|true=>T|false=>E
def eY{b:Bool}{T E:Prop}:CND b T E↔(b=true->T)/\(b=false->E):=by cases b<;>simp[CND]
def Iy{a:Option Addr}{K:Addr->Prop}(h:NC a K): ∃p,a=some p/\K p:=by
  cases a with
  | none=>exact h.elim
  | some p=>exact⟨p,rfl,h⟩
@[simp] theorem AG(p:Addr)(K:Addr->Prop):NC (some p) K=K p:=rfl
def WH(P:Program)(t:TypeId):Nat:=P.cellsOf t
def szK(P:Program)(t:TypeId)(K:Nat->Prop):Prop:=match WH P t with
  | 0=>False
  | n+1=>K (n+1)
def GP{P:Program}{t:TypeId}{K:Nat->Prop}(h:szK P t K): ∃n,K n/\n≠0/\n=WH P t/\ ∀w,(sizeOf t).run P w= .ok n w:=by
  unfold szK at h;split at h
  . grind
  . rename_i n hn;refine⟨_,h,by omega,hn.symm,λw=> ?_⟩;cases hi:P.info? t with
    | none=>simp[WH,Program.cellsOf,hi]at hn
    | some i=>
      have:i.size=n+1:=by simpa[WH,Program.cellsOf,hi]using hn
      simp[sizeOf,typeInfo,hi,this]
def isAggP(P:Program)(t:TypeId):Bool:=match P.underlying t with
  | some (.struct _)|some (.array _ _)=>true
  | _=>false
def aggK(P:Program)(t:TypeId)(A:Prop)(B:TypeDesc->Prop):Prop:=match P.underlying t with
  | some (.struct _)=>A
  | some (.array _ _)=>A
  | some d=>B d
  | none=>False
def VY{P:Program}{t:TypeId}{A:Prop}{B:TypeDesc->Prop}(h:aggK P t A B):
    (P.info? t).isSome=true/\((A/\ ∀w,(isAgg t).run P w= .ok true w)∨(∃d,P.underlying t=some d/\B d/\ ∀w,(isAgg t).run P w= .ok false w)):=by
  unfold aggK at h;have hu: ∀d,P.underlying t=some d->(P.info? t).isSome=true:=by
    intro d hd;cases hi:P.info? t with
    | none=>simp[Program.underlying,hi]at hd
    | some i=>rfl
  split at h
  . rename_i hd;exact⟨hu _ hd,.inl ⟨h,λw=>by simp[isAgg,underlying,hd]⟩⟩
  . rename_i hd;exact⟨hu _ hd,.inl ⟨h,λw=>by simp[isAgg,underlying,hd]⟩⟩
  . rename_i d h1 h2 hd;refine⟨hu _ hd,.inr ⟨d,hd,h,λw=> ?_⟩⟩;cases d<;>first
      | exact(h1 _ rfl).elim
      | exact(h2 _ _ rfl).elim
      | simp[isAgg,underlying,hd]
  grind
def wA:TypeDesc->Ty
  | .int k=>.int k
  | .bool=>.bool
  | .pointer _=>.ptr
  | .slice _=>.sl
  | .map _ _=>.map
  | .float .f64=>.zL
  | _=>.any
def lX:Nat->List Ty->List Ty
  | 0,_=>[]
  | n+1,l=>l++lX n l
def lY(P:Program):Nat->TypeId->List Ty
  | 0,_=>[]
  | d+1,t=>match P.underlying t with
    | some (.struct fs)=>fs.toList.flatMap λf=>lY P d f.type
    | some (.array n e)=>lX n (lY P d e)
    | some d=>[wA d]
    | none=>[]
def aQ(P:Program)(t:TypeId):VT:=match isAggP P t with
  | true=>.agg (lY P 12 t)
  | false=>match P.underlying t with
    | some d=>.one (wA d)
    | none=>.one .any
def K8(P:Program)(t:TypeId):Option Value:=(P.info? t).bind (·.zero)
def evInt(op:BinOp)(k:IntKind)(a b:Int)(K:Value->Prop):Prop:=
  match op with
  | .add=>K (.int k (k.wrap (a+b)))
  | .sub=>K (.int k (k.wrap (a-b)))
  | .mul=>K (.int k (k.wrap (a*b)))
  | .quo=>b≠0/\K (.int k (k.wrap (a.tdiv b)))
  | .rem=>b≠0/\K (.int k (a.tmod b))
  | .and=>K (.int k (k.wrap (BitVec.ofInt k.bits a&&&BitVec.ofInt k.bits b).toNat))
  | .or=>K (.int k (k.wrap (BitVec.ofInt k.bits a|||BitVec.ofInt k.bits b).toNat))
  | .xor=>K (.int k (k.wrap (BitVec.ofInt k.bits a^^^BitVec.ofInt k.bits b).toNat))
  | .andNot=>K (.int k (k.wrap (BitVec.ofInt k.bits a&&& ~~~BitVec.ofInt k.bits b).toNat))
  | .eql=>K (.bool (a==b))
  | .neq=>K (.bool (a !=b))
  | .lss=>K (.bool (decide (a<b)))
  | .leq=>K (.bool (decide (a<=b)))
  | .gtr=>K (.bool (decide (a>b)))
  | .geq=>K (.bool (decide (a≥b)))
  | _=>False
def isFn:Value->Bool
  | .func .. =>true
  | .nilFunc=>true
  | _=>false
def isNilF:Value->Bool
  | .nilFunc=>true
  | _=>false
noncomputable def O1{α:Type}(x:α):α:=Classical.choose (⟨x,rfl⟩: ∃y,y=x)
def Kg{α:Type}(x:α):O1 x=x:=Classical.choose_spec (⟨x,rfl⟩: ∃y,y=x)
noncomputable def Dq(a b:Nat):Option Ordering:=O1 (FloatKind.f64.format.order a b)
def evFlt(op:BinOp)(a b:Nat)(K:Value->Prop):Prop:=match op with
  | .eql=>K (.bool (Dq a b==some .eq))
  | .neq=>K (.bool (Dq a b !=some .eq))
  | .lss=>K (.bool (Dq a b==some .lt))
  | .leq=>K (.bool (Dq a b==some .lt||Dq a b==some .eq))
  | .gtr=>K (.bool (Dq a b==some .gt))
  | .geq=>K (.bool (Dq a b==some .gt||Dq a b==some .eq))
  | _=>False
def wB(a b:Option Addr)(K:Bool->Prop):Prop:=match a with
  | none=>K b.isNone
  | some p=>match b with
    | none=>K false
    | some q=>p.block=q.block/\K (p==q)
def evBin0(P:Program)(op:BinOp)(t:TypeId)(x y:Value)(K:Value->Prop):Prop:=
  match x with
  | .int k a=>match y with
    | .int k' b=>match op with
      | .shl=>0<=b/\K (.int k (k.wrap (a*2^(min b.toNat k.bits))))
      | .shr=>0<=b/\K (.int k (a.fdiv (2^(min b.toNat k.bits))))
      | op=>sameK k k' (evInt op k a b K)
    | _=>False
  | .bool a=>match y with
    | .bool b=>match P.underlying t with
      | some .bool=>match op with
        | .eql=>K (.bool (a==b))
        | .neq=>K (.bool (!(a==b)))
        | _=>False
      | _=>False
    | _=>False
  | .pointer a=>match y with
    | .pointer none=>match P.underlying t with
      | some (.pointer _)=>match op with
        | .eql=>K (.bool a.isNone)
        | .neq=>K (.bool (!a.isNone))
        | _=>False
      | _=>False
    | _=>False
  | .slice a _ _=>match y with
    | .slice none _ _=>match P.underlying t with
      | some (.slice _)=>match op with
        | .eql=>K (.bool a.isNone)
        | .neq=>K (.bool (!a.isNone))
        | _=>False
      | _=>False
    | _=>False
  | .map a=>match y with
    | .map none=>match P.underlying t with
      | some (.map _ _)=>match op with
        | .eql=>K (.bool a.isNone)
        | .neq=>K (.bool (!a.isNone))
        | _=>False
      | _=>False
    | _=>False
  | .float k a=>match y with
    | .float k' b=>Xr k (Xr k' (evFlt op a b K))
    | _=>False
  | _=>False
def evEqF(P:Program)(xs d:List Value):List Field->(Bool->Prop)->Prop
  | [],K=>K true
  | f::r,K=>match f.name != "_" with
    | true=>match P.underlying f.type with
      | some (.int _)=>match xs[f.offset]? with
        | some (.int k a)=>match d[f.offset]? with
          | some (.int k' b)=>sameK k k' (evEqF P xs d r λt=>K ((a==b)&&t))
          | _=>False
        | _=>False
      | some .bool=>match xs[f.offset]? with
        | some (.bool a)=>match d[f.offset]? with
          | some (.bool b)=>evEqF P xs d r λt=>K ((a==b)&&t)
          | _=>False
        | _=>False
      | _=>False
    | false=>False
def evEqS(P:Program)(op:BinOp)(t:TypeId)(xs d:List Value)(K:Value->Prop):Prop:=
  match P.underlying t with
  | some (.struct fs)=>match P.stoodInHeld t with
    | false=>match P.eqGuardType P.depth t with
      | false=>match op with
        | .eql=>evEqF P xs d fs.toList λr=>K (.bool r)
        | .neq=>evEqF P xs d fs.toList λr=>K (.bool (!r))
        | _=>False
      | true=>False
    | true=>False
  | _=>False
def isIf:Value->Bool
  | .iface .. =>true
  | .nilIface=>true
  | _=>false
def isNilI:Value->Bool
  | .nilIface=>true
  | _=>false
def evBin(P:Program)(op:BinOp)(t:TypeId)(x y:Value)(K:Value->Prop):Prop:=
  match y with
  | .nilIface=>match P.underlying t with
    | some (.interface ms)=>match ms.isEmpty with
      | true=>match op with
        | .eql=>isIf x=true/\K (.bool (isNilI x))
        | .neq=>isIf x=true/\K (.bool (!isNilI x))
        | _=>False
      | false=>False
    | _=>False
  | .nilFunc=>match P.underlying t with
    | some (.func _ _ _)=>match op with
      | .eql=>isFn x=true/\K (.bool (isNilF x))
      | .neq=>isFn x=true/\K (.bool (!isNilF x))
      | _=>False
    | _=>False
  | .agg ys=>match x with
    | .agg xs=>evEqS P op t xs.toList ys.toList K
    | _=>False
  | y=>evBin0 P op t x y K
def evBinT(P:Program)(op:BinOp)(t:TypeId)(x y:Value)(K:Value->Prop):Prop:=
  match x with
  | .pointer a=>match y with
    | .pointer b=>match P.underlying t with
      | some (.pointer e)=>szK P e λ_=>match op with
        | .eql=>wB a b λr=>K (.bool r)
        | .neq=>wB a b λr=>K (.bool (!r))
        | _=>False
      | _=>False
    | _=>evBin P op t x y K
  | _=>evBin P op t x y K
def evUn(op:UnOp)(x:Value)(K:Value->Prop):Prop:=
  match op,x with
  | .not,.bool b=>K (.bool (!b))
  | .neg,.int k n=>K (.int k (k.wrap (0-n)))
  | .xor,.int k n=>K (.int k (k.wrap (BitVec.ofInt k.bits (if k.signed then-1 else k.max)^^^BitVec.ofInt k.bits n).toNat))
  | _,_=>False
def evBound(x:Option Value)(lZ top:Nat)(K:Nat->Prop):Prop:=
  match x with
  | none=>K lZ
  | some (.int _ i)=>(0<=i/\i<=top)/\K i.toNat
  | some _=>False
def evPart(P:Program)(t:TypeId)(cs:List Value)(off:Nat)(K:Value->Prop):Prop:=
  aggK P t (K (.agg ⟨(cs.drop off).take (WH P t)⟩)) λ_=>match cs[off]? with
    | some v=>K v
    | none=>False
def F2(a:Option Addr)(c m z:Nat):Option Addr:=if c=m then a else a.map (·.add (m*z))
def u64(n:Int):Int:=IntKind.u64.wrap n
def i64(n:Int):Int:=IntKind.i64.wrap n
def WI(a b:Int):Int:=if b<a then b else a
def SV(a b:Int):Int:=if b>a then b else a
def eZ(k:IntKind)(v:Value)(K:Int->Prop):Prop:=unV (.int k) v K
def rH(v:Value)(K:Aa->Prop):Prop:=unV .sl v K
def Hk{α:Type}(e:α)(K:α->Prop):Prop:=K e
def AL(o:Obj)(w:World)(K:Nat->World->Prop):Prop:=K w.heap.size (w.alloc o)
def fillL(cells:List Value)(off:Nat):List Value->List Value
  | []=>cells
  | v::r=>fillL (cells.set off v) (off+1) r
def WJ(n m:Nat)(X:Prop):Prop:=match Nat.beq n m with|true=>X|false=>False
def KD{n m:Nat}{X:Prop}(h:WJ n m X):n=m/\X:=by
  unfold WJ at h;split at h
  . simp_all
  grind
def leK(n m:Nat)(X:Prop):Prop:=match Nat.ble n m with|true=>X|false=>False
def Xx{n m:Nat}{X:Prop}(h:leK n m X):n<=m/\X:=by
  unfold leK at h;split at h
  . simp_all
  grind
def evFill(places:Nat->Option (Nat×Nat)):List (Nat×Value)->List Value->(List Value->Prop)->Prop
  | [],cells,K=>K cells
  | (i,v)::r,cells,K=>match places i with
    | none=>False
    | some (off,size)=>WJ v.cells.toList.length size (leK (off+size) cells.length (evFill places r (fillL cells off v.cells.toList) K))
def VZ(off:Nat): ∀(vs:List Value) (k:Nat) (cells:Array Value),
    ((vs.zipIdx k).foldl (λcs (c,j)=>cs.setIfInBounds (off+j) c) cells).toList=fillL cells.toList (off+k) vs
  | [],_,_=>rfl
  | v::r,k,cells=>by
    simp only[List.zipIdx_cons,List.foldl_cons,fillL];rw[VZ off r (k+1)]
    grind
def LP{places:Nat->Option (Nat×Nat)}:{parts:List (Nat×Value)}->{cells:Array Value}->{K:List Value->Prop}->
    evFill places parts cells.toList K-> ∃out,K out.toList/\Instr.fill places cells parts=some out
  | [],cells,K,h=>⟨cells,h,rfl⟩
  | (i,v)::r,cells,K,h=>by
    simp only[evFill]at h;cases hp:places i with
    | none=>grind
    | some os=>
      obtain⟨off,size⟩:=os;simp only[hp]at h;obtain⟨h1,h⟩:=KD h;obtain⟨h2,h⟩:=Xx h;have hf:=VZ off v.cells.toList 0 cells;have hz:(v.cells.zipIdx.foldl (λcs (c,j)=>cs.setIfInBounds (off+j) c) cells).toList=fillL cells.toList off v.cells.toList:=by
        rw[<-Array.foldl_toList,Array.toList_zipIdx];omega
      rw[<-hz]at h;obtain⟨out,d,y⟩:=LP h;refine⟨out,d,?_⟩;simp only[Instr.fill,hp]
      grind
def l9(P:Program):List Field->Prop->Prop
  | [],X=>X
  | f::r,X=>szK P f.type λ_=>l9 P r X
def TAS(x:Value)(t:Nat)(z:Value)(K:Value->Bool->Prop):Prop:=match x with
  | .nilIface=>K z false
  | .iface u v=>match Nat.beq u t with
    | true=>K v true
    | false=>K z false
  | _=>False
def mA:List Value->List (Option Addr)
  | []=>[]
  | v::r=>(match v with| .pointer a=>a|_=>none)::mA r
def WK:List Value->Bool
  | []=>true
  | v::r=>match v with
    | .pointer _=>WK r
    | _=>false
def Xy: ∀{l:List Value} {i:Nat},WK l=true->i<l.length->l[i]? =some (.pointer ((mA l).getD i none))
  | v::r,0,h,_=>by cases v<;>first|rfl|cases h
  | v::r,i+1,h,hi=>by
    have d:WK r=true:=by cases v<;>first|exact h|cases h
    have:=Xy d (i:=i) (by grind);simpa[mA]using this
def mB(P:Program)(l:Nat)(e:TypeId)(cs:List Value)(n:Int)(K:Value->Prop):Prop:=match P.underlying e with
  | some (.pointer _)=>szK P e λz=>WJ z 1 (WJ cs.length l (match WK cs with
    | true=>(0<=n/\n<(l:Int))/\K (.pointer ((mA cs).getD n.toNat none))
    | false=>False))
  | _=>False
noncomputable def NO(n:Int):Nat:=O1 (FloatKind.f64.nearest n)
noncomputable def Qr(b:Nat):Option Int:=O1 ((FloatKind.f64.decode b).toInt .zero)
def slL:List Value->List Aa
  | []=>[]
  | v::r=>(match v with| .slice a n c=>⟨a,n,c⟩|_=>⟨none,0,0⟩)::slL r
def e9:List Value->Bool
  | []=>true
  | v::r=>match v with
    | .slice .. =>e9 r
    | _=>false
def fA: ∀{l:List Value} {i:Nat},e9 l=true->i<l.length->l[i]? =some (.slice ((slL l).getD i ⟨none,0,0⟩).base ((slL l).getD i ⟨none,0,0⟩).len ((slL l).getD i ⟨none,0,0⟩).cap)
  | v::r,0,h,_=>by cases v<;>first|rfl|cases h
  | v::r,i+1,h,hi=>by
    have d:e9 r=true:=by cases v<;>first|exact h|cases h
    have:=fA d (i:=i) (by grind);simpa[slL]using this
def aR(P:Program)(l:Nat)(e:TypeId)(cs:List Value)(n:Int)(K:Value->Prop):Prop:=match P.underlying e with
  | some (.slice _)=>szK P e λz=>WJ z 1 (WJ cs.length l (match e9 cs with
    | true=>(0<=n/\n<(l:Int))/\Hk ((slL cs).getD n.toNat ⟨none,0,0⟩) λs=>K (.slice s.base s.len s.cap)
    | false=>False))
  | _=>False
def mC(s:ByteArray)(n:Int)(K:Int->Prop):Prop:=0<=n/\ ∃b,s[n.toNat]? =some b/\K (b.toNat:Int)
def evPure(P:Program)(o:Op)(ty:TypeId)(ρ:Operand->Value)(K:Value->Prop):Prop:=
  match o with
  | .move x| .assign x=>K (ρ x)
  | .pick c a b=>match ρ c with
    | .bool t=>K (bif t then ρ a else ρ b)
    | _=>False
  | .nilCheck x=>match ρ x with
    | .pointer a=>NC a λp=>K (.pointer (some p))
    | _=>False
  | .binOp op t x y _=>match y with
    | .tmp _=>evBinT P op t (ρ x) (ρ y) K
    | _=>evBin P op t (ρ x) (ρ y) K
  | .unOp op _ x=>evUn op (ρ x) K
  | .convert s d x=>match P.underlying s,P.underlying d,ρ x with
    | some (.int _),some (.int k),.int _ n=>K (.int k (k.wrap n))
    | some (.int _),some (.float k),.int _ n=>Xr k (K (.float .f64 (NO n)))
    | some (.float _),some (.int k),.float k' b=>Xr k' (∃n,Qr b=some n/\(k.min<=n/\n<=k.max)/\K (.int k n))
    | _,_,_=>False
  | .makeFunc fn fi ca=>K (.func fn (fi.map ρ) (ca.map ρ))
  | .fieldAddr s x i=>match P.underlying s with
    | some (.struct fs)=>match fs[i]? with
      | some f=>szK P f.type λ_=>match ρ x with
        | .pointer a=>NC a λp=>K (.pointer (some (p.add f.offset)))
        | _=>False
      | none=>False
    | _=>False
  | .field t x i=>match P.underlying t with
    | some (.struct fs)=>match fs[i]? with
      | some f=>match ρ x with
        | .agg cs=>evPart P f.type cs.toList f.offset K
        | _=>False
      | none=>False
    | _=>False
  | .indexAddr t x i=>match ρ i with
    | .int _ n=>match P.underlying t with
      | some (.slice e)=>szK P e λz=>match ρ x with
        | .slice b l _=>NC b λa=>(0<=n/\n<(l:Int))/\K (.pointer (some (a.add (n.toNat*z))))
        | _=>False
      | some (.array l e)=>szK P e λz=>match ρ x with
        | .pointer b=>NC b λa=>(0<=n/\n<(l:Int))/\K (.pointer (some (a.add (n.toNat*z))))
        | _=>False
      | _=>False
    | _=>False
  | .build t parts=>match K8 P t with
    | some z=>match P.underlying t with
      | some (.struct fs)=>l9 P fs.toList (evFill (λi=>(fs[i]?).map λf=>(f.offset,WH P f.type)) ((parts.map λ(i,x)=>(i,ρ x)).toList) z.cells.toList λl=>K (.agg ⟨l⟩))
      | some (.array _ e)=>szK P e λn=>evFill (λi=>some (i*n,n)) ((parts.map λ(i,x)=>(i,ρ x)).toList) z.cells.toList λl=>K (.agg ⟨l⟩)
      | _=>False
    | none=>False
  | .extract x i=>match ρ x with
    | .tuple vs=>match vs.toList[i]? with
      | some v=>unVT (aQ P ty) v λx=>K (mkVT (aQ P ty) x)
      | none=>False
    | _=>False
  | .slice t x lo hi none=>match P.underlying t with
    | some (.slice e)=>szK P e λz=>match ρ x with
      | .slice a l c=>evBound (hi.map ρ) l c λh=>evBound (lo.map ρ) 0 h λm=>K (.slice (if c=m then a else a.map (·.add (m*z))) (h-m) (c-m))
      | _=>False
    | some (.array n e)=>szK P e λz=>match ρ x with
      | .pointer a=>NC a λp=>evBound (hi.map ρ) n n λh=>evBound (lo.map ρ) 0 h λm=>K (.slice (some (if n=m then p else p.add (m*z))) (h-m) (n-m))
      | _=>False
    | _=>False
  | .makeInterface t x=>match P.underlying t with
    | some (.interface _)=>False
    | some _=>K (.iface t (ρ x))
    | none=>False
  | .typeAssert x _ asserted true=>match P.underlying asserted with
    | some (.interface _)=>False
    | some _=>match K8 P asserted with
      | some z=>TAS (ρ x) asserted z λv b=>K (.tuple #[v,.bool b])
      | none=>False
    | none=>False
  | .call c=>match c.callee with
    | .builtin .len=>match c.args.toList with
      | [x]=>match ρ x with
        | .slice _ n _=>match(c.argTypes.toList.head?).bind P.underlying with
          | some (.slice _)=>K (.int .i64 n)
          | _=>False
        | _=>False
      | _=>False
    | .builtin .min=>match c.args.toList with
      | [x,y]=>match ρ x with
        | .int k a=>match ρ y with
          | .int _ b=>K (.int k (if b<a then b else a))
          | _=>False
        | _=>False
      | [x,y,z]=>match ρ x with
        | .int k a=>match ρ y with
          | .int _ b=>match ρ z with
            | .int _ d=>K (.int k (WI (WI a b) d))
            | _=>False
          | _=>False
        | _=>False
      | _=>False
    | .builtin .max=>match c.args.toList with
      | [x,y]=>match ρ x with
        | .int k a=>match ρ y with
          | .int _ b=>K (.int k (if b>a then b else a))
          | _=>False
        | _=>False
      | [x,y,z]=>match ρ x with
        | .int k a=>match ρ y with
          | .int _ b=>match ρ z with
            | .int _ d=>K (.int k (SV (SV a b) d))
            | _=>False
          | _=>False
        | _=>False
      | _=>False
    | _=>False
  | .index t x i=>match P.underlying t with
    | some (.array l e)=>match ρ x with
      | .agg cs=>match ρ i with
        | .int _ n=>match P.underlying e with
          | some (.slice _)=>aR P l e cs.toList n K
          | _=>mB P l e cs.toList n K
        | _=>False
      | _=>False
    | some .string=>match ρ x with
      | .string s=>match ρ i with
        | .int _ n=>mC s n λb=>K (.int .u8 b)
        | _=>False
      | _=>False
    | _=>False
  | _=>False
def Ag{P:Program}{t:TypeId}{d:TypeDesc}(h:P.underlying t=some d)(w:World):(underlying t).run P w= .ok d w:=by
  simp[underlying,h]
def Xz{P:Program}{t:TypeId}(h:(P.info? t).isSome=true)(w:World):(sizeOf t).run P w= .ok (WH P t) w:=by
  obtain⟨i,d⟩:=Option.isSome_iff_exists.1 h;simp[sizeOf,typeInfo,d,WH,Program.cellsOf]
def X0{P:Program}{op:BinOp}{k:IntKind}{a b:Int}{K:Value->Prop}(h:evInt op k a b K)(d:op≠ .shl/\op≠ .shr)(t:TypeId):
    ∃v,K v/\ ∀w,(binOp op t (.int k a) (.int k b)).run P w= .ok v w:=by
  cases op<;>simp only[evInt]at h<;>
    first
      | exact h.elim
      | exact(d.1 rfl).elim
      | exact(d.2 rfl).elim
      | exact⟨_,h,λw=>by simp[binOp,Op.intArith,Op.intCmp,Op.intBits]⟩
      | (obtain⟨h0,h⟩:=h;exact⟨_,h,λw=>by simp[binOp,Op.intDiv,h0]⟩)
def SX(P:Program)(d:Nat){t:TypeId}(w:World):
    (∀e a,P.underlying t=some (.pointer e)->(Op.equalIn (d+1) t (.pointer a) (.pointer none)).run P w= .ok a.isNone w)/\
    (∀e a n c v j,P.underlying t=some (.slice e)->(Op.equalIn (d+1) t (.slice a n c) (.slice none v j)).run P w= .ok a.isNone w)/\
    (∀k e a,P.underlying t=some (.map k e)->(Op.equalIn (d+1) t (.map a) (.map none)).run P w= .ok a.isNone w):=by
  refine⟨λe a h=> ?_,λe a n c v j h=> ?_,λk e a h=> ?_⟩<;>cases a<;>simp[Op.equalIn,Ag h]
def GF(P:Program){t:TypeId}(w:World):
    (∀e a,P.underlying t=some (.pointer e)->(Op.equal t (.pointer a) (.pointer none)).run P w= .ok a.isNone w)/\
    (∀e a n c j d,P.underlying t=some (.slice e)->(Op.equal t (.slice a n c) (.slice none j d)).run P w= .ok a.isNone w)/\
    (∀k e a,P.underlying t=some (.map k e)->(Op.equal t (.map a) (.map none)).run P w= .ok a.isNone w):=
  SX P 9999 w
def WL{P:Program}{op:BinOp}{t:TypeId}{x y:Value}{K:Value->Prop}(h:evBin0 P op t x y K):
    ∃v,K v/\ ∀w,(binOp op t x y).run P w= .ok v w:=by
  unfold evBin0 at h;split at h
  . split at h
    . split at h
      . obtain⟨h0,h⟩:=h;refine⟨_,h,λw=> ?_⟩;have: ¬(‹Int› :Int)<0:=by omega
        simp[binOp,Op.shift,Int.not_lt.2 h0]
      . obtain⟨h0,h⟩:=h;exact⟨_,h,λw=>by simp[binOp,Op.shift,Int.not_lt.2 h0]⟩
      . rename_i h1 h2;obtain⟨rfl,J⟩:=F1 h;exact X0 J ⟨λe=>h1 e,λe=>h2 e⟩ t
    grind
  . split at h
    . split at h
      . rename_i ht;split at h
        . exact⟨_,h,λw=>run_eql_bool w t _ _ ht⟩
        . exact⟨_,h,λw=>run_neq_bool w t _ _ ht⟩
        grind
      grind
    grind
  . split at h
    . split at h
      . rename_i ht;have O:P.underlying t=some (.pointer (P.pointee t)):=by simp[Program.pointee,ht]
        rename_i a _ _ _ _;split at h
        . refine⟨_,h,λw=> ?_⟩;simp only[binOp]
          first
            | simp[(GF P w).1 _ _ ht]
            | simp[(GF P w).2.1 _ _ _ _ _ _ ht]
            | simp[(GF P w).2.2 _ _ _ ht]
        . refine⟨_,h,λw=> ?_⟩;simp only[binOp]
          first
            | simp[(GF P w).1 _ _ ht]
            | simp[(GF P w).2.1 _ _ _ _ _ _ ht]
            | simp[(GF P w).2.2 _ _ _ ht]
        grind
      grind
    grind
  . split at h
    . split at h
      . rename_i ht;rename_i a _ _ _ _ _ _ _ _;split at h
        . refine⟨_,h,λw=> ?_⟩;simp only[binOp]
          first
            | simp[(GF P w).1 _ _ ht]
            | simp[(GF P w).2.1 _ _ _ _ _ _ ht]
            | simp[(GF P w).2.2 _ _ _ ht]
        . refine⟨_,h,λw=> ?_⟩;simp only[binOp]
          first
            | simp[(GF P w).1 _ _ ht]
            | simp[(GF P w).2.1 _ _ _ _ _ _ ht]
            | simp[(GF P w).2.2 _ _ _ ht]
        grind
      grind
    grind
  . split at h
    . split at h
      . rename_i ht;rename_i a _ _ _ _ _;split at h
        . refine⟨_,h,λw=> ?_⟩;simp only[binOp]
          first
            | simp[(GF P w).1 _ _ ht]
            | simp[(GF P w).2.1 _ _ _ _ _ _ ht]
            | simp[(GF P w).2.2 _ _ _ ht]
        . refine⟨_,h,λw=> ?_⟩;simp only[binOp]
          first
            | simp[(GF P w).1 _ _ ht]
            | simp[(GF P w).2.1 _ _ _ _ _ _ ht]
            | simp[(GF P w).2.2 _ _ _ ht]
        grind
      grind
    grind
  . split at h
    . obtain⟨d,h⟩:=KC h;obtain⟨j,h⟩:=KC h;subst d;subst j;unfold evFlt at h;split at h
      . exact⟨_,h,λw=>by simp[binOp,Op.floatCmp,Dq,Kg]⟩
      . exact⟨_,h,λw=>by simp[binOp,Op.floatCmp,Dq,Kg]⟩
      . exact⟨_,h,λw=>by simp[binOp,Op.floatCmp,Dq,Kg]⟩
      . exact⟨_,h,λw=>by simp[binOp,Op.floatCmp,Dq,Kg]⟩
      . exact⟨_,h,λw=>by simp[binOp,Op.floatCmp,Dq,Kg]⟩
      . exact⟨_,h,λw=>by simp[binOp,Op.floatCmp,Dq,Kg]⟩
      grind
    grind
  grind
def NP(P:Program){t:TypeId}{y rs:Array TypeId}{J:Bool}{x:Value}(w:World)(j:P.underlying t=some (.func y rs J))(v:isFn x=true):
    (Op.equal t x .nilFunc).run P w= .ok (isNilF x) w:=by
  have key: ∀d,(Op.equalIn (d+1) t x .nilFunc).run P w= .ok (isNilF x) w:=by
    intro d;cases x<;>simp[isFn]at v<;>simp[Op.equalIn,Ag j,isNilF]
  exact key 9999
def NQ(P:Program){t:TypeId}{ms:Array (String×TypeId)}{x:Value}(w:World)(j:P.underlying t=some (.interface ms))(v:isIf x=true):
    (Op.equal t x .nilIface).run P w= .ok (isNilI x) w:=by
  have key: ∀d,(Op.equalIn (d+1) t x .nilIface).run P w= .ok (isNilI x) w:=by
    intro d;cases x<;>simp[isIf]at v<;>simp[Op.equalIn,Ag j,isNilI]
  exact key 9999
def LQ{P:Program}(d:Nat)(xs J:Array Value): ∀(fs:List Field) (K:Bool->Prop),evEqF P xs.toList J.toList fs K->
    ∃r,K r/\ ∀w,(Op.eqFields (d+1) xs J fs).run P w= .ok r w
  | [],K,h=>⟨true,h,λw=>by rfl⟩
  | f::r,K,h=>by
    unfold evEqF at h;split at h
    . rename_i hn;have O:f.name≠ "_" :=by grind
      split at h
      . rename_i ht;split at h
        . rename_i k a hx;split at h
          . rename_i k' b hy;obtain⟨rfl,h2⟩:=F1 h;obtain⟨t,Y,hr⟩:=LQ d xs J r _ h2;have j:xs[f.offset]? =some (.int k a):=by grind
            have y:J[f.offset]? =some (.int k b):=by grind
            refine⟨_,Y,λw=> ?_⟩;have T: ∀(cs:Array Value) v,cs[f.offset]? =some v->(part f.type cs f.offset).run P w= .ok v w:=by
              intro cs v hv;simp[part,isAgg,Ag ht,hv]
            simp only[Op.eqFields,if_pos O,Sem.run_bind,T _ _ j,T _ _ y,Result.andThen_ok,run_equalIn_int w d f.type k _ a b ht];cases hab:(a==b)<;>simp[hr]
          grind
        grind
      . rename_i ht;split at h
        . rename_i a hx;split at h
          . rename_i b hy;obtain⟨t,Y,hr⟩:=LQ d xs J r _ h;have j:xs[f.offset]? =some (.bool a):=by grind
            have y:J[f.offset]? =some (.bool b):=by grind
            refine⟨_,Y,λw=> ?_⟩;have T: ∀(cs:Array Value) v,cs[f.offset]? =some v->(part f.type cs f.offset).run P w= .ok v w:=by
              intro cs v hv;simp[part,isAgg,Ag ht,hv]
            simp only[Op.eqFields,if_pos O,Sem.run_bind,T _ _ j,T _ _ y,Result.andThen_ok,run_equalIn_bool' w d f.type a b ht];cases hab:(a==b)<;>simp[hr]
          grind
        grind
      grind
    grind
def RW{P:Program}{op:BinOp}{t:TypeId}{xs d:Array Value}{K:Value->Prop}(h:evEqS P op t xs.toList d.toList K):
    (∃v,K v/\ ∀w,(binOp op t (.agg xs) (.agg d)).run P w= .ok v w)/\P.eqGuardType P.depth t=false:=by
  unfold evEqS at h;split at h
  . rename_i fs ht;split at h
    . rename_i hp;split at h
      . rename_i hg;refine⟨?_,hg⟩;have hf:P.fieldsOf t=fs:=by simp[Program.fieldsOf,ht]
        have j:P.underlying t=some (.struct (P.fieldsOf t)):=by grind
        split at h
        . obtain⟨r,y,J⟩:=LQ 9998 xs d _ _ h;refine⟨_,y,λw=> ?_⟩;rw[run_eql_struct,run_equalIn_struct w 9999 t xs d j hp,hf,J w];rfl
        . obtain⟨r,y,J⟩:=LQ 9998 xs d _ _ h;refine⟨_,y,λw=> ?_⟩;rw[run_neq_struct,run_equalIn_struct w 9999 t xs d j hp,hf,J w];rfl
        grind
      grind
    grind
  grind
def NR{P:Program}{op:BinOp}{t:TypeId}{x y:Value}{K:Value->Prop}(h:evBin P op t x y K):
    ∃v,K v/\ ∀w,(binOp op t x y).run P w= .ok v w:=by
  unfold evBin at h;split at h
  . split at h
    . rename_i ms ht;split at h
      . split at h
        . obtain⟨d,j⟩:=h;refine⟨_,j,λw=> ?_⟩;have he:=NQ P w ht d;cases x<;>simp[isIf]at d<;>simp[binOp,he]
        . obtain⟨d,j⟩:=h;refine⟨_,j,λw=> ?_⟩;have he:=NQ P w ht d;cases x<;>simp[isIf]at d<;>simp[binOp,he]
        grind
      grind
    grind
  . split at h
    . rename_i ht;split at h
      . obtain⟨d,j⟩:=h;refine⟨_,j,λw=> ?_⟩;have he:=NP P w ht d;cases x<;>simp[isFn]at d<;>simp[binOp,he]
      . obtain⟨d,j⟩:=h;refine⟨_,j,λw=> ?_⟩;have he:=NP P w ht d;cases x<;>simp[isFn]at d<;>simp[binOp,he]
      grind
    grind
  . split at h
    . exact(RW h).1
    grind
  . exact WL h
def KL(P:Program){t e:TypeId}{a b:Option Addr}{n:Nat}(w:World)(j:P.underlying t=some (.pointer e))(y:n≠0)(J:(sizeOf e).run P w= .ok n w){K:Bool->Prop}(h:wB a b K):
    ∃r,K r/\(Op.equal t (.pointer a) (.pointer b)).run P w= .ok r w/\r=(match a,b with|none,b=>b.isNone|some _,none=>false|some p,some q=>p==q):=by
  have key: ∀d,∃r,K r/\(Op.equalIn (d+1) t (.pointer a) (.pointer b)).run P w= .ok r w/\r=(match a,b with|none,b=>b.isNone|some _,none=>false|some p,some q=>p==q):=by
    intro d;cases a with
    | none=>exact⟨_,h,by simp[Op.equalIn,Ag j],rfl⟩
    | some p=>cases b with
      | none=>exact⟨_,h,by simp[Op.equalIn,Ag j],rfl⟩
      | some q=>
        obtain⟨v,h⟩:=h;exact⟨_,h,by simp[Op.equalIn,Ag j,J,y,sameAddr,v],rfl⟩
  exact key 9999
def WM{P:Program}{op:BinOp}{t:TypeId}{x y:Value}{K:Value->Prop}(h:evBinT P op t x y K):
    ∃v,K v/\ ∀w,(binOp op t x y).run P w= .ok v w:=by
  unfold evBinT at h;split at h
  . split at h
    . split at h
      . rename_i e ht;obtain⟨n,h,O,_,T⟩:=GP h;split at h
        . obtain⟨r,Y,_,j⟩:=KL P default ht O (T default) h;refine⟨_,Y,λw=> ?_⟩;obtain⟨r',_,d,J⟩:=KL P w ht O (T w) h;rw[J,<-j]at d;simp[binOp,d]
        . obtain⟨r,Y,_,j⟩:=KL P default ht O (T default) h;refine⟨_,Y,λw=> ?_⟩;obtain⟨r',_,d,J⟩:=KL P w ht O (T w) h;rw[J,<-j]at d;simp[binOp,d]
        grind
      grind
    . exact NR h
  . exact NR h
def O2{P:Program}{op:BinOp}{t:TypeId}{x y:Operand}{a b:Value}{w:World}
    (h: ∀K,evBin P op t a b K->True)(j: ∃K,evBin P op t a b K):(eqGuard op t x y a b).run P w= .ok () w:=by
  obtain⟨K,j⟩:=j;unfold evBin at j;split at j
  . split at j
    . rename_i ms ht;split at j
      . rename_i hms;have O: ∀d,(Op.eqGuardIn (d+1) t .nilIface .nilIface).run P w= .ok false w:=λd=>by simp[Op.eqGuardIn,Ag ht,hms]
        have v:(Op.eqGuardIn Op.maxDepth t .nilIface .nilIface).run P w= .ok false w:=O 9999;split at j<;>first
          | exact j.elim
          | (obtain⟨J,_⟩:=j
             cases a<;>simp[isIf]at J
             all_goals first
               | rfl
               | (simp[eqGuard,v];done)
               | (simp[eqGuard,v];split<;>rfl)
               | (simp only[eqGuard];split<;>simp[v]))
      grind
    grind
  . split at j
    . split at j<;>first
        | exact j.elim
        | (obtain⟨J,_⟩:=j;cases a<;>simp[isFn]at J<;>rfl)
    grind
  . split at j
    . exact run_eqGuard_agg w op t x y _ _ (RW j).2
    grind
  . unfold evBin0 at j;split at j<;>first
      | exact j.elim
      | (cases op<;>rfl)
def Va{P:Program}{x:Option Value}{d top:Nat}{K:Nat->Prop}(h:evBound x d top K)(code:BoundsCode):
    (∃n,K n/\ ∀w,(match x with|some v=>Instr.sliceBound v top code|none=>pure d:Sem Nat).run P w= .ok n w):=by
  unfold evBound at h;split at h
  . exact⟨_,h,λw=>by simp⟩
  . obtain⟨⟨h0,h1⟩,h⟩:=h;exact⟨_,h,λw=>by simp[Instr.sliceBound,asIntOf,h0,h1]⟩
  grind
def TH{P:Program}{isS:Bool}{l c:Nat}{lo j:Option Value}{K:Nat->Nat->Prop}
    (h:evBound j l c λh=>evBound lo 0 h λm=>K h m):
    ∃h m,K h m/\ ∀w,(Instr.sliceBounds isS l c lo j none).run P w= .ok (m,h,c) w:=by
  obtain⟨n,d,y⟩:=Va (P:=P) h (if isS then .sliceAcap else .sliceAlen);obtain⟨m,d,v⟩:=Va (P:=P) d .sliceB;refine⟨n,m,d,λw=> ?_⟩;have h1:=y w;have h2:=v w;cases j<;>cases lo<;>simp_all[Instr.sliceBounds]
def TI{P:Program}{t:TypeId}{cs:Array Value}{off:Nat}{K:Value->Prop}(h:evPart P t cs.toList off K):
    ∃v,K v/\ ∀w,(part t cs off).run P w= .ok v w:=by
  obtain⟨J,h|h⟩:=VY h
  . obtain⟨h,j⟩:=h;refine⟨_,h,λw=> ?_⟩;simp[part,j,Xz J]
    grind
  . obtain⟨d,hd,h,j⟩:=h;split at h
    . rename_i v hv;have y:cs[off]? =some v:=by grind
      exact⟨_,h,λw=>by simp[part,j,y]⟩
    grind
def Fw{P:Program}{t:TypeId}{z:Value}(h:K8 P t=some z)(w:World):(zeroValue t).run P w= .ok z w:=by
  unfold K8 at h;cases hi:P.info? t with
  | none=>grind
  | some i=>simp[hi]at h;simp[zeroValue,typeInfo,hi,h]
def TJ{P:Program}:{d:List Field}->{X:Prop}->l9 P d X->X/\ ∀f∈d,∀w,(sizeOf f.type).run P w= .ok (WH P f.type) w
  | [],_,h=>⟨h,by simp⟩
  | f::r,X,h=>by
    obtain⟨n,h2,_,J,K⟩:=GP h;obtain⟨j,v⟩:=TJ h2;refine⟨j,λg y w=> ?_⟩
    grind
def run_places{P:Program}(j:Array Field)(h: ∀f∈j.toList,∀w,(sizeOf f.type).run P w= .ok (WH P f.type) w)(w:World):
    (j.mapM λf=>do pure (f.offset,<-sizeOf f.type):Sem (Array (Nat×Nat))).run P w= .ok (j.map λf=>(f.offset,WH P f.type)) w:=by
  have key: ∀(l:List Field),(∀f∈l,∀w,(sizeOf f.type).run P w= .ok (WH P f.type) w)->
      (l.mapM (λf=>do pure (f.offset,<-sizeOf f.type):Field->Sem (Nat×Nat))).run P w= .ok (l.map λf=>(f.offset,WH P f.type)) w:=by
    intro l
    induction l with
    | nil=>intro _;simp
    | cons f r ih=>
      intro h;have d:=ih (λg v=>h g (by simp[v]));simp only[bind_pure_comp]at d;simp[List.mapM_cons,h f (by simp),d]
  have hk:=key j.toList h;rw[Array.mapM_eq_mapM_toList];simp only[Sem.run_map,hk,Result.andThen_ok];congr 1
  grind
def iG{a b:Nat}(h:Nat.beq a b=false): ¬a=b:=λe=>by rw[e,Nat.beq_refl]at h;cases h
def rJ{P:Program}{l:Nat}{e:TypeId}{cs:Array Value}{n:Int}{K:Value->Prop}(h:mB P l e cs.toList n K):
    ∃v,K v/\(0<=n/\n<(l:Int))/\ ∀w,(sizeOf e).run P w= .ok 1 w/\(part e cs (n.toNat*1)).run P w= .ok v w:=by
  unfold mB at h;split at h
  . rename_i u hu;obtain⟨z,J,hz,_,hr⟩:=GP h;have j:=KD J;have y:=KD j.2;have h1:=j.1;have h2:=y.1;have h:=y.2;subst h1;split at h
    . rename_i hp;obtain⟨T,h⟩:=h;have Y:=Xy hp (i:=n.toNat) (by omega);have d:evPart P e cs.toList (n.toNat*1) λv=>v= .pointer ((mA cs.toList).getD n.toNat none):=by
        unfold evPart aggK
        grind
      obtain⟨v,hv,O⟩:=TI d
      grind
    grind
  grind
def mD{P:Program}{l:Nat}{e:TypeId}{cs:Array Value}{n:Int}{K:Value->Prop}(h:aR P l e cs.toList n K):
    ∃v,K v/\(0<=n/\n<(l:Int))/\ ∀w,(sizeOf e).run P w= .ok 1 w/\(part e cs (n.toNat*1)).run P w= .ok v w:=by
  unfold aR at h;split at h
  . rename_i u hu;obtain⟨z,O,hz,_,Y⟩:=GP h;have y:=KD O;have J:=KD y.2;have h1:=y.1;have h2:=J.1;have h:=J.2;subst h1;split at h
    . rename_i hp;obtain⟨T,h⟩:=h;have hg:=fA hp (i:=n.toNat) (by omega);have d:evPart P e cs.toList (n.toNat*1) λv=>v= .slice ((slL cs.toList).getD n.toNat ⟨none,0,0⟩).base ((slL cs.toList).getD n.toNat ⟨none,0,0⟩).len ((slL cs.toList).getD n.toNat ⟨none,0,0⟩).cap:=by
        unfold evPart aggK
        grind
      obtain⟨v,hv,j⟩:=TI d;subst hv;exact⟨_,h,T,λw=>⟨Y w,j w⟩⟩
    grind
  grind
def X1{P:Program}{op:BinOp}{t:TypeId}{x y:Operand}{a b:Value}{w:World}{K:Value->Prop}(h:evBinT P op t a b K):
    (eqGuard op t x y a b).run P w= .ok () w:=by
  unfold evBinT at h;split at h
  . split at h
    . unfold eqGuard;cases op<;>simp
    . exact O2 (λ_ _=>trivial) ⟨_,h⟩
  . exact O2 (λ_ _=>trivial) ⟨_,h⟩
def PX{P:Program}{o:Oper}{ρ:Operand->Value}{K:Value->Prop}(h:evPure P o.op o.type ρ K):
    ∃v,K v/\ ∀w,(execOp ρ o).run P w= .ok (.value v) w:=by
  obtain⟨dst,op,type,pos,after,guard⟩:=o;simp only at h;unfold evPure at h;split at h
  case h_1=>exact⟨_,h,λw=>by simp[execOp]⟩
  case h_2=>exact⟨_,h,λw=>by simp[execOp]⟩
  case h_3=>
    split at h
    . rename_i J;exact⟨_,h,λw=>by simp[execOp,J,asBool,cond_eq_ite]⟩
    grind
  case h_4=>
    split at h
    . rename_i J;obtain⟨p,rfl,h⟩:=Iy h;exact⟨_,h,λw=>by simp[execOp,J]⟩
    grind
  case h_5=>
    split at h
    . have Y: ∀x y w,(eqGuard _ _ x y _ _).run P w= .ok () w:=λx y w=>X1 h;obtain⟨v,O,j⟩:=WM h;exact⟨v,O,λw=>by simp[execOp,j,Y]⟩
    . have Y: ∀x y w,(eqGuard _ _ x y _ _).run P w= .ok () w:=λx y w=>O2 (λ_ _=>trivial) ⟨_,h⟩;obtain⟨v,O,j⟩:=NR h;exact⟨v,O,λw=>by simp[execOp,j,Y]⟩
  case h_6=>
    unfold evUn at h;split at h
    . rename_i hx;exact⟨_,h,λw=>by simp[execOp,Op.unary,hx]⟩
    . rename_i hx;exact⟨_,h,λw=>by simp[execOp,Op.unary,hx,Op.intArith]⟩
    . rename_i hx;exact⟨_,h,λw=>by simp[execOp,Op.unary,hx,Op.intBits]⟩
    grind
  case h_7=>
    split at h
    . rename_i hs hd hx;exact⟨_,h,λw=>by simp[execOp,convert,Ag hs,Ag hd,hx,Conv.intToInt]⟩
    . rename_i hs hd hx;obtain⟨e,h⟩:=KC h;subst e;exact⟨_,h,λw=>by simp[execOp,convert,Ag hs,Ag hd,hx,Conv.intToFloat,NO,Kg]⟩
    . rename_i hs hd hx;obtain⟨e,h⟩:=KC h;subst e;obtain⟨n,h1,h2,h⟩:=h;unfold Qr at h1;rw[Kg]at h1;exact⟨_,h,λw=>by simp[execOp,convert,Ag hs,Ag hd,hx,Conv.floatToInt,h1,h2]⟩
    grind
  case h_8=>exact⟨_,h,λw=>by simp[execOp,Instr.makeFunc]⟩
  case h_9=>
    split at h
    . rename_i hs;split at h
      . rename_i f hf;obtain⟨z,h,hz,_,j⟩:=GP h;split at h
        . rename_i hx;obtain⟨p,rfl,h⟩:=Iy h;exact⟨_,h,λw=>by simp[execOp,Instr.fieldAt,Ag hs,hf,hx,Instr.sureAddr,fieldPlace,j,hz]⟩
        grind
      grind
    grind
  case h_10=>
    split at h
    . rename_i hs;split at h
      . rename_i f hf;split at h
        . rename_i hx;obtain⟨v,O,j⟩:=TI h;exact⟨_,O,λw=>by simp[execOp,Instr.field,Ag hs,hf,hx,asAgg,j]⟩
        grind
      grind
    grind
  case h_11=>
    split at h
    . rename_i hi;split at h
      . rename_i ht;obtain⟨z,h,hz,_,j⟩:=GP h;split at h
        . rename_i hx;obtain⟨p,rfl,h1,h⟩:=Iy h;exact⟨_,h,λw=>by simp[execOp,Instr.indexAt,Ag ht,hi,hx,asIntOf,j,h1]⟩
        grind
      . rename_i ht;obtain⟨z,h,hz,_,j⟩:=GP h;split at h
        . rename_i hx;obtain⟨p,rfl,h1,h⟩:=Iy h;exact⟨_,h,λw=>by simp[execOp,Instr.indexAt,Ag ht,hi,hx,asIntOf,Instr.sureAddr,j,h1]⟩
        grind
      grind
    grind
  case h_12=>
    split at h
    . rename_i z hz;have aA:=Fw hz;split at h
      . rename_i fs hs;obtain⟨h2,aC⟩:=TJ h;obtain⟨out,O,hf⟩:=LP h2;refine⟨_,O,λw=> ?_⟩;have hp:=run_places fs aC w;have Y:(λi:Nat=>Option.map (λf:Field=>(f.offset,WH P f.type)) fs[i]?)=λi:Nat=>(fs.map λf:Field=>(f.offset,WH P f.type))[i]? :=by grind
        rw[Y]at hf;simp[execOp,Instr.build,aA,Ag hs];simp at hp hf;simp[hp,hf]
      . rename_i hs;obtain⟨n,h2,_,hn,j⟩:=GP h;obtain⟨out,O,hf⟩:=LP h2;refine⟨_,O,λw=> ?_⟩;simp at hf;simp[execOp,Instr.build,aA,Ag hs,j,hf]
      grind
    grind
  case h_13=>
    split at h
    . rename_i vs hx;split at h
      . rename_i v hv;rw[Array.getElem?_toList]at hv;obtain⟨u,rfl,h2⟩:=Qo h;exact⟨_,h2,λw=>by simp[execOp,Instr.extract,hx,hv]⟩
      grind
    grind
  case h_14=>
    split at h
    . rename_i ht;obtain⟨z,h,hz,_,j⟩:=GP h;split at h
      . rename_i hx;obtain⟨hh,m,O,J⟩:=TH (P:=P) (isS:=true) h;refine⟨_,O,λw=> ?_⟩;simp[execOp,Instr.sliceAt,Instr.slice,Ag ht,hx,J,j]
      grind
    . rename_i ht;obtain⟨z,h,hz,_,j⟩:=GP h;split at h
      . rename_i hx;obtain⟨p,rfl,h2⟩:=Iy h;obtain⟨hh,m,O,J⟩:=TH (P:=P) (isS:=false) h2;refine⟨_,O,λw=> ?_⟩;simp[execOp,Instr.sliceAt,Ag ht,hx,J,j,Instr.sureAddr]
      grind
    grind
  case h_15=>
    split at h
    . grind
    . rename_i d hni hd;refine⟨_,h,λw=> ?_⟩;cases d<;>first
        | (simp[execOp,Instr.makeInterface,Ag hd];done)
        | grind
    grind
  case h_16=>
    split at h
    . grind
    . rename_i d hni hd;split at h
      . rename_i z hz;unfold TAS at h;split at h
        . rename_i hx;refine⟨_,h,λw=> ?_⟩;cases d<;>first
            | (simp[execOp,Instr.typeAssert,Ag hd,hx,Fw hz];done)
            | exact(hni _ rfl).elim
        . rename_i t v hx;split at h
          . rename_i J;have J:=Nat.eq_of_beq_eq_true J;refine⟨_,h,λw=> ?_⟩;cases d<;>first
              | (simp[execOp,Instr.typeAssert,Ag hd,hx,J];done)
              | grind
          . rename_i J;have J:=iG J;refine⟨_,h,λw=> ?_⟩;cases d<;>first
              | (simp[execOp,Instr.typeAssert,Ag hd,hx,J,Fw hz];done)
              | grind
        grind
      grind
    grind
  case h_17 c=>
    obtain⟨callee,args,argTypes⟩:=c;simp only at h;split at h
    . split at h
      . rename_i ha;split at h
        . rename_i hx;split at h
          . rename_i ht;have T:args= #[_]:=Array.toList_inj.1 (by omega);subst T;cases hT:argTypes.toList with
            | nil=>grind
            | cons t r=>
              have aB:argTypes[0]? =some t:=by simp[<-Array.getElem?_toList,hT]
              simp[hT]at ht;exact⟨_,h,λw=>by simp[execOp,resolve,invoke,builtin,Builtin.len_,aB,hx,Ag ht,goInt]⟩
          grind
        grind
      grind
    . split at h
      . rename_i ha;split at h
        . rename_i hx;split at h
          . rename_i hy;have T:args= #[_,_]:=Array.toList_inj.1 (by omega);subst T;exact⟨_,h,λw=>by simp[execOp,resolve,invoke,builtin,Builtin.min_,Builtin.min2,hx,hy]⟩
          grind
        grind
      . rename_i ha;split at h
        . rename_i hx;split at h
          . rename_i hy;split at h
            . rename_i hz;have T:args= #[_,_,_]:=Array.toList_inj.1 (by omega);subst T;exact⟨_,h,λw=>by simp[execOp,resolve,invoke,builtin,Builtin.min_,Builtin.min2,hx,hy,hz];rfl⟩
            grind
          grind
        grind
      grind
    . split at h
      . rename_i ha;split at h
        . rename_i hx;split at h
          . rename_i hy;have T:args= #[_,_]:=Array.toList_inj.1 (by omega);subst T;exact⟨_,h,λw=>by simp[execOp,resolve,invoke,builtin,Builtin.max_,Builtin.max2,hx,hy]⟩
          grind
        grind
      . rename_i ha;split at h
        . rename_i hx;split at h
          . rename_i hy;split at h
            . rename_i hz;have T:args= #[_,_,_]:=Array.toList_inj.1 (by omega);subst T;exact⟨_,h,λw=>by simp[execOp,resolve,invoke,builtin,Builtin.max_,Builtin.max2,hx,hy,hz];rfl⟩
            grind
          grind
        grind
      grind
    grind
  case h_18=>
    split at h
    . rename_i l e ht;split at h
      . rename_i cs hx;split at h
        . rename_i kk n hi;split at h
          . obtain⟨v,O,J,j⟩:=mD h;refine⟨v,O,λw=> ?_⟩;have h1:=(j w).1;have h2:=(j w).2;rw[Nat.mul_one]at h2;simp[execOp,Instr.index,Ag ht,hi,hx,asIntOf,J,h1,h2]
          . obtain⟨v,O,J,j⟩:=rJ h;refine⟨v,O,λw=> ?_⟩;have h1:=(j w).1;have h2:=(j w).2;rw[Nat.mul_one]at h2;simp[execOp,Instr.index,Ag ht,hi,hx,asIntOf,J,h1,h2]
        grind
      grind
    . rename_i ht;split at h
      . rename_i s hx;split at h
        . rename_i kk n hi;obtain⟨h0,b,J,O⟩:=h;exact⟨_,O,λw=>by simp[execOp,Instr.index,Ag ht,hi,hx,asIntOf,h0,J]⟩
        grind
      grind
    grind
  grind
abbrev HB:=World->Prop
def HB.all:HB:=λ_=>True
def HB.cell(p:Addr)(v:Value):HB:=λw=>w.cell? p=some v
def HB.and(a b:HB):HB:=λw=>a w/\b w
def HB.obj(r:Option Nat)(es:Array MapEntry):HB:=λw=>match r with
 | none=>es= #[]
 | some b=> ∃c,w.heap[b]? =some (.map es c)
def WN:List Ty->Addr->Nat->World->(List Value->HB->Prop)->Prop
 | [],_,_,_,K=>K [] HB.all
 | t::r,p,i,w,K=> ∃x:vA t,w.cell? (p.add i)=some (mkV t x)/\WN r p (i+1) w λl S=>K (mkV t x::l) (HB.and (HB.cell (p.add i) (mkV t x)) S)
def aS(P:Program)(t:TypeId)(p:Addr)(w:World)(K:Value->HB->Prop):Prop:=
 aggK P t (WJ (lY P 12 t).length (WH P t) (WN (lY P 12 t) p 0 w λl S=>K (.agg ⟨l⟩) S))
  λd=> ∃x:vA (wA d),w.cell? p=some (mkV (wA d) x)/\K (mkV (wA d) x) (HB.cell p (mkV (wA d) x))
abbrev Vb(w:World)(r:Option Nat)(es:Array MapEntry):Prop:=HB.obj r es w
def Mz(k:IntKind)(n:Int)(es:Array MapEntry)(res:Option (Nat×Value)):Prop:=
 Instr.findNow (.int k) (.int k n) es.toList 0=some res
def keyK(P:Program):Nat->List Field->List Value->Prop->Prop
 | _,[],[],X=>X
 | j,f::r,v::s,X=>match Nat.beq f.offset j with
  | true=>match f.name != "_" with
   | true=>match P.underlying f.type with
    | some (.int k)=>match v with
     | .int k' _=>sameK k k' (keyK P (j+1) r s X)
     | _=>False
    | some .bool=>match v with
     | .bool _=>keyK P (j+1) r s X
     | _=>False
    | _=>False
   | false=>False
  | false=>False
 | _,_,_,_=>False
def Ly{P:Program}:{j:Nat}->{d:List Field}->{cs:List Value}->{X:Prop}->keyK P j d cs X->X/\keyK P j d cs True
 | _,[],[],_,h=>⟨h,trivial⟩
 | _,[],_::_,_,h=>h.elim
 | _,_::_,[],_,h=>h.elim
 | j,f::r,v::s,X,h=>by
  revert h
  unfold keyK;split
  .split
   .split
    .split
     .intro h;obtain⟨e,h2⟩:=F1 h;subst e;obtain⟨y,J⟩:=Ly h2;exact⟨y,by unfold sameK;rw[Nat.beq_refl];exact J⟩
     grind
    .split
     .intro h;exact Ly h
     grind
    grind
   grind
  grind
def eqA:List Value->List Value->Option Bool
 | [],[]=>some true
 | .int k a::r,.int k' b::s=>match Nat.beq (ik k) (ik k')with
  | true=>bif a==b then eqA r s else some false
  | false=>none
 | .bool a::r,.bool b::s=>bif a==b then eqA r s else some false
 | _,_=>none
def findA(cs:List Value):List MapEntry->Nat->Option (Option (Nat×Value))
 | [],_=>some none
 | e::es,i=>match e.key with
  | .agg ds=>match eqA cs ds.toList with
   | some true=>some (some (i,e.val))
   | some false=>findA cs es (i+1)
   | none=>none
  | _=>none
def valOr(res:Option (Nat×Value))(z:Value):Value:=match res with|some (_,v)=>v|none=>z
def mE(k:IntKind)(n:Int)(r:Option Nat)(w:World)(z:Value)(K:Value->Bool->Array MapEntry->Prop):Prop:=
 ∃es res,Vb w r es/\Mz k n es res/\K (valOr res z) res.isSome es
def zM(cs:List Value)(r:Option Nat)(w:World)(z:Value)(K:Value->Bool->Array MapEntry->Prop):Prop:=
 ∃es res,Vb w r es/\findA cs es.toList 0=some res/\K (valOr res z) res.isSome es
def evLookup(P:Program)(t:TypeId)(m key:Value)(ok:Bool)(w:World)(K:Value->HB->Prop):Prop:=
 match P.underlying t with
 | some (.map kt et)=>match P.underlying kt with
  | some (.int k)=>match key with
   | .int k' n=>sameK k k' (match m with
    | .map r=>match K8 P et with
     | some z=> ∃es res,Vb w r es/\Mz k n es res/\ ∃x:lJ (aQ P et),valOr res z=mkVT (aQ P et) x/\
       K (bif ok then .tuple #[mkVT (aQ P et) x,.bool res.isSome]else mkVT (aQ P et) x) (HB.obj r es)
     | none=>False
    | _=>False)
   | _=>False
  | some (.struct fs)=>match key with
   | .agg cs=>match P.stoodInHeld kt with
    | false=>keyK P 0 fs.toList cs.toList (match m with
     | .map r=>match K8 P et with
      | some z=> ∃es res,Vb w r es/\findA cs.toList es.toList 0=some res/\ ∃x:lJ (aQ P et),valOr res z=mkVT (aQ P et) x/\
        K (bif ok then .tuple #[mkVT (aQ P et) x,.bool res.isSome]else mkVT (aQ P et) x) (HB.obj r es)
      | none=>False
     | _=>False)
    | true=>False
   | _=>False
  | _=>False
 | _=>False
def HB.entry(r:Nat)(m since d:Nat)(seen:Array Nat)(es:Array MapEntry)(clock:Nat):HB:=λw=>
 w.heap[r]? =some (.mapIter (some m) since seen d)/\w.heap[m]? =some (.map es clock)
def rK(r:Nat)(w:World)(K:Value->Value->HB->Prop):Prop:=
 ∃m since d seen es clock j e,HB.entry r m since d seen es clock w/\seen.back?=some j/\clock=d/\
  es.find? (λx:MapEntry=>x.born==j)=some e/\K e.key e.val (HB.entry r m since d seen es clock)
def evRead(P:Program)(o:Op)(ρ:Operand->Value)(w:World)(K:Value->HB->Prop):Prop:=
 match o with
 | .load t a=>match ρ a with
  | .pointer p=>NC p λp=>aS P t p w K
  | _=>False
 | .lookup t m k ok=>evLookup P t (ρ m) (ρ k) ok w K
 | .entry it=>match ρ it with
  | .pointer (some ⟨r,0,_⟩)=>rK r w λk v S=>K (.tuple #[k,v]) S
  | _=>False
 | .call c=>match c.callee with
  | .builtin .len=>match c.args.toList with
   | [x]=>match ρ x with
    | .map r=>match(c.argTypes.toList.head?).bind P.underlying with
     | some (.map _ _)=> ∃es,Vb w r es/\K (.int .i64 es.size) (HB.obj r es)
     | _=>False
    | _=>False
   | _=>False
  | _=>False
 | _=>False
def PY{P:Program}:{l:List Ty}->{p:Addr}->{i:Nat}->{w:World}->{K:List Value->HB->Prop}->WN l p i w K->
  ∃vs S,K vs S/\S w/\vs.length=l.length/\ ∀w',S w'-> ∀acc,(loadCellsFrom p i l.length acc).run P w'= .ok (acc++vs.toArray) w'
 | [],p,i,w,K,h=>⟨[],HB.all,h,trivial,rfl,λw' _ acc=>by simp[loadCellsFrom]⟩
 | t::r,p,i,w,K,h=>by
  obtain⟨x,O,h⟩:=h;obtain⟨vs,S,j,hS,y,J⟩:=PY (P:=P) h;refine⟨_,_,j,⟨O,hS⟩,by simp[y],λw' d acc=> ?_⟩;have v:w'.cell? (p.add i)=some (mkV t x):=d.1;simp[loadCellsFrom,v,J w' d.2]
def RX{P:Program}{t:TypeId}{p:Addr}{w:World}{K:Value->HB->Prop}(h:aS P t p w K):
  ∃v S,K v S/\S w/\ ∀w',S w'->(loadVar t p).run P w'= .ok v w':=by
 obtain⟨T,h|h⟩:=VY h
 .obtain⟨h,J⟩:=h;obtain⟨Y,h⟩:=KD h;obtain⟨vs,S,y,hS,hl,hr⟩:=PY (P:=P) h;refine⟨_,S,y,hS,λw' j=> ?_⟩;have:=hr w' j #[];simp[loadVar,J,Xz T,loadCells,<-Y,this]
 .obtain⟨d,hd,⟨x,hx,y⟩,J⟩:=h;refine⟨_,_,y,hx,λw' j=> ?_⟩;have O:w'.cell? p=some (mkV (wA d) x):=j;simp[loadVar,J,O]
def run_findKey{P:Program}{d:TypeId}{k:IntKind}{n:Int}{es:Array MapEntry}{res:Option (Nat×Value)}(hk:P.underlying d=some (.int k))
  (h:Mz k n es res)(w:World):(Instr.findKey d (.int k n) es.toList).run P w= .ok res w:=by
 unfold Mz at h;simp[Instr.findKey,Ag hk,h]
def U5{P:Program}{j:TypeId}{k:IntKind}{n:Int}{e:Bool}(d:Nat)(hk:P.underlying j=some (.int k))(w:World):
  (Instr.checkKey e (d+1) j (.int k n)).run P w= .ok () w:=by
 simp[Instr.checkKey,Ag hk]
def run_checkKey{P:Program}{d:TypeId}{k:IntKind}{n:Int}{e:Bool}(hk:P.underlying d=some (.int k))(w:World):
  (Instr.checkKey e 10000 d (.int k n)).run P w= .ok () w:=U5 9999 hk w
def drop_cons{l s:List Value}{j:Nat}{v:Value}(h:l.drop j=v::s):l[j]? =some v/\l.drop (j+1)=s:=by
 constructor
 .have:=List.getElem?_drop (xs:=l) (i:=j) (j:=0)
  grind
 .rw[<-List.tail_drop,h];rfl
def K4{P:Program}{t:TypeId}{cs:Array Value}{j:Nat}{v:Value}(d:(∃k,P.underlying t=some (.int k))∨P.underlying t=some .bool)(J:cs.toList[j]? =some v)(w:World):(part t cs j).run P w= .ok v w:=by
 have y:cs[j]? =some v:=by grind
 rcases d with ⟨k,d⟩|d<;>simp[part,isAgg,Ag d,y]
def Qt{P:Program}(d:Nat)(cs Y:Array Value): ∀(fs:List Field) (j:Nat) (s t:List Value) {b:Bool},cs.toList.drop j=s->Y.toList.drop j=t->keyK P j fs s True->eqA s t=some b->
  ∀w,(Op.eqFields (d+1) cs Y fs).run P w= .ok b w
 | [],j,[],t,b,hc,hd,h,he,w=>by
  cases t with
  | nil=>simp[eqA]at he;subst he;simp[Op.eqFields]
  | cons=>simp[eqA]at he
 | [],_,_::_,_,_,_,_,h,_,_=>h.elim
 | _::_,_,[],_,_,_,_,h,_,_=>h.elim
 | f::r,j,v::s,t,b,hc,hd,h,he,w=>by
  unfold keyK at h;obtain⟨K,O⟩:=drop_cons hc;split at h
  .rename_i e1;have e1:=Nat.eq_of_beq_eq_true e1;subst e1;split at h
   .rename_i hn;have T:f.name≠ "_" :=by grind
    split at h
    .rename_i kk e3;split at h
     .rename_i k a;obtain⟨aC,h2⟩:=F1 h;clear h;subst aC;cases t with
      | nil=>simp[eqA]at he
      | cons u t=>
       obtain⟨y,J⟩:=drop_cons hd;cases u<;>try (simp[eqA]at he;done)
       rename_i k' a';unfold eqA at he;split at he
       .rename_i ek;have ek:=aP (Nat.eq_of_beq_eq_true ek);subst ek;simp only[Op.eqFields,if_pos T,Sem.run_bind,K4 (.inl ⟨_,e3⟩) K,K4 (.inl ⟨_,e3⟩) y,Result.andThen_ok,run_equalIn_int w d f.type _ _ _ _ e3];cases hab:(a==a')
        .rw[hab]at he;cases he;simp
        .rw[hab]at he;simp only[cond_true]at he;simp[Qt d cs Y r (f.offset+1) s t O J h2 he w]
       .cases he
     grind
    .rename_i e3;split at h
     .rename_i a;cases t with
      | nil=>simp[eqA]at he
      | cons u t=>
       obtain⟨y,J⟩:=drop_cons hd;cases u<;>try (simp[eqA]at he;done)
       rename_i a';unfold eqA at he;simp only[Op.eqFields,if_pos T,Sem.run_bind,K4 (.inr e3) K,K4 (.inr e3) y,Result.andThen_ok,run_equalIn_bool' w d f.type _ _ e3];cases hab:(a==a')
       .rw[hab]at he;cases he;simp
       .rw[hab]at he;simp only[cond_true]at he;simp[Qt d cs Y r (f.offset+1) s t O J h he w]
     grind
    grind
   grind
  grind
def TK{P:Program}{d:TypeId}{v:Array Field}{cs j:Array Value}{b:Bool}(hk:P.underlying d=some (.struct v))(hp:P.stoodInHeld d=false)(h:keyK P 0 v.toList cs.toList True)(he:eqA cs.toList j.toList=some b)(w:World):
  (Op.equal d (.agg cs) (.agg j)).run P w= .ok b w:=by
 have hf:P.fieldsOf d=v:=by simp[Program.fieldsOf,hk]
 have y:P.underlying d=some (.struct (P.fieldsOf d)):=by grind
 show(Op.equalIn (9999+1) d (.agg cs) (.agg j)).run P w=_;rw[run_equalIn_struct w 9999 d cs j y hp,hf];exact Qt 9998 cs j v.toList 0 _ _ rfl rfl h he w
def Vc{P:Program}{d:TypeId}{j:Array Field}{cs:Array Value}(hk:P.underlying d=some (.struct j))(hp:P.stoodInHeld d=false)(h:keyK P 0 j.toList cs.toList True)(w:World):
  ∀(es:List MapEntry) (i:Nat) {res:Option (Nat×Value)},findA cs.toList es i=some res->(Instr.findAsking d (.agg cs) es i).run P w= .ok res w
 | [],i,res,hf=>by simp[findA]at hf;subst hf;simp[Instr.findAsking]
 | e::es,i,res,hf=>by
  unfold findA at hf;split at hf
  .rename_i ds hd;split at hf
   .rename_i he;cases hf;simp[Instr.findAsking,hd,TK hk hp h he]
   .rename_i he;have:=Vc hk hp h w es (i+1) hf;simp[Instr.findAsking,hd,TK hk hp h he,this]
   .cases hf
  .cases hf
def PZ{P:Program}{d:TypeId}{j:Array Field}{cs:Array Value}(hk:P.underlying d=some (.struct j))(hp:P.stoodInHeld d=false)(h:keyK P 0 j.toList cs.toList True)
  {es:Array MapEntry}{res:Option (Nat×Value)}(hf:findA cs.toList es.toList 0=some res)(w:World):(Instr.findKey d (.agg cs) es.toList).run P w= .ok res w:=by
 have v:=Vc hk hp h w es.toList 0 hf;cases hes:es.toList with
 | nil=>rw[hes]at hf;simp[findA]at hf;subst hf;simp[Instr.findKey,Ag hk,Instr.findNow]
 | cons e l=>rw[hes]at v;simp[Instr.findKey,Ag hk,Instr.findNow,Instr.sameNow,v]
def O3{P:Program}(e:Bool)(d:Nat)(cs:Array Value): ∀(Y:List Field) (j:Nat) (s:List Value),cs.toList.drop j=s->keyK P j Y s True->
  ∀w,(do for f in Y do if f.name≠ "_" then Instr.checkKey e (d+1) f.type (<-part f.type cs f.offset):Sem Unit).run P w= .ok () w
 | [],_,_,_,_,w=>by simp
 | _::_,_,[],_,h,_=>h.elim
 | f::r,j,v::s,hc,h,w=>by
  unfold keyK at h;obtain⟨y,J⟩:=drop_cons hc;split at h
  .rename_i T;have T:=Nat.eq_of_beq_eq_true T;subst T;split at h
   .rename_i hn;have K:f.name≠ "_" :=by grind
    split at h
    .rename_i kk e3;split at h
     .obtain⟨aA,h2⟩:=F1 h;have O:=O3 e d cs r (f.offset+1) s J h2 w;simp only[List.forIn_cons,Sem.run_bind,if_pos K,K4 (.inl ⟨_,e3⟩) y,Result.andThen_ok,Instr.checkKey,Ag e3,Sem.run_pure]at O⊢;exact O
     grind
    .rename_i e3;split at h
     .have O:=O3 e d cs r (f.offset+1) s J h w;simp only[List.forIn_cons,Sem.run_bind,if_pos K,K4 (.inr e3) y,Result.andThen_ok,Instr.checkKey,Ag e3,Sem.run_pure]at O⊢;exact O
     grind
    grind
   grind
  grind
def Od{P:Program}{v:TypeId}{j:Array Field}{cs:Array Value}(hk:P.underlying v=some (.struct j))(h:keyK P 0 j.toList cs.toList True)(e:Bool)(w:World):
  (Instr.checkKey e 10000 v (.agg cs)).run P w= .ok () w:=by
 have key: ∀d,(Instr.checkKey e (d+1+1) v (.agg cs)).run P w= .ok () w:=by
  intro d;have:=O3 e d cs j.toList 0 _ rfl h w;rw[Instr.checkKey];simp only[Sem.run_bind,Ag hk,Result.andThen_ok];rw[Array.forIn_toList,Sem.run_bind]at this;exact this
 grind
def F3{P:Program}{w:World}{b:Nat}{es:Array MapEntry}{c:Nat}(h:w.heap[b]? =some (.map es c)):
  (getObj b).run P w= .ok (.map es c) w:=by
 simp[getObj,Sem.run,h]
def Pa{P:Program}{o:Oper}{ρ:Operand->Value}{w:World}{K:Value->HB->Prop}(h:evRead P o.op ρ w K):
  ∃v S,K v S/\S w/\ ∀w',S w'->(execOp ρ o).run P w'= .ok (.value v) w':=by
 obtain⟨dst,op,type,pos,after,guard⟩:=o;simp only at h;unfold evRead at h;split at h
 .split at h
  .rename_i O;obtain⟨p,rfl,h⟩:=Iy h;obtain⟨v,S,T,hS,hr⟩:=RX h;exact⟨v,S,T,hS,λw' d=>by simp[execOp,Instr.loadAt,O,Instr.sureAddr,hr w' d]⟩
  grind
 .rename_i t m k ok;unfold evLookup at h;split at h
  .rename_i kt et ht;split at h
   .rename_i kk hk;split at h
    .rename_i k' n hkey;obtain⟨rfl,h2⟩:=F1 h;split at h2
     .rename_i r hm;split at h2
      .rename_i z hz;obtain⟨es,res,j,hf,x,O,T⟩:=h2;refine⟨_,_,T,j,λw' d=> ?_⟩;have J:=run_findKey hk hf w';have y:=λe=>run_checkKey (e:=e) (n:=n) hk w';rw[<-O];cases r with
       | none=>
        have he:es= #[]:=d;simp only[execOp,Instr.lookup,hm,hkey,Sem.run_bind,Ag ht,Result.andThen_ok,Sem.run_pure,y];rw[show([]:List MapEntry)=es.toList from by rw[he],J];cases res<;>cases ok<;>simp[Fw hz,valOr]
       | some b=>
        obtain⟨c,Y⟩:=d;simp only[execOp,Instr.lookup,hm,hkey,Sem.run_bind,Ag ht,Result.andThen_ok,Sem.run_pure,y,F3 Y,J];cases res<;>cases ok<;>simp[Fw hz,valOr]
      grind
     grind
    grind
   .rename_i fs hk;split at h
    .rename_i cs hkey;split at h
     .rename_i hp;obtain⟨h2,aB⟩:=Ly h;split at h2
      .rename_i r hm;split at h2
       .rename_i z hz;obtain⟨es,res,j,hf,x,O,T⟩:=h2;refine⟨_,_,T,j,λw' d=> ?_⟩;have J:=PZ hk hp aB hf w';have y:=λe=>Od hk aB e w';rw[<-O];cases r with
        | none=>
         have he:es= #[]:=d;simp only[execOp,Instr.lookup,hm,hkey,Sem.run_bind,Ag ht,Result.andThen_ok,Sem.run_pure,y];rw[show([]:List MapEntry)=es.toList from by rw[he],J];cases res<;>cases ok<;>simp[Fw hz,valOr]
        | some b=>
         obtain⟨c,Y⟩:=d;simp only[execOp,Instr.lookup,hm,hkey,Sem.run_bind,Ag ht,Result.andThen_ok,Sem.run_pure,y,F3 Y,J];cases res<;>cases ok<;>simp[Fw hz,valOr]
       grind
      grind
     grind
    grind
   grind
  grind
 .split at h
  .rename_i O;obtain⟨m,since,aC,seen,es,clock,aE,e,hS,hb,Y,hf,T⟩:=h;refine⟨_,_,T,hS,λw' d=> ?_⟩;obtain⟨h1,h2⟩:=d;subst Y;simp[execOp,Instr.entry,O,getObj,Sem.run,h1,hb,h2,hf]
  grind
 .rename_i c;obtain⟨callee,args,argTypes⟩:=c;simp only at h;split at h
  .split at h
   .rename_i ha;split at h
    .rename_i r O;split at h
     .rename_i ht;obtain⟨es,j,T⟩:=h;refine⟨_,_,T,j,λw' d=> ?_⟩;have aD:args= #[_]:=Array.toList_inj.1 (by omega);subst aD;cases hT:argTypes.toList with
      | nil=>grind
      | cons t r'=>
       have aA:argTypes[0]? =some t:=by simp[<-Array.getElem?_toList,hT]
       simp[hT]at ht;cases r with
       | none=>
        have he:es= #[]:=d;subst he;simp[execOp,resolve,invoke,builtin,Builtin.len_,aA,O,Ag ht,goInt]
       | some b=>
        obtain⟨c,Y⟩:=d;simp[execOp,resolve,invoke,builtin,Builtin.len_,aA,O,Ag ht,goInt,F3 Y]
     grind
    grind
   grind
  grind
 grind
def szZ(P:Program)(t:TypeId)(K:Nat->Prop):Prop:=match P.info? t with
 | some _=>K (WH P t)
 | none=>False
def mF{P:Program}{t:TypeId}{K:Nat->Prop}(h:szZ P t K): ∃n,K n/\n=WH P t/\ ∀w,(sizeOf t).run P w= .ok n w:=by
 unfold szZ at h;split at h
 .rename_i i hi;refine⟨_,h,rfl,λw=> ?_⟩;simp[sizeOf,typeInfo,hi,WH,Program.cellsOf]
 grind
def stCells(p:Addr):Nat->List Value->World->(World->Prop)->Prop
 | _,[],w,K=>K w
 | i,v::r,w,K=>((∃u,w.cell? (p.add i)=some u)/\w.frozen? (p.add i)=false/\v.oneCell'=true)/\stCells p (i+1) r (w.setCell (p.add i) v) K
def JB(zs:Array Value)(n:Nat):Array Value:=(Array.range n).map λi=>zs[i %zs.size]!
def rowAt(w:World)(b:Option Addr)(n:Nat)(l:List Value):Prop:=match b with
 | none=>l=[]
 | some a=>l.length=n/\ ∀j v,l[j]? =some v->w.cell? (a.add j)=some v
def APP(elem size bytes:Nat)(zs:Array Value)(s x:Aa)(w:World)(K:Aa->World->Prop):Prop:=
 ∃news,rowAt w x.base (x.len*size) news/\
  (s.len+x.len<=s.cap->match s.base with
   | some a=>stCells (a.add (s.len*size)) 0 news w λw'=>K ⟨s.base,s.len+x.len,s.cap⟩ w'
   | none=>K ⟨none,s.len+x.len,s.cap⟩ w)/\
  (s.cap<s.len+x.len->(s.len+x.len)*bytes<=140737488355328/\s.len+x.len<=9223372036854775807/\ ∃d,rowAt w s.base (s.len*size) d/\
   ∀cap,s.len+x.len<=cap->cap<9223372036854775808->
    K ⟨some ⟨w.heap.size,0,none⟩,s.len+x.len,cap⟩ (w.drew.alloc (.cells (d.toArray++news.toArray++Builtin.zeroCells zs (cap-(s.len+x.len))) elem)))
def World.Gd(w:World)(b:Nat)(o:Obj):World:={w with heap:=w.heap.setIfInBounds b o}
def mapPut(es:Array MapEntry)(c:Nat)(key v:Value)(res:Option (Nat×Value)):Obj:=match res with
 | some (i,_)=>.map (es.modify i λe=>{e with key,val:=v}) c
 | none=>.map (es.push {key,val:=v,born:=c}) (c+1)
def WO(es:Array MapEntry)(c:Nat)(res:Option (Nat×Value)):Obj:=match res with
 | some (i,_)=>.map (es.eraseIdxIfInBounds i) c
 | none=>.map es c
def WQ(k:IntKind)(n:Int)(v:Value)(r:Option Nat)(w:World)(K:World->Prop):Prop:=
 ∃b es c res,r=some b/\w.heap[b]? =some (.map es c)/\Mz k n es res/\K (World.Gd w b (mapPut es c (.int k n) v res))
def aT(cs:List Value)(v:Value)(r:Option Nat)(w:World)(K:World->Prop):Prop:=
 ∃b es c res,r=some b/\w.heap[b]? =some (.map es c)/\findA cs es.toList 0=some res/\K (World.Gd w b (mapPut es c (.agg ⟨cs⟩) v res))
def rL(k:IntKind)(n:Int)(z:Value)(r:Option Nat)(w:World)(K:Value->Int->World->Prop):Prop:=
 ∃b es c res,r=some b/\w.heap[b]? =some (.map es c)/\Mz k n es res/\match res with
  | some (i,v)=> ∃e,es[i]? =some e/\K v (e.born:Int) (World.Gd w b (.map (es.modify i λe=>{e with key:=.int k n}) c))
  | none=>K z (c:Int) (World.Gd w b (.map (es.push {key:=.int k n,val:=z,born:=c}) (c+1)))
def rM(s:Int)(v:Value)(r:Option Nat)(w:World)(K:World->Prop):Prop:=
 ∃b es c i,r=some b/\w.heap[b]? =some (.map es c)/\es.findIdx? (λe=>(e.born:Int)==s)=some i/\K (World.Gd w b (.map (es.modify i λe=>{e with val:=v}) c))
def CPY(size:Nat)(d x:Aa)(w:World)(K:Nat->World->Prop):Prop:=
 ∃vs,rowAt w x.base (Nat.min x.len d.len*size) vs/\match d.base with
  | none=>K (Nat.min x.len d.len) w
  | some a=>stCells a 0 vs w λw'=>K (Nat.min x.len d.len) w'
def iH(t:Nat):Nat:=(t %2)*2^63+0x7ff0000000000000+1+(t/2) %(2^52-1)
def FRES(r:Option Nat)(w:World)(K:Nat->World->Prop):Prop:=match r with
 | some b=>K b w
 | none=> ∀t,K (iH t) w.drew
def fArith0(op:BinOp)(a b:Nat):Option Nat:=match op with
 | .add=>FloatKind.f64.format.add a b
 | .sub=>FloatKind.f64.format.sub a b
 | .mul=>FloatKind.f64.format.mul a b
 | _=>FloatKind.f64.format.div a b
noncomputable def Kh(op:BinOp)(a b:Nat):Option Nat:=O1 (fArith0 op a b)
def isArith:BinOp->Bool
 | .add| .sub| .mul| .quo=>true
 | _=>false
def MDEL(k:IntKind)(n:Int)(r:Option Nat)(w:World)(K:World->Prop):Prop:=match r with
 | none=>K w
 | some b=> ∃es c res,w.heap[b]? =some (.map es c)/\Mz k n es res/\K (World.Gd w b (WO es c res))
abbrev E6:=FuncId->Array Value->World->(Value->World->Prop)->(Value->World->Prop)->Prop
def NI:Value->World->Prop:=λ_ _=>False
def Ends(K Kp:Value->World->Prop)(e:Ending)(w:World):Prop:=
 (∃v,e= .returned v/\K v w)∨(∃v,e= .panicked [{v:=v,recovered:=false}]/\Kp v w)
def Ends.val{K:Value->World->Prop}{e:Ending}{w:World}(h:Ends K NI e w): ∃v,e= .returned v/\K v w:=by
 rcases h with h|⟨_,_,f⟩
 .exact h
 .exact f.elim
def DYN(G:E6)(v:Value)(args:Array Value)(w:World)(K:Value->World->Prop):Prop:=match v with
 | .func (.func g) first cap=>G g ((first++args)++cap) w K NI
 | _=>False
def CAL(G:E6)(g:FuncId)(args:Array Value)(w:World)(K:Value->World->Prop):Prop:=G g args w K NI
def wC(P:Program):List TypeId->(List Value->Prop)->Prop
 | [],K=>K []
 | t::r,K=> ∃x:lJ (aQ P t),wC P r λl=>K (mkVT (aQ P t) x::l)
def exRes(P:Program)(ty:TypeId)(v:Value)(K:Value->Prop):Prop:=match P.underlying ty with
 | some (.tuple ts)=>wC P ts.toList λl=>v= .tuple ⟨l⟩/\K (.tuple ⟨l⟩)
 | _=> ∃x:lJ (aQ P ty),v=mkVT (aQ P ty) x/\K (mkVT (aQ P ty) x)
def Vd{P:Program}:{d:List TypeId}->{K:List Value->Prop}->wC P d K-> ∃l,K l
 | [],_,h=>⟨_,h⟩
 | _::_,_,⟨_,h⟩=>let⟨l,h⟩:=Vd h;⟨_,h⟩
def TL{P:Program}{ty:TypeId}{v:Value}{K:Value->Prop}(h:exRes P ty v K):K v:=by
 unfold exRes at h;split at h
 .obtain⟨l,rfl,h2⟩:=Vd h;omega
 grind
def leftOf(es:Array MapEntry)(seen:Array Nat):Array MapEntry:=es.filter λe=> !seen.contains e.born
def WR(r:Nat)(w:World)(d:World->Prop)(v:Value->Value->World->Prop):Prop:=
 ∃j since seen last,w.heap[r]? =some (.mapIter j since seen last)/\match j with
  | none=>d w
  | some m=> ∃es clock,w.heap[m]? =some (.map es clock)/\(!seen.isEmpty&& !es.isEmpty&&es.all (·.born≥last))=false/\
    (∀w',(w'=w∨w'=w.drew)->((leftOf es seen).filter (·.born<since)).isEmpty=true->d w')/\
    (∀w' e,(w'=w∨w'=w.drew)->e∈leftOf es seen->v e.key e.val (World.Gd w' r (.mapIter (some m) since (seen.push e.born) clock)))
def Lm(r:Option Nat)(d:Nat):Obj:=match r with
 | none=>.mapIter none 0 #[] 0
 | some m=>.mapIter (some m) d #[] d
def RY(w:World)(r:Option Nat)(d:Nat):Prop:=match r with
 | none=>True
 | some m=> ∃es,w.heap[m]? =some (.map es d)
def PAN(x:Value)(K:Prop):Prop:=match x with
 | .iface _ _=>K
 | _=>False
def X2{x:Value}{K:Prop}(h:PAN x K):(∃t v,x= .iface t v)/\K:=by
 unfold PAN at h
 grind
def CLR(zs:Array Value)(b:Option Addr)(n:Nat)(w:World)(K:World->Prop):Prop:=match b with
 | none=>K w
 | some a=>stCells a 0 (Builtin.zeroCells zs n).toList w K
def evEff(P:Program)(C G:E6)(o:Op)(ty:TypeId)(ρ:Operand->Value)(w:World)(K Kp:Value->World->Prop):Prop:=
 match o with
 | .alloc t=>match K8 P t with
  | some z=>K (.pointer (some ⟨w.heap.size,0,none⟩)) (w.alloc (.cells z.cells t))
  | none=>False
 | .box t x=>K (.pointer (some ⟨w.heap.size,0,none⟩)) (w.alloc (.cells (ρ x).cells t))
 | .buildSlice t n parts=>match P.underlying t with
  | some (.slice e)=>szK P e λz=>leK (n*z) 4096 (match K8 P e with
   | some zv=>evFill (λi=>some (i*z,z)) ((parts.map λ(i,x)=>(i,ρ x)).toList) (JB zv.cells (n*z)).toList λl=>
     K (.slice (some ⟨w.heap.size,0,none⟩) n n) (w.alloc (.cells ⟨l⟩ e))
   | none=>False)
  | _=>False
 | .store t a x=>match ρ a with
  | .pointer p=>NC p λp=>szZ P t λn=>WJ (ρ x).cells.toList.length n (stCells p 0 (ρ x).cells.toList w λw'=>K undef w')
  | _=>False
 | .range t x=>match P.underlying t with
  | some (.map _ _)=>match ρ x with
   | .map r=> ∃j,RY w r j/\K (.pointer (some ⟨w.heap.size,0,none⟩)) (w.alloc (Lm r j))
   | _=>False
  | _=>False
 | .next it false=>match ρ it with
  | .pointer (some ⟨r,0,_⟩)=>WR r w (λw'=>K (.tuple #[.bool false]) w') λk v w'=>K (.tuple #[.bool true,k,v]) w'
  | _=>False
 | .makeMap _ none=>K (.map (some w.heap.size)) (w.alloc (.map #[] 0))
 | .makeSlice t l c=>match P.underlying t with
  | some (.slice e)=>szK P e λz=>match K8 P e with
   | some zv=>match ρ l with
    | .int .i64 l=>match ρ c with
     | .int .i64 c=>(0<=l/\l<=c/\c<9223372036854775808/\(P.bytesOf e:Int)*c<=140737488355328)/\
       K (.slice (some ⟨w.heap.size,0,none⟩) l.toNat c.toNat) (w.alloc (.cells (JB zv.cells (c.toNat*z)) e))
     | _=>False
    | _=>False
   | none=>False
  | _=>False
 | .mapUpdate t m k x| .insert t m k x=>match P.underlying t with
  | some (.map kt _)=>match P.underlying kt with
   | some (.int kk)=>match ρ k with
    | .int k' n=>sameK kk k' (match ρ m with
     | .map r=>WQ kk n (ρ x) r w λw'=>K undef w'
     | _=>False)
    | _=>False
   | some (.struct fs)=>match ρ k with
    | .agg cs=>match P.stoodInHeld kt with
     | false=>keyK P 0 fs.toList cs.toList (match ρ m with
      | .map r=>aT cs.toList (ρ x) r w λw'=>K undef w'
      | _=>False)
     | true=>False
    | _=>False
   | _=>False
  | _=>False
 | .mapEntry t m k=>match P.underlying t with
  | some (.map kt et)=>match P.underlying kt with
   | some (.int kk)=>match ρ k with
    | .int k' n=>sameK kk k' (match ρ m with
     | .map r=>match K8 P et with
      | some z=>rL kk n z r w λv s w'=>K (.tuple #[v,.int .i64 s]) w'
      | none=>False
     | _=>False)
    | _=>False
   | _=>False
  | _=>False
 | .entryStore _ m s x=>match ρ s with
  | .int _ s=>match ρ m with
   | .map r=>rM s (ρ x) r w λw'=>K undef w'
   | _=>False
  | _=>False
 | .binOp op _ x y _=>match isArith op with
  | true=>match ρ x with
   | .float k a=>match ρ y with
    | .float k' b=>Xr k (Xr k' (FRES (Kh op a b) w λr w'=>K (.float .f64 r) w'))
    | _=>False
   | _=>False
  | false=>False
 | .call c=>match c.callee with
  | .value (.func g)=>C g (c.args.map ρ) w K Kp
  | .value f=>DYN G (ρ f) (c.args.map ρ) w λv w'=>exRes P ty v λv=>K v w'
  | .builtin .append=>match c.args.toList,c.argTypes.toList with
   | [s,x],[ts,tx]=>match P.underlying ts with
    | some (.slice e)=>match P.underlying tx with
     | some (.slice _)=>szK P e λz=>match K8 P e with
      | some zv=>match ρ s with
       | .slice sb sl sc=>match ρ x with
        | .slice xb xl xc=>APP e z (P.bytesOf e) zv.cells ⟨sb,sl,sc⟩ ⟨xb,xl,xc⟩ w λr w'=>K (.slice r.base r.len r.cap) w'
        | _=>False
       | _=>False
      | none=>False
     | _=>False
    | _=>False
   | _,_=>False
  | .builtin .copy=>match c.args.toList,c.argTypes.toList with
   | [d,x],t::_=>match P.underlying t with
    | some (.slice e)=>szK P e λz=>match ρ d with
     | .slice db dl dc=>match ρ x with
      | .slice xb xl xc=>CPY z ⟨db,dl,dc⟩ ⟨xb,xl,xc⟩ w λn w'=>K (.int .i64 n) w'
      | _=>False
     | _=>False
    | _=>False
   | _,_=>False
  | .builtin .delete=>match c.args.toList,c.argTypes.toList with
   | [m,k],t::_=>match P.underlying t with
    | some (.map kt _)=>match P.underlying kt with
     | some (.int kk)=>match ρ k with
      | .int k' n=>sameK kk k' (match ρ m with
       | .map r=>MDEL kk n r w λw'=>K (.tuple #[]) w'
       | _=>False)
      | _=>False
     | _=>False
    | _=>False
   | _,_=>False
  | .builtin .clear=>match c.args.toList,c.argTypes.toList with
   | [x],[t]=>match P.underlying t with
    | some (.slice e)=>match K8 P e with
     | some zv=>match ρ x with
      | .slice b n _=>CLR zv.cells b n w λw'=>K (.tuple #[]) w'
      | _=>False
     | none=>False
    | _=>False
   | _,_=>False
  | .builtin .panic=>match c.args.toList with
   | [x]=>PAN (ρ x) (Kp (ρ x) w)
   | _=>False
  | _=>False
 | .panic x=>PAN (ρ x) (Kp (ρ x) w)
 | _=>False
def Goes(P:Program)(r:Result Next)(K Kp:Value->World->Prop):Prop:=match r with
 | .ok (.value v) w=>K v w
 | .ok .skip w=>K undef w
 | .ok (.enter f args) w=>Calls P f args w (Ends K Kp)
 | .halt (.panic v) w=>Kp v w
 | _=>False
def Jb{P:Program}{p:Addr}:{vs:List Value}->{i:Nat}->{w:World}->{K:World->Prop}->stCells p i vs w K->
  ∃w',K w'/\(storeCells p vs i).run P w= .ok () w'
 | [],i,w,K,h=>⟨w,h,by rfl⟩
 | v::r,i,w,K,h=>by
  obtain⟨⟨⟨u,hu⟩,hf,j⟩,h⟩:=h;obtain⟨w',d,y⟩:=Jb (P:=P) h;exact⟨w',d,by simp[storeCells,run_store P w _ v .plain j,hu,hf,y]⟩
def OC{P:Program}{w:World}{b:Option Addr}{n size len cap:Nat}{l:List Value}(h:rowAt w b (n*size) l):
  (Builtin.firstCells size n (.slice b len cap)).run P w= .ok l.toArray w:=by
 cases b with
 | none=>have:l=[]:=h;subst this;rfl
 | some a=>exact run_firstCells_some w size n a len cap l h.1 h.2
def TM{w:World}{b:Option Addr}{n:Nat}{l:List Value}(h:rowAt w b n l):rowAt w.drew b n l:=by
 cases b with
 | none=>exact h
 | some a=>exact⟨h.1,λj v d=>by simpa using h.2 j v d⟩
def iI{P:Program}{e z ts tx ty:Nat}{zv:Value}{sb xb:Option Addr}{sl J y xc:Nat}{w:World}{K:Aa->World->Prop}
  (O:P.underlying ts=some (.slice e))(v: ∃e',P.underlying tx=some (.slice e'))(hz: ∀w,(sizeOf e).run P w= .ok z w)(aA:K8 P e=some zv)
  (h:APP e z (P.bytesOf e) zv.cells ⟨sb,sl,J⟩ ⟨xb,y,xc⟩ w K):
  ∃r w',K r w'/\(Builtin.append_ #[ts,tx] ty #[.slice sb sl J,.slice xb y xc]).run P w= .ok (.slice r.base r.len r.cap) w':=by
 obtain⟨news,hn,j,d⟩:=h;obtain⟨e',v⟩:=v;simp only at j d hn;obtain⟨i,hi⟩: ∃i,P.info? e=some i:=by
  cases hi:P.info? e with
  | none=>simp[K8,hi]at aA
  | some i=>simp
 have aP:i.bytes=P.bytesOf e:=by simp[Program.bytesOf,hi]
 have aH:=Fw aA;by_cases hc:sl+y<=J
 .have h1:=j hc;have hf:=OC (P:=P) (len:=y) (cap:=xc) hn;cases sb with
  | none=>exact⟨_,_,h1,by simp[Builtin.append_,Ag O,Ag v,hz,Builtin.lenOf,hc,hf]⟩
  | some a=>
   obtain⟨w',hK,hr⟩:=Jb (P:=P) h1;refine⟨_,_,hK,by simp[Builtin.append_,Ag O,Ag v,hz,Builtin.lenOf,hc,hf,hr]⟩
 .obtain⟨hb,aD,aK,ho,hK⟩:=d (by omega);have aJ:=growslice_fits (bytes:=i.bytes) (by omega:J<sl+y) (by grind);have T: ¬(281474976710656<Builtin.nextslicecap (sl+y) J*i.bytes):=by omega
  have Y: ¬(9223372036854775807<((sl:Int)+(y:Int))):=by omega
  have hf:=OC (P:=P) (len:=y) (cap:=xc) (TM hn);have aF:=OC (P:=P) (len:=sl) (cap:=J) (TM ho);have hk:=hK (grownCap w (sl+y) J e) (grownCap_ge w _ _ _) (by
   have:=grownCap_le_maxLen w (sl+y) J e (by simpa[maxLen]using aD);simp only[maxLen]at this;omega)
  refine⟨_,_,hk,?_⟩;simp[Builtin.append_,Ag O,Ag v,hz,typeInfo,hi,aH,Builtin.lenOf,hc,Y,T,Question.forced,hf,aF,newRow,grownCap]
  grind
def TN(kd:TypeDesc)(key:Value): ∀(es:List MapEntry) (j i:Nat) (v:Value),Instr.findNow kd key es j=some (some (i,v))->j<=i
 | [],j,i,v,h=>by simp[Instr.findNow]at h
 | e::r,j,i,v,h=>by
  simp only[Instr.findNow]at h;split at h
  .grind
  .have:=TN kd key r (j+1) i v h;omega
  grind
def MN(k:IntKind)(n:Int): ∀(es:List MapEntry) (j i:Nat) (v:Value),Instr.findNow (.int k) (.int k n) es j=some (some (i,v))->
  ∃e,es[i-j]? =some e/\e.key= .int k n/\e.val=v
 | [],j,i,v,h=>by simp[Instr.findNow]at h
 | e::r,j,i,v,h=>by
  simp only[Instr.findNow]at h;split at h
  .rename_i hs;simp at h;obtain⟨rfl,rfl⟩:=h;refine⟨e,by simp,?_,rfl⟩;unfold Instr.sameNow at hs
   grind
  .obtain⟨e',he,h1,h2⟩:=MN k n r (j+1) i v h;have:=TN _ _ _ _ _ _ h
   grind
  grind
def HD{P:Program}{w:World}{b:Nat}{es:Array MapEntry}{c:Nat}(h:w.heap[b]? =some (.map es c))(o:Obj):
  (setObj b o).run P w= .ok () (World.Gd w b o):=by
 simp[setObj,Sem.run,h,World.Gd]
def Ve{P:Program}{k:IntKind}{n:Int}(w:World):(Instr.keyThatStays (.int k n) (.int k n)).run P w= .ok (.int k n) w:=by
 have:Instr.sameBits 10000 (.int k n) (.int k n)=true:=by
  rw[show(10000:Nat)=9999+1 from rfl];cases k<;>simp[Instr.sameBits]
 simp[Instr.keyThatStays,this]
def Oe{P:Program}{t J O:TypeId}{k:IntKind}{n:Int}{v:Value}{r:Option Nat}{w:World}{K:World->Prop}
  (Y:P.underlying t=some (.map J O))(hk:P.underlying J=some (.int k))(h:WQ k n v r w K):
  ∃w',K w'/\(Instr.mapUpdate t (.map r) (.int k n) v).run P w= .ok () w':=by
 obtain⟨b,es,c,res,rfl,d,hf,T⟩:=h;refine⟨_,T,?_⟩;have y:=run_findKey hk hf w;simp only[Instr.mapUpdate,Sem.run_bind,Ag Y,Result.andThen_ok,F3 d,run_checkKey hk,y];cases res with
 | none=>simp[HD d,mapPut]
 | some q=>
  obtain⟨i,u⟩:=q;obtain⟨e,he,h1,_⟩:=MN k n es.toList 0 i u hf;have j:es[i]? =some e:=by grind
  simp[j,h1,Ve,HD d,mapPut]
def aU{P:Program}{t J T ty:TypeId}{k:IntKind}{n:Int}{r:Option Nat}{w:World}{K:World->Prop}{O:Array TypeId}(d:O[0]? =some t)
  (y:P.underlying t=some (.map J T))(hk:P.underlying J=some (.int k))(h:MDEL k n r w K):
  ∃w',K w'/\(Builtin.delete_ O ty #[.map r,.int k n]).run P w= .ok (.tuple #[]) w':=by
 cases r with
 | none=>exact⟨w,h,by simp[Builtin.delete_,d,Ag y,run_checkKey hk]⟩
 | some b=>
  obtain⟨es,c,res,j,hf,Y⟩:=h;refine⟨_,Y,?_⟩;have v:=run_findKey hk hf w;simp only[Builtin.delete_,d,List.getElem?_toArray,List.getElem?_cons_zero,List.getElem?_cons_succ,Sem.run_bind,Ag y,Result.andThen_ok,F3 j,run_checkKey hk,v];cases res with
  | none=>simp[HD j,WO]
  | some q=>obtain⟨i,u⟩:=q;simp[HD j,WO]
def Fits(P:Program)(C:E6):Prop:= ∀g args w K Kp,C g args w K Kp->
 ((∀w,(callFunc g args).run P w= .ok (.enter g args) w)/\Calls P g args w (Ends K Kp))∨ ∃v w',(callFunc g args).run P w= .ok (.value v) w'/\K v w'
def aV: ∀{l m:List Value},eqA l m=some true->l=m
 | [],[],_=>rfl
 | [],_::_,h=>by simp[eqA]at h
 | v::l,m,h=>by
  cases v<;>cases m<;>try (simp[eqA]at h;done)
  all_goals (rename_i u m;cases u<;>try (simp[eqA]at h;done))
  .unfold eqA at h;rename_i a b;cases hab:(a==b)
   .grind
   .rw[hab]at h;rw[aV h,(by grind:a=b)]
  .unfold eqA at h;split at h
   .rename_i k a k' b _ d;have d:=aP (Nat.eq_of_beq_eq_true d);cases hab:(a==b)
    .grind
    .rw[hab]at h;rw[aV h,d,(by grind:a=b)]
   grind
def TO(n:Nat): ∀{l m:List Value},eqA l m=some true->((l.zip l).all λ(x,y)=>Instr.sameBits n x y)=true
 | [],_,_=>rfl
 | v::l,m,h=>by
  cases v<;>cases m<;>try (simp[eqA]at h;done)
  all_goals (rename_i u m;cases u<;>try (simp[eqA]at h;done))
  .unfold eqA at h;rename_i a b;cases hab:(a==b)
   .grind
   .rw[hab]at h;simp only[List.zip_cons_cons,List.all_cons,TO n h,Bool.and_true];cases n<;>simp[Instr.sameBits]
  .unfold eqA at h;split at h
   .rename_i k a k' b _ ek;cases hab:(a==b)
    .grind
    .rw[hab]at h;simp only[List.zip_cons_cons,List.all_cons,TO n h,Bool.and_true];cases n<;>simp[Instr.sameBits]
   grind
def X3(cs:List Value): ∀(es:List MapEntry) (j i:Nat) (v:Value),findA cs es j=some (some (i,v))-> ∃e d,es[i-j]? =some e/\j<=i/\e.key= .agg d/\eqA cs d.toList=some true
 | [],j,i,v,h=>by simp[findA]at h
 | e::es,j,i,v,h=>by
  unfold findA at h;split at h
  .rename_i d hd;split at h
   .grind
   .obtain⟨e',y,h1,h2,J,K⟩:=X3 cs es (j+1) i v h
    grind
   grind
  grind
def NS{P:Program}{t Y et:TypeId}{fs:Array Field}{cs:Array Value}{v:Value}{r:Option Nat}{w:World}{K:World->Prop}
  (ht:P.underlying t=some (.map Y et))(hk:P.underlying Y=some (.struct fs))(hp:P.stoodInHeld Y=false)(d:keyK P 0 fs.toList cs.toList True)(h:aT cs.toList v r w K):
  ∃w',K w'/\(Instr.mapUpdate t (.map r) (.agg cs) v).run P w= .ok () w':=by
 obtain⟨b,es,c,res,rfl,j,hf,hK⟩:=h;refine⟨_,hK,?_⟩;have O:=PZ hk hp d hf w;simp only[Instr.mapUpdate,Sem.run_bind,Ag ht,Result.andThen_ok,F3 j,Od hk d,O];cases res with
 | none=>simp[HD j,mapPut]
 | some q=>
  obtain⟨i,u⟩:=q;obtain⟨e,ds,he,_,h1,h2⟩:=X3 cs.toList es.toList 0 i u hf;have J:es[i]? =some e:=by grind
  have y:cs=ds:=Array.toList_inj.1 (aV h2);subst y;have T:(Instr.keyThatStays (.agg cs) (.agg cs)).run P w= .ok (.agg cs) w:=by
   have:Instr.sameBits 10000 (.agg cs) (.agg cs)=true:=by
    rw[Instr.sameBits];simp only[beq_self_eq_true,Bool.true_and];exact TO 9999 h2
   simp[Instr.keyThatStays,this]
  simp[J,h1,T,HD j,mapPut]
def X4{P:Program}{w:World}{b:Nat}{d:Option Nat}{s l:Nat}{j:Array Nat}(h:w.heap[b]? =some (.mapIter d s j l))(o:Obj):
  (setObj b o).run P w= .ok () (World.Gd w b o):=by
 simp[setObj,Sem.run,h,World.Gd]
def iJ{P:Program}{dst:Option Tmp}{it:Operand}{type:TypeId}{pos:String}{after:Array Edge}{guard:Option (Nat×Bool)}{ρ:Operand->Value}{w:World}{r m since last clock:Nat}{sp:Option Nat}
  {seen:Array Nat}{es:Array MapEntry}{K Kp:Value->World->Prop}(hx:ρ it= .pointer (some ⟨r,0,sp⟩))(hr:w.heap[r]? =some (.mapIter (some m) since seen last))(hm:w.heap[m]? =some (.map es clock))
  (y:(!seen.isEmpty&& !es.isEmpty&&es.all (·.born≥last))=false)
  (hn: ∀w',(w'=w∨w'=w.drew)->((leftOf es seen).filter (·.born<since)).isEmpty=true->K (.tuple #[.bool false]) w')
  (hs: ∀w' e,(w'=w∨w'=w.drew)->e∈leftOf es seen->K (.tuple #[.bool true,e.key,e.val]) (World.Gd w' r (.mapIter (some m) since (seen.push e.born) clock))):
  Goes P ((execOp ρ ⟨dst,.next it false,type,pos,after,guard⟩).run P w) K Kp:=by
 have aC:(getObj r).run P w= .ok (.mapIter (some m) since seen last) w:=by simp[getObj,Sem.run,hr]
 have aB:=F3 (P:=P) hm;simp only[execOp,Instr.next,hx,Sem.run_bind,aC,Result.andThen_ok,aB,y,Bool.false_eq_true,if_false];obtain⟨left,v⟩: ∃left,left=leftOf es seen:=⟨_,rfl⟩;rw[<-v]at hn hs;have hl:(es.filter λe=> !seen.contains e.born)=left:=v.symm;simp only[hl];obtain⟨Pb,hold⟩: ∃Pb,Pb=left.filter (λx=>decide (x.born<since)):=⟨_,rfl⟩;obtain⟨nu,aE⟩: ∃nu,nu=left.filter (λx=>decide (x.born≥since)):=⟨_,rfl⟩;rw[<-hold]at hn;simp only[<-hold,<-aE];obtain⟨d,j⟩: ∃d,d=((if Pb.isEmpty=true then #[none]else #[])++Array.map some (Pb++nu):Array (Option MapEntry)):=⟨_,rfl⟩;simp only[<-j];have Y:0<d.size:=by
  rw[j];by_cases ho:Pb.isEmpty=true
  .grind
  .simp[ho];have:Pb.size≠0:=λe=>ho (by grind);omega
 have aA: ∃idx w',(w'=w∨w'=w.drew)/\(choose (.mapNext d.size)).run P w= .ok idx w'/\idx<d.size:=by
  rw[run_choose];by_cases hf:Question.forced (.mapNext d.size)=true
  .exact⟨0,w,.inl rfl,by grind,Y⟩
  .exact⟨_,_,.inr rfl,by rw[if_neg hf];rfl,Nat.mod_lt _ Y⟩
 obtain⟨idx,w',aH,T,aD⟩:=aA;rw[T];simp only[Result.andThen_ok];have O:d[idx]? =some d[idx]:=Array.getElem?_eq_getElem aD;rw[O];cases hc:d[idx]with
 | none=>
  have aF:Pb.isEmpty=true:=by grind
  simp only[Sem.run_pure,Result.andThen_ok,Goes]
  grind
 | some e=>
  have J:some e∈d:=by grind
  have aL:e∈left:=by
   rw[j]at J;simp only[Array.mem_append,Array.mem_map]at J
   grind
  have aG:w'.heap[r]? =some (.mapIter (some m) since seen last):=by
   rcases aH with rfl|rfl<;>exact hr
  simp only[Sem.run_bind,X4 aG,Result.andThen_ok,Sem.run_pure,Goes]
  grind
def X5{P:Program}{C G:E6}(hC:Fits P C)(hG:Fits P G){o:Oper}{ρ:Operand->Value}{w:World}{K Kp:Value->World->Prop}(hρ: ∀g,ρ (.func g)= .func (.func g) #[] #[])
  (h:evEff P C G o.op o.type ρ w K Kp):Goes P ((execOp ρ o).run P w) K Kp:=by
 obtain⟨dst,op,type,pos,after,guard⟩:=o;simp only at h;unfold evEff at h;split at h
 case h_1=>
  split at h
  .rename_i z hz;simpa[execOp,Instr.alloc,Fw hz,newVar,newRow,Goes]using h
  grind
 case h_2=>simpa[execOp,Instr.box,newVar,newRow,Goes]using h
 case h_3=>
  split at h
  .rename_i t n parts _ e ht;obtain⟨z,h,aD,_,d⟩:=GP h;obtain⟨hle,h⟩:=Xx h;split at h
   .rename_i zv hz;obtain⟨out,j,hf⟩:=LP h;have aK: ¬(16777216<n*z):=Nat.not_lt.2 (Nat.le_trans hle (by decide));by_cases hn:n=0
    .subst hn;simp[JB,Array.range_zero']at hf;simp[execOp,Instr.buildSlice,Ag ht,d,hf,newRow,Goes,Array.range_zero'];omega
    .have aV: ¬(n*z=0):=Nat.mul_ne_zero hn aD;simp[JB]at hf;simp[execOp,Instr.buildSlice,Ag ht,d,aK,aV,Fw hz,hf,newRow,Goes];omega
   grind
  grind
 case h_4=>
  split at h
  .rename_i J;obtain⟨p,rfl,h2⟩:=Iy h;obtain⟨n,h3,hn,d⟩:=mF h2;obtain⟨hl,h4⟩:=KD h3;obtain⟨w',j,aG⟩:=Jb (P:=P) h4;have aJ:=hl;rw[Array.length_toList]at aJ;simp[execOp,Instr.storeAt,J,Instr.sureAddr,storeVar,d,aJ,aG,Goes,j]
  grind
 case h_5=>
  split at h
  .rename_i ht;split at h
   .rename_i r J;obtain⟨cl,d,j⟩:=h;cases r with
    | none=>simpa[execOp,Instr.range,Ag ht,J,Goes,Lm]using j
    | some m=>
     obtain⟨es,hm⟩:=d;simpa[execOp,Instr.range,Ag ht,J,F3 hm,Goes,Lm]using j
   grind
  grind
 case h_6=>
  split at h
  .rename_i r sp J;obtain⟨mo,since,seen,last,d,h⟩:=h;have aT:(getObj r).run P w= .ok (.mapIter mo since seen last) w:=by simp[getObj,Sem.run,d]
   cases mo with
   | none=>
    simp[execOp,Instr.next,J,aT,Goes];exact h
   | some m=>
    obtain⟨es,clock,hm,aC,hn,hs⟩:=h;exact iJ J d hm aC hn hs
  grind
 case h_7=>simpa[execOp,Instr.makeMap,Goes]using h
 case h_8=>
  split at h
  .rename_i e ht;obtain⟨z,h,aD,_,d⟩:=GP h;split at h
   .rename_i zv hz;split at h
    .rename_i l hl;split at h
     .rename_i c hc;obtain⟨⟨h0,h1,h2,h3⟩,j⟩:=h;obtain⟨i,hi⟩: ∃i,P.info? e=some i:=by
       cases hi:P.info? e with
       | none=>simp[K8,hi]at hz
       | some i=>simp
      have aR:P.bytesOf e=i.bytes:=by simp[Program.bytesOf,hi]
      rw[aR]at h3;have a4:0<=l:=h0;have w1:IntKind.i64.wrap l=l:=IntWalk.i64_in l (by omega);have w2:IntKind.i64.wrap c=c:=IntWalk.i64_in c (by omega);have t1: ¬(c<0):=by omega
      have t2: ¬(l<0):=by omega
      have t3: ¬(c<l):=by omega
      have t4: ¬(281474976710656<(i.bytes:Int)*c):=by omega
      by_cases aB:c.toNat*z=0
      .have:c.toNat=0:=by rcases Nat.mul_eq_zero.1 aB with h|h<;>omega
       simp[JB,aB,Array.range_zero']at j;simp[execOp,Instr.makeSlice,Ag ht,hl,hc,asInt,asIntOf,typeInfo,hi,w1,w2,t1,t2,t3,t4,d,aB,newRow,Goes,Array.range_zero'];omega
      .have aH: ¬(c.toNat*z=0):=aB;simp[JB]at j;simp[execOp,Instr.makeSlice,Ag ht,hl,hc,asInt,asIntOf,typeInfo,hi,w1,w2,t1,t2,t3,t4,d,aH,Fw hz,newRow,Goes];omega
     grind
    grind
   grind
  grind
 case h_9=>
  split at h
  .rename_i ht;split at h
   .rename_i hk;split at h
    .rename_i hkey;obtain⟨rfl,h2⟩:=F1 h;split at h2
     .rename_i hm;obtain⟨w',j,d⟩:=Oe ht hk h2;simpa[execOp,hkey,hm,d,Goes]using j
     grind
    grind
   .rename_i hk;split at h
    .rename_i hkey;split at h
     .rename_i hp;obtain⟨h2,aA⟩:=Ly h;split at h2
      .rename_i hm;obtain⟨w',j,d⟩:=NS ht hk hp aA h2;simpa[execOp,hkey,hm,d,Goes]using j
      grind
     grind
    grind
   grind
  grind
 case h_10=>
  split at h
  .rename_i ht;split at h
   .rename_i hk;split at h
    .rename_i hkey;obtain⟨rfl,h2⟩:=F1 h;split at h2
     .rename_i hm;obtain⟨w',j,d⟩:=Oe ht hk h2;simpa[execOp,hkey,hm,d,Goes]using j
     grind
    grind
   .rename_i hk;split at h
    .rename_i hkey;split at h
     .rename_i hp;obtain⟨h2,aA⟩:=Ly h;split at h2
      .rename_i hm;obtain⟨w',j,d⟩:=NS ht hk hp aA h2;simpa[execOp,hkey,hm,d,Goes]using j
      grind
     grind
    grind
   grind
  grind
 case h_11=>
  split at h
  .rename_i ht;split at h
   .rename_i hk;split at h
    .rename_i hkey;obtain⟨aA,h2⟩:=F1 h;subst aA;split at h2
     .rename_i hm;split at h2
      .rename_i z hz;obtain⟨b,es,c,res,rfl,T,hf,j⟩:=h2;have aI:=run_findKey hk hf w;cases res with
       | none=>
        simp[execOp,hkey,hm,Instr.mapEntry,Ag ht,F3 T,run_checkKey hk,aI,Fw hz,HD T,goInt,Goes];omega
       | some q=>
        obtain⟨i,u⟩:=q;obtain⟨e,he,j⟩:=j;obtain⟨e',a3,h1,_⟩:=MN _ _ es.toList 0 i u hf;have aW:es[i]? =some e':=by grind
        have aS:e'=e:=by grind
        subst aS;simp[execOp,hkey,hm,Instr.mapEntry,Ag ht,F3 T,run_checkKey hk,aI,he,h1,Ve,HD T,goInt,Goes];omega
      grind
     grind
    grind
   grind
  grind
 case h_12=>
  split at h
  .rename_i hs;split at h
   .rename_i hm;obtain⟨b,es,c,i,rfl,T,hi,j⟩:=h;simp[execOp,hs,hm,Instr.entryStore,F3 T,asInt,asIntOf,hi,HD T,Goes];omega
   grind
  grind
 case h_13 op t x y _=>
  split at h
  .rename_i hop;split at h
   .rename_i J;split at h
    .rename_i hy;obtain⟨e1,h1⟩:=KC h;obtain⟨e2,h2⟩:=KC h1;clear h h1;subst e1;subst e2;have hg:(eqGuard op t x y (ρ x) (ρ y)).run P w= .ok () w:=by
      unfold eqGuard
      simp_all
     unfold FRES at h2;split at h2
     .rename_i r d;cases op<;>first|(simp[isArith]at hop;done)|(simp only[Kh,Kg,fArith0]at d;simp[execOp,J,hy]at hg⊢;simp[hg,binOp,Op.floatArith,d,Goes];omega)
     .rename_i d;cases op<;>first|(simp[isArith]at hop;done)|(simp only[Kh,Kg,fArith0]at d;simp[execOp,J,hy]at hg⊢;simp[hg,binOp,Op.floatArith,d,Goes,Question.forced];exact h2 _)
    grind
   grind
  grind
 case h_14 c=>
  obtain⟨callee,args,argTypes⟩:=c;simp only at h;split at h
  .simp[execOp,resolve,hρ,Deferred.ofValue,invoke];rcases hC _ _ _ _ _ h with ⟨h1,h2⟩|⟨v,w',h1,h2⟩
   .simpa[h1,Goes]using h2
   .simpa[h1,Goes]using h2
  .unfold DYN at h;split at h
   .rename_i hf;simp[execOp,resolve,hf,Deferred.ofValue,invoke];rcases hG _ _ _ _ _ h with ⟨h1,h2⟩|⟨v,w',h1,h2⟩
    .simp at h1 h2;simp only[h1,Result.andThen_ok,Goes];refine h2.mono ?_;intro e w' hE;obtain⟨v,rfl,hv⟩:=hE.val;exact .inl ⟨v,rfl,TL hv⟩
    .simp at h1;simp only[h1,Result.andThen_ok,Goes];exact TL h2
   grind
  .split at h
   .rename_i ha hT;have O:args= #[_,_]:=Array.toList_inj.1 (by omega);have aE:argTypes= #[_,_]:=Array.toList_inj.1 (by omega);subst O;subst aE;split at h
    .rename_i ht;split at h
     .rename_i htx;obtain⟨z,h,aD,_,d⟩:=GP h;split at h
      .rename_i zv hz;split at h
       .rename_i hs;split at h
        .rename_i J;obtain⟨r,w',j,aN⟩:=iI (ty:=type) ht ⟨_,htx⟩ d hz h;simpa[execOp,resolve,invoke,builtin,hs,J,aN,Goes]using j
        grind
       grind
      grind
     grind
    grind
   grind
  .split at h
   .rename_i ha hT;have O:args= #[_,_]:=Array.toList_inj.1 (by omega);subst O;split at h
    .rename_i ht;obtain⟨z,h,aD,_,d⟩:=GP h;split at h
     .rename_i hd;split at h
      .rename_i J;have Y:=congrArg (λl:List TypeId=>l[0]?) hT;simp only[Array.getElem?_toList,List.getElem?_cons_zero]at Y;obtain⟨vs,aM,h⟩:=h;have hf:=λlen cap=>OC (P:=P) (w:=w) (len:=len) (cap:=cap) aM;split at h
       .rename_i T;simp only at T;subst T;simp only at hf;simpa[execOp,resolve,invoke,builtin,Builtin.copy_,Y,hd,J,Ag ht,d,Builtin.lenOf,hf,goInt,Goes]using h
       .rename_i a T;simp only at T;subst T;simp only at hf;obtain⟨w',j,aG⟩:=Jb (P:=P) h;simpa[execOp,resolve,invoke,builtin,Builtin.copy_,Y,hd,J,Ag ht,d,Builtin.lenOf,hf,aG,goInt,Goes]using j
      grind
     grind
    grind
   grind
  .split at h
   .rename_i ha hT;have O:args= #[_,_]:=Array.toList_inj.1 (by omega);subst O;split at h
    .rename_i ht;split at h
     .rename_i hk;split at h
      .rename_i hkey;obtain⟨rfl,h2⟩:=F1 h;split at h2
       .rename_i hm;have Y:=congrArg (λl:List TypeId=>l[0]?) hT;simp only[Array.getElem?_toList,List.getElem?_cons_zero]at Y;obtain⟨w',j,d⟩:=aU (ty:=type) Y ht hk h2;simpa[execOp,resolve,invoke,builtin,hkey,hm,d,Goes]using j
       grind
      grind
     grind
    grind
   grind
  .split at h
   .rename_i ha hT;have O:args= #[_]:=Array.toList_inj.1 (by omega);have aE:argTypes= #[_]:=Array.toList_inj.1 (by omega);subst O;subst aE;split at h
    .rename_i ht;split at h
     .rename_i zv hz;split at h
      .rename_i b n c J;unfold CLR at h;split at h
       .simpa[execOp,resolve,invoke,builtin,Builtin.clear_,Ag ht,J,Goes]using h
       .rename_i a;cases n with
        | zero=>
         have:(Builtin.zeroCells zv.cells 0).toList=[]:=by simp[Builtin.zeroCells]
         rw[this]at h;simpa[execOp,resolve,invoke,builtin,Builtin.clear_,Ag ht,J,Goes,stCells]using h
        | succ n=>
         obtain⟨w',j,d⟩:=Jb (P:=P) h;simpa[execOp,resolve,invoke,builtin,Builtin.clear_,Ag ht,J,Fw hz,d,Goes]using j
      grind
     grind
    grind
   grind
  .split at h
   .rename_i ha;have O:args= #[_]:=Array.toList_inj.1 (by omega);subst O;obtain⟨⟨t,v,J⟩,h⟩:=X2 h;rw[J]at h;simpa[execOp,resolve,invoke,builtin,Instr.panic,goPanic,J,Goes]using h
   grind
  grind
 case h_15=>
  obtain⟨⟨t,v,J⟩,h⟩:=X2 h;rw[J]at h;simpa[execOp,Instr.panic,goPanic,J,Goes]using h
 grind
inductive OpK where|pure|read|Xj
def opK(P:Program):Op->OpK
 | .load .. | .lookup .. | .entry _=>.read
 | .range .. | .next .. | .alloc _| .box .. | .buildSlice .. | .store .. | .makeMap .. | .makeSlice .. | .mapUpdate .. | .insert .. | .mapEntry .. | .entryStore .. | .panic _=>.Xj
 | .call c=>match c.callee with
  | .builtin .len=>match(c.argTypes.toList.head?).bind P.underlying with
   | some (.map _ _)=>.read
   | _=>.pure
  | .builtin .min| .builtin .max=>.pure
  | _=>.Xj
 | .binOp op t _ _ _=>match isArith op with
  | true=>match P.underlying t with
   | some (.float _)=>.Xj
   | _=>.pure
  | false=>.pure
 | _=>.pure
def zN(P:Program)(o:Op):Bool:=match opK P o with| .Xj=>true|_=>false
def mG(P:Program)(C G:E6)(o:Op)(ty:TypeId)(ρ:Operand->Value)(w:World)(K Kp:Value->World->Prop):Prop:=
 match opK P o with
 | .pure=>evPure P o ty ρ λv=>K v w
 | .read=>evRead P o ρ w λv _=>K v w
 | .Xj=>evEff P C G o ty ρ w K Kp
def O4{P:Program}{C G:E6}(hC:Fits P C)(y:Fits P G){o:Oper}{ρ:Operand->Value}{w:World}{K Kp:Value->World->Prop}(J: ∀g,ρ (.func g)= .func (.func g) #[] #[])(h:mG P C G o.op o.type ρ w K Kp):
  Goes P ((execOp ρ o).run P w) K Kp:=by
 unfold mG at h;split at h
 .obtain⟨v,d,j⟩:=PX h;rw[j w];exact d
 .obtain⟨v,S,d,hS,j⟩:=Pa h;rw[j w hS];exact d
 .exact X5 hC y J h
def O5{P:Program}{o:Oper}{a:Act}{w:World}{K Kp:Value->World->Prop}{Q:Exit->Act->World->Prop}
  {next:Act->World->Prop}(h:Goes P ((execOp a.eval o).run P w) K Kp)(d: ∀v w',K v w'->next (a.put o.dst v) w')
  (hp: ∀v w',Kp v w'->Q (.panic [{v:=v,recovered:=false}]) a w'):o.wp P a w next Q:=by
 unfold Oper.wp;unfold Goes at h;split at h
 .rename_i hr;rw[hr,Oper.upon_value];exact d _ _ h
 .rename_i hr;rw[hr,Oper.upon_skip];exact d _ _ h
 .rename_i hr;rw[hr,Oper.upon_enter];refine h.mono ?_;rintro e w' (⟨v,rfl,j⟩|⟨v,rfl,j⟩)
  .exact d _ _ j
  .exact hp _ _ j
 .rename_i hr;rw[hr,Oper.upon_panic];exact hp _ _ h
 .exact h.elim
def yieldF(ops:Array Oper)(f:Fr)(j:Nat):Option Bool:=match(ops[j]?).bind (·.dst)with
 | some t=>match f t with
  | .bool b=>some b
  | _=>none
 | none=>none
def wantF(ops:Array Oper)(f:Fr):Option (Nat×Bool)->Bool
 | none=>true
 | some (j,want)=>match yieldF ops f j with
  | some b=>match b,want with
   | true,true=>true
   | false,false=>true
   | _,_=>false
  | none=>false
def TP{ops:Array Oper}{a:Act}{o:Oper}:wantF ops (EG a) o.guard=Region.wanted o (yielded ops a.tmps):=by
 have d: ∀j,yieldF ops (EG a) j=yielded ops a.tmps j:=by
  intro j;unfold yieldF yielded;cases (ops[j]?).bind (·.dst)with
  | none=>rfl
  | some t=>
   simp only[EG,Option.bind_some,Array.getD_eq_getD_getElem?];cases h:a.tmps[t]? with
   | none=>simp[undef]
   | some v=>grind
 unfold wantF Region.wanted;cases o.guard with
 | none=>rfl
 | some g=>
  obtain⟨j,want⟩:=g;simp only[d];cases yielded ops a.tmps j with
  | none=>rfl
  | some b=>cases b<;>cases want<;>rfl
def MO:List Oper->Nat->Bool
 | [],_=>false
 | o::r,i=>match o.guard with
  | some (j,_)=>bif Nat.beq j i then true else MO r i
  | none=>MO r i
def TQ(b:Bool)(v:Value)(K:Value->Prop):Prop:=
 match b with
 | true=>match v with
  | .bool x=>CND x (K (.bool true)) (K (.bool false))
  | v=>K v
 | false=>K v
def MP{b:Bool}{v:Value}{K:Value->Prop}(h:TQ b v K):K v:=by
 unfold TQ at h;split at h
 .split at h
  .rename_i x;cases x<;>exact h
  .exact h
 .exact h
def evOps(P:Program)(C G:E6)(ops:Array Oper)(Q:Fr->World->Prop)(d:Fr->Value->World->Prop):Nat->List Oper->Fr->World->Prop
 | _,[],f,w=>Q f w
 | i,o::r,f,w=>match wantF ops f o.guard with
  | true=>mG P C G o.op o.type f.ev w (λv w'=>TQ (MO ops.toList i) v λv=>evOps P C G ops Q d (i+1) r (f.Oz o.dst v) w') (d f)
  | false=>evOps P C G ops Q d (i+1) r (f.Oz o.dst undef) w
def dsts:List Oper->List Nat
 | []=>[]
 | o::r=>match o.dst with
  | some d=>d::dsts r
  | none=>dsts r
structure Gf(W:List Nat)(a a':Act):Prop where
 size:a'.tmps.size=a.tmps.size
 defers:a'.defers=a.defers
 out: ∀t,t∉W->EG a' t=EG a t
def Gf.refl(W:List Nat)(a:Act):Gf W a a:=⟨rfl,rfl,λ_ _=>rfl⟩
def Gf.trans{W:List Nat}{a b c:Act}(h:Gf W a b)(k:Gf W b c):Gf W a c:=
 ⟨k.size.trans h.size,k.defers.trans h.defers,λt d=>(k.out t d).trans (h.out t d)⟩
def Gf.mono{W V:List Nat}{a b:Act}(h:Gf W a b)(hs: ∀t,t∈W->t∈V):Gf V a b:=
 ⟨h.size,h.defers,λt d=>h.out t λhw=>d (hs t hw)⟩
def Gf.put{W:List Nat}{a:Act}{d:Option Nat}{v:Value}(y: ∀t,d=some t->t∈W):Gf W a (a.put d v):=by
 refine⟨Io a d v,O0 a d v,λt J=> ?_⟩;cases d with
 | none=>rfl
 | some d=>
  have j:d≠t:=λe=>J (e▸y d rfl);simp only[EG,Act.put,Array.getD_eq_getD_getElem?,Array.getElem?_setIfInBounds_ne j]
def within(n:Nat)(W:List Nat):Prop:= ∀t,t∈W->t<n
def NU{P:Program}{C G:E6}(hC:Fits P C)(T:Fits P G){ops:Array Oper}{n:Nat}{W:List Nat}(hW:within n W)(Q:Fr->World->Prop)(J:Fr->Value->World->Prop)(O:Exit->Act->World->Prop)(a0:Act)
  (hQ: ∀a w,a.tmps.size=n->Gf W a0 a->Q (EG a) w->O .normal a w)
  (hP: ∀a v w,a.tmps.size=n->Gf W a0 a->J (EG a) v w->O (.panic [{v:=v,recovered:=false}]) a w):
  ∀(l:List Oper) (i:Nat) (a:Act) (w:World),(∀o∈l,∀d,o.dst=some d->d∈W)->a.tmps.size=n->Gf W a0 a->evOps P C G ops Q J i l (EG a) w->wpList P ops O l a w
 | [],i,a,w,_,hn,ha,h=>hQ a w hn ha h
 | o::r,i,a,w,hd,hn,ha,h=>by
  simp only[evOps]at h;unfold wpList;rw[TP]at h;have y: ∀t,o.dst=some t->t∈W:=λt ht=>hd o (by simp) t ht;have j: ∀v,EG (a.put o.dst v)=(EG a).Oz o.dst v:=λv=>Qq (λt ht=>by have:=hW t (y t ht);omega) v;split at h
  .rename_i hw;rw[if_pos hw];refine .inl (O5 (K:=λv w'=>TQ (MO ops.toList i) v λv=>evOps P C G ops Q J (i+1) r ((EG a).Oz o.dst v) w') (Kp:=J (EG a)) ?_ (λv w' Y=> ?_) λv w' Y=>hP a v w' hn ha Y)
   .have:=O4 hC T (λ_=>rfl) (o:=o) h;rwa[JA]at this
   .refine NU hC T hW Q J O a0 hQ hP r (i+1) _ w' (λo ho=>hd o (by simp[ho])) (by rw[Io];exact hn) (ha.trans (Gf.put y)) ?_;rw[j];exact MP Y
  .rename_i hw;rw[if_neg (by simp[hw])];refine NU hC T hW Q J O a0 hQ hP r (i+1) _ w (λo ho=>hd o (by simp[ho])) (by rw[Io];exact hn) (ha.trans (Gf.put y)) ?_;rw[j];exact h
abbrev zD:=List (Nat×(World->Prop))
def waits:List Edge->Nat->Bool
 | [],_=>false
 | e::r,k=>match Region.binds .any e with
  | true=>bif Nat.beq e.on k then true else waits r k
  | false=>waits r k
def X6{l:List Edge}{k:Nat}(h: ∀e∈l,Region.binds .any e=true->e.on≠k):waits l k=false:=by
 induction l with
 | nil=>rfl
 | cons e r ih=>
  have j:=ih λe he=>h e (by simp[he]);unfold waits;split
  .rename_i hb;have d:=h e (by simp) hb;have:Nat.beq e.on k=false:=by
    cases hh:Nat.beq e.on k
    .rfl
    .exact absurd (Nat.eq_of_beq_eq_true hh) d
   grind
  omega
def keepFam{α:Type}(after:List Edge):List (Nat×α)->List (Nat×α)
 | []=>[]
 | p::r=>match waits after p.1 with
  | true=>keepFam after r
  | false=>p::keepFam after r
def JM{α:Type}(after:List Edge): ∀(l:List (Nat×α)) p,p∈keepFam after l->p∈l
 | [],p,h=>by simp[keepFam]at h
 | q::r,p,h=>by
  unfold keepFam at h;split at h
  .exact List.mem_cons_of_mem _ (JM after r p h)
  .rcases List.mem_cons.1 h with rfl|h
   .simp
   .exact List.mem_cons_of_mem _ (JM after r p h)
def Pc{α:Type}(after:List Edge): ∀(l m:List (Nat×α)),(∀p∈l,p∈m)-> ∀p∈keepFam after l,p∈keepFam after m:=by
 have key: ∀(m:List (Nat×α)) p,p∈m->waits after p.1=false->p∈keepFam after m:=by
  intro m
  induction m with
  | nil=>grind
  | cons q r ih=>
   intro p h hw;unfold keepFam;rcases List.mem_cons.1 h with rfl|h
   .simp[hw]
   .split
    .exact ih p h hw
    .exact List.mem_cons_of_mem _ (ih p h hw)
 have d: ∀(l:List (Nat×α)) p,p∈keepFam after l->waits after p.1=false:=by
  intro l
  induction l with
  | nil=>intro p h;simp[keepFam]at h
  | cons q r ih=>
   intro p h;unfold keepFam at h
   grind
 intro l m hs p hp;exact key m p (hs p (JM after l p hp)) (d l p hp)
def afterOf(ops:Array Oper)(j:Nat):List Edge:=match ops[j]? with|some o=>o.after.toList|none=>[]
def Ki(P:Program)(ops:Array Oper)(Q:Exit->Act->World->Prop):Nat->zD->Array Bool->Act->World->Prop
 | 0,_,listed,a,w=>Region.ready .any ops listed=[]/\Q .normal a w
 | fuel+1,fam,listed,a,w=>
  (Region.ready .any ops listed=[]->Q .normal a w)/\
  ∀j∈Region.ready .any ops listed,wpOp P ops Q j (λd w'=>(∀p∈keepFam (afterOf ops j) fam,p.2 w')/\
   Ki P ops Q fuel (keepFam (afterOf ops j) fam) (listed.setIfInBounds j true) d w') a w
section
variable{P:Program}{ops:Array Oper}{Q:Exit->Act->World->Prop}
def TR: ∀(fuel:Nat) (d:zD) (listed:Array Bool) (a:Act) (w:World),Ki P ops Q fuel d listed a w->wpAny P .any ops Q fuel listed a w
 | 0,_,_,_,_,h=>h
 | fuel+1,_,_,_,_,h=>⟨h.1,λi y=>wpOp_mono (λj w' v=>TR fuel _ _ j w' v.2) (h.2 i y)⟩
def RZ: ∀(fuel:Nat) (v d:zD) (listed:Array Bool) (a:Act) (w:World),(∀p∈d,p∈v)->Ki P ops Q fuel v listed a w->Ki P ops Q fuel d listed a w
 | 0,_,_,_,_,_,_,h=>h
 | fuel+1,v,d,_,_,_,hs,h=>⟨h.1,λj J=>wpOp_mono (λK w' y=>
   ⟨λp hp=>y.1 p (Pc _ _ _ hs p hp),RZ fuel _ _ _ _ _ (Pc _ _ _ hs) y.2⟩) (h.2 j J)⟩
def NV(i:Nat): ∀(fuel:Nat) (d:zD) (listed:Array Bool) (a:Act) (w:World),Ki P ops Q fuel d listed a w->Ki P ops Q fuel ((i,λ_=>True)::d) listed a w
 | 0,_,_,_,_,h=>h
 | fuel+1,d,listed,a,w,h=>by
  refine⟨h.1,λj y=>wpOp_mono (λJ w' v=> ?_) (h.2 j y)⟩;unfold keepFam;split
  .exact v
  .refine⟨λp hp=> ?_,NV i fuel _ _ _ _ v.2⟩;rcases List.mem_cons.1 hp with rfl|hp
   .trivial
   .exact v.1 p hp
def NW{i:Nat}{oi:Oper}{v:Value}{S:World->Prop}(hi:ops[i]? =some oi)(aA: ∀(j:Nat) (o:Oper) cs b,ops[j]? =some o->o.op≠ .select cs b)
  (hQ: ∀c a w,¬Q (.panic c) a w):
  ∀(fuel:Nat) (d:zD) (listed:Array Bool) (a:Act) (w:World),
   (∀j oj,ops[j]? =some oj->j≠i->listed.getD j true=false->(∀e∈oj.after,Region.binds .any e=true->e.on≠i)->oi.apart ops oj=true)->
   i∈Region.ready .any ops listed->YieldsIf P ops S oi v a->S w->(∀p∈d,p.2 w)->
   Ki P ops Q fuel ((i,S)::d) (listed.setIfInBounds i true) (a.put oi.dst v) w->Ki P ops Q (fuel+1) d listed a w:=by
 have own: ∀(fuel:Nat) (d:zD) (listed:Array Bool) (a:Act) (w:World),YieldsIf P ops S oi v a->S w->(∀p∈d,p.2 w)->
   Ki P ops Q fuel ((i,S)::d) (listed.setIfInBounds i true) (a.put oi.dst v) w->
   wpOp P ops Q i (λa' w'=>(∀p∈keepFam (afterOf ops i) d,p.2 w')/\Ki P ops Q fuel (keepFam (afterOf ops i) d) (listed.setIfInBounds i true) a' w') a w:=by
  intro fuel d listed a w hy hS y H;refine hy.wpOp hi hS ⟨λp hp=>y p (JM _ _ _ hp),RZ _ _ _ _ _ _ (λp hp=>List.mem_cons_of_mem _ (JM _ _ _ hp)) H⟩
 intro fuel
 induction fuel with
 | zero=>
  intro d listed a w _ hr hy hS y H;refine⟨λh=>(by rw[h]at hr;cases hr),λj hj=> ?_⟩;by_cases hji:j=i
  .subst hji;exact own 0 d listed a w hy hS y H
  .have:=ready_mono hj hji;rw[H.1]at this;cases this
 | succ fuel ih=>
  intro d listed a w K hr hy hS y H;refine⟨λh=>(by rw[h]at hr;cases hr),λj hj=> ?_⟩;by_cases hji:j=i
  .subst hji;exact own _ d listed a w hy hS y H
  .have h1:=H.2 j (ready_mono hj hji);obtain⟨aH,oj,T,aF⟩:=mem_ready.1 hj;have Y: ∀e∈oj.after,Region.binds .any e=true->e.on≠i:=λe he hb heq=>by
    have h1:=aF e he hb;have h0:=(mem_ready.1 hr).1
    grind
   have aB:keepFam (afterOf ops j) ((i,S)::d)=(i,S)::keepFam (afterOf ops j) d:=by
    have aP:waits (afterOf ops j) i=false:=X6 λe he hb=>by
     simp only[afterOf,T]at he;exact Y e (by simpa using he) hb
    simp[keepFam,aP]
   rw[aB]at h1;have h2:=wpOp_putIf T (K j oj T hji aH Y) (λcs b=>aA i oi cs b hi) (λcs b=>aA j oj cs b T) (λc a w h=>(hQ _ _ _ h).elim) hy h1;have O: ∀k ok,ops[k]? =some ok->k≠i->(listed.setIfInBounds j true).getD k true=false->
     (∀e∈ok.after,Region.binds .any e=true->e.on≠i)->oi.apart ops ok=true:=λk ok hk aN aI aO=>by
    refine K k ok hk aN ?_ aO;by_cases hjk:j=k
    .grind
    .rw[getD_set_ne true hjk]at aI;exact aI
   refine wpOp_mono (λa' w' h3=> ?_) h2;obtain⟨aQ,aG,h4⟩:=h3;have aL:S w':=aG (i,S) (by simp);have J: ∀p∈keepFam (afterOf ops j) d,p.2 w':=λp hp=>aG p (by simp[hp]);refine⟨J,ih _ (listed.setIfInBounds j true) a' w' O (ready_mono hr (Ne.symm hji)) aQ aL J ?_⟩;rw[Array.setIfInBounds_comm _ _ hji];exact h4
end
def pickEarly(P:Program)(ops:Array Oper)(listed:Array Bool):List Nat->Option Nat
 | []=>none
 | i::r=>match ops[i]? with
  | some o=>match zN P o.op with
   | true=>pickEarly P ops listed r
   | false=>match Region.free .any ops listed i with
    | true=>some i
    | false=>pickEarly P ops listed r
  | none=>pickEarly P ops listed r
def KM{P:Program}{ops:Array Oper}{listed:Array Bool}: ∀{l:List Nat} {i:Nat},pickEarly P ops listed l=some i->i∈l/\Region.free .any ops listed i=true
 | [],i,h=>by simp[pickEarly]at h
 | k::r,i,h=>by
  unfold pickEarly at h;split at h
  .split at h
   .obtain⟨h1,h2⟩:=KM h;grind
   .split at h
    .grind
    .obtain⟨h1,h2⟩:=KM h;grind
  .obtain⟨h1,h2⟩:=KM h;grind
def WS:List (Nat×HB)->World->Prop->Prop
 | [],_,X=>X
 | p::r,w,X=>p.2 w/\WS r w X
def Pd: ∀{l:List (Nat×HB)} {w:World} {X:Prop},WS l w X->(∀p∈l,p.2 w)/\X
 | [],_,_,h=>⟨by simp,h⟩
 | p::r,w,X,h=>by
  obtain⟨h1,h2⟩:=h;obtain⟨j,v⟩:=Pd h2;exact⟨λq d=>by rcases List.mem_cons.1 d with rfl|d;exact h1;exact j q d,v⟩
def mH:List Nat->(Nat->Prop)->Prop
 | [],_=>True
 | [j],K=>K j
 | j::r,K=>K j/\mH r K
def TS: ∀{l:List Nat} {K:Nat->Prop},mH l K-> ∀j∈l,K j
 | [],_,_,_,h=>by cases h
 | [j],K,h,k,hk=>by simp at hk;subst hk;exact h
 | j::i::r,K,h,k,hk=>by
  rcases List.mem_cons.1 hk with rfl|hk
  .exact h.1
  .exact TS h.2 k hk
def evDraw(P:Program)(C G:E6)(ops:Array Oper)(Q:Fr->World->Prop):Nat->List (Nat×HB)->Array Bool->Fr->World->Prop
 | 0,_,listed,f,w=>match Region.ready .any ops listed with
  | []=>Q f w
  | _::_=>False
 | fuel+1,pend,listed,f,w=>match Region.ready .any ops listed with
  | []=>Q f w
  | j::rs=>match pickEarly P ops listed (j::rs)with
   | some i=>match ops[i]? with
    | some o=>match wantF ops f o.guard with
     | true=>match opK P o.op with
      | .pure=>evPure P o.op o.type f.ev λv=>TQ (MO ops.toList i) v λv=>evDraw P C G ops Q fuel pend (listed.setIfInBounds i true) (f.Oz o.dst v) w
      | .read=>evRead P o.op f.ev w λv S=>TQ (MO ops.toList i) v λv=>evDraw P C G ops Q fuel ((i,S)::pend) (listed.setIfInBounds i true) (f.Oz o.dst v) w
      | .Xj=>False
     | false=>evDraw P C G ops Q fuel pend (listed.setIfInBounds i true) (f.Oz o.dst undef) w
    | none=>False
   | none=>mH (j::rs) λi=>match ops[i]? with
    | some o=>match wantF ops f o.guard with
     | true=>mG P C G o.op o.type f.ev w (λv w'=>WS (keepFam o.after.toList pend) w' (TQ (MO ops.toList i) v λv=>
       evDraw P C G ops Q fuel (keepFam o.after.toList pend) (listed.setIfInBounds i true) (f.Oz o.dst v) w')) NI
     | false=>evDraw P C G ops Q fuel (keepFam o.after.toList pend) (listed.setIfInBounds i true) (f.Oz o.dst undef) w
    | none=>False
def WT{P:Program}{C G:E6}(hC:Fits P C)(hG:Fits P G){ops:Array Oper}{n:Nat}{W:List Nat}(hW:within n W)(hd: ∀(i:Nat) o,ops[i]? =some o-> ∀d,o.dst=some d->d∈W)
  (aD:Region.noSelect ops=true)(Q:Fr->World->Prop)(QQ:Exit->Act->World->Prop)(hP: ∀c a w,¬QQ (.panic c) a w)(a0:Act)
  (hQ: ∀a w,a.tmps.size=n->Gf W a0 a->Q (EG a) w->QQ .normal a w):
  ∀(fuel:Nat) (y:List (Nat×HB)) (listed:Array Bool) (a:Act) (w:World),a.tmps.size=n->Gf W a0 a->(∀p∈y,p.2 w)->
   evDraw P C G ops Q fuel y listed (EG a) w->Ki P ops QQ fuel y listed a w:=by
 have T: ∀(a:Act) (i:Nat) (o:Oper) v,a.tmps.size=n->ops[i]? =some o->EG (a.put o.dst v)=(EG a).Oz o.dst v:=
  λa i o v hn K=>Qq (λt ht=>by have:=hW t (hd i o K t ht);omega) v
 intro fuel
 induction fuel with
 | zero=>
  intro y listed a w hn ha _ h;unfold evDraw at h;split at h
  .rename_i hr;exact⟨hr,hQ a w hn ha h⟩
  .exact h.elim
 | succ fuel ih=>
  intro y listed a w hn ha J h;unfold evDraw at h;split at h
  .rename_i hr;exact⟨λ_=>hQ a w hn ha h,λj hj=>by rw[hr]at hj;cases hj⟩
  .rename_i j rs hr;split at h
   .rename_i i hpick;obtain⟨aJ,Y⟩:=KM hpick;split at h
    .rename_i o K;have O:i∈Region.ready .any ops listed:=by rw[hr];exact aJ
     rw[TP]at h;split at h
     .rename_i hw;split at h
      .obtain⟨v,hK,aC⟩:=PX h;have aB:=MP hK;rw[<-T a i o v hn K]at aB;refine NW (oi:=o) (v:=v) (S:=λ_=>True) K (Region.noSelect_spec aD) hP fuel y listed a w (Region.free_spec K Y) O (.inl ⟨hw,λw' _=> ?_⟩) trivial J ?_
       .have:=aC w';rwa[JA]at this
       .exact NV _ _ _ _ _ _ (ih _ _ _ w (by rw[Io];exact hn) (ha.trans (Gf.put (hd i o K))) J aB)
      .obtain⟨v,S,hK,hS,aC⟩:=Pa h;have aB:=MP hK;rw[<-T a i o v hn K]at aB;refine NW (oi:=o) (v:=v) (S:=S) K (Region.noSelect_spec aD) hP fuel y listed a w (Region.free_spec K Y) O (.inl ⟨hw,λw' aI=> ?_⟩) hS J ?_
       .have:=aC w' aI;rwa[JA]at this
       .refine ih ((i,S)::y) _ _ w (by rw[Io];exact hn) (ha.trans (Gf.put (hd i o K))) ?_ aB
        grind
      grind
     .rename_i hw;rw[<-T a i o undef hn K]at h;have h1:=ih y _ _ w (by rw[Io];exact hn) (ha.trans (Gf.put (hd i o K))) J h;refine NW (oi:=o) (v:=undef) (S:=λ_=>True) K (Region.noSelect_spec aD) hP fuel y listed a w (Region.free_spec K Y) O (.inr ⟨by omega,rfl⟩) trivial J ?_;exact NV _ _ _ _ _ _ h1
    .exact h.elim
   .refine⟨λh0=>(by rw[hr]at h0;cases h0),λi hi=> ?_⟩;rw[hr]at hi;have h1:=TS h i hi;split at h1
    .rename_i o K;have aM:afterOf ops i=o.after.toList:=by simp[afterOf,K]
     suffices hgoal:wpOp P ops QQ i (λa' w'=>(∀p∈keepFam o.after.toList y,p.2 w')/\
       Ki P ops QQ fuel (keepFam o.after.toList y) (listed.setIfInBounds i true) a' w') a w by grind
     unfold wpOp;rw[K];show(if _ then _ else _);rw[TP]at h1;split at h1
     .rename_i hw;rw[if_pos hw];have hg:=O4 hC hG (λ_=>rfl) (o:=o) h1;rw[JA]at hg;refine .inl (O5 hg (λv w' hK=> ?_) λ_ _ f=>f.elim);obtain⟨hk,h2⟩:=Pd hK;have h3:=MP h2;rw[<-T a i o v hn K]at h3;exact⟨hk,ih _ _ _ w' (by rw[Io];exact hn) (ha.trans (Gf.put (hd i o K))) hk h3⟩
     .rename_i hw;rw[if_neg (by simp[hw])];rw[<-T a i o undef hn K]at h1;have hk: ∀p∈keepFam o.after.toList y,p.2 w:=λp hp=>J p (JM _ _ _ hp);exact⟨hk,ih _ _ _ w (by rw[Io];exact hn) (ha.trans (Gf.put (hd i o K))) hk h1⟩
    grind
structure SY where
  loops:List (Nat×qU)
  Ra:List (Nat×qU)
def look{α:Type}:List (Nat×α)->Nat->Option α
  | [],_=>none
  | (k,x)::r,n=>bif Nat.beq k n then some x else look r n
def orElse{α:Type}:Option α->Option α->Option α
  | some x,_=>some x
  | none,y=>y
def firstR:Code->Option Nat
  | .region id _ _=>some id
  | .seq a b=>orElse (firstR a) (firstR b)
  | .cond _ a b=>orElse (firstR a) (firstR b)
  | .block _ c=>firstR c
  | .loop c=>firstR c
  | .scope c=>firstR c
  | _=>none
def written:Code->List Nat
  | .region _ ops _=>dsts ops.toList
  | .seq a b=>written a++written b
  | .cond _ a b=>written a++written b
  | .block _ c=>written c
  | .loop c=>written c
  | .scope c=>written c
  | _=>[]
abbrev Post:=Exit->Fr->World->Prop
def Post.then(K:Fr->World->Prop)(Q:Post):Post:=λe f w=>match e with
  | .normal=>K f w
  | e=>Q e f w
def Post.inBlock(id:Nat)(Q:Post):Post:=λe f w=>match e with
  | .exit k=>match Nat.beq k id with
    | true=>Q .normal f w
    | false=>Q (.exit k) f w
  | e=>Q e f w
def Post.noGoto(Q:Post):Post:=λe f w=>match e with
  | .goto _=>False
  | e=>Q e f w
def At(σ:Type)(s0:σ)(w0:World)(body:σ->(Nat->Value)->World->(σ->World->Prop)->Prop):Prop:=
  ∃(I:σ->World->Prop) (μ:σ->World->Nat),I s0 w0/\ ∀s j w,I s w->body s j w λs' w'=>I s' w'/\μ s' w'<μ s w
def Af(σ:Type)(first:(σ->World->Prop)->Prop)(rest:σ->(Nat->Value)->World->Prop):Prop:=
  ∃J:σ->World->Prop,first J/\ ∀s j w,J s w->rest s j w
def ev(P:Program)(C G:E6)(A:SY):Code->Post->Fr->World->Prop
  | .skip,Q,f,w=>Q .normal f w
  | .ret,Q,f,w=>Q .ret f w
  | .exit id,Q,f,w=>Q (.exit id) f w
  | .region _ ops d,Q,f,w=>match d with
    | false=>evOps P C G ops (Q .normal) (λf v w=>Q (.panic [{v:=v,recovered:=false}]) f w) 0 ops.toList f w
    | true=>match Region.noSelect ops with
      | true=>evDraw P C G ops (Q .normal) ops.size [] (Array.replicate ops.size false) f w.drew
      | false=>False
  | .seq x y,Q,f,w=>match(firstR y).bind (look A.Ra)with
    | none=>ev P C G A x (Post.then (ev P C G A y Q) Q) f w
    | some l=>Af (St l) (λJ=>ev P C G A x (Post.then (λf' w'=>Fr.get l f' λs=>J s w') Q) f w)
        λs j w'=>ev P C G A y Q (Fr.set l s (f.Xu (written x) j)) w'
  | .cond c x y,Q,f,w=>match f.ev c with
    | .bool b=>CND b (ev P C G A x Q f w) (ev P C G A y Q f w)
    | _=>False
  | .block id c,Q,f,w=>ev P C G A c (Post.inBlock id Q) f w
  | .scope c,Q,f,w=>ev P C G A c (Post.noGoto Q) f w
  | .label _,Q,f,w=>Q .normal f w
  | .loop c,Q,f,w=>match(firstR c).bind (look A.loops)with
    | none=>False
    | some l=>Fr.get l f λs=>At (St l) s w λs j w' next=>
        ev P C G A c (Post.then (λf' K=>Fr.get l f' λs'=>next s' K) Q) (Fr.set l s (f.Xu (written c) j)) w'
  | _,_,_,_=>False
def lift(n:Nat)(W:List Nat)(a0:Act)(Q:Post):Exit->Act->World->Prop
  | .outgrown,_,_=>False
  | e,a,w=>a.tmps.size=n/\Gf W a0 a/\Q e (EG a) w
def calmQ(Q:Post):Post:=λe f w=>match e with
  | .panic _=>False
  | e=>Q e f w
def OD{n:Nat}{W V:List Nat}{a0:Act}{Q:Post}(h: ∀t,t∈W->t∈V)(e:Exit)(a:Act)(w:World)(d:lift n W a0 Q e a w):lift n V a0 Q e a w:=by
  cases e<;>simp only[lift]at d⊢ <;>first
    | exact d
    | exact⟨d.1,d.2.1.mono h,d.2.2⟩
def TT: ∀{l:List Oper} {o:Oper} {d:Nat},o∈l->o.dst=some d->d∈dsts l
  | [],o,d,h,_=>by cases h
  | p::r,o,d,h,hd=>by
    unfold dsts;rcases List.mem_cons.1 h with rfl|h
    . rw[hd];simp
    . have:=TT h hd
      grind
def Fg{P:Program}{C G:E6}(hC:Fits P C)(T:Fits P G)(hm:P.follows .mixedOrders=true){A:SY}{n:Nat}:
    ∀(c:Code),within n (written c)-> ∀(Q:Post) (a:Act) (w:World),a.tmps.size=n->ev P C G A c Q (EG a) w->c.wp P (lift n (written c) a Q) a w
  | .skip,_,Q,a,w,hn,h=>wp_skip ⟨hn,.refl _ _,h⟩
  | .ret,_,Q,a,w,hn,h=>wp_ret ⟨hn,.refl _ _,h⟩
  | .exit id,_,Q,a,w,hn,h=>wp_exit ⟨hn,.refl _ _,h⟩
  | .region id ops d,hW,Q,a,w,hn,h=>by
    have hd: ∀(i:Nat) o,ops[i]? =some o-> ∀d,o.dst=some d->d∈dsts ops.toList:=λi o ho d hd=>
      TT (Array.mem_toList_iff.2 (Array.mem_of_getElem? ho)) hd
    unfold ev at h;split at h
    . refine wp_region_list ?_;exact NU hC T hW (Q .normal) (λf v w=>Q (.panic [{v:=v,recovered:=false}]) f w) _ a (λK w' aA ha hq=>⟨aA,ha,hq⟩) (λK v w' aA ha hq=>⟨aA,ha,hq⟩) ops.toList 0 a w (λo ho d hd=>TT ho hd) hn (.refl _ _) h
    . split at h
      . rename_i hs;refine Code.wp_mono (Q:=lift n (dsts ops.toList) a (calmQ Q)) (λe K w' j=> ?_) (wp_region_any hm (TR _ [] _ _ _ ?_))
        . cases e<;>simp only[lift,calmQ]at j⊢ <;>first
            | exact j
            | grind
        exact WT hC T hW hd hs (Q .normal) (lift n (dsts ops.toList) a (calmQ Q)) (λc a w h=>h.2.2) a (λK w' aA ha hq=>⟨aA,ha,hq⟩) ops.size [] _ a _ hn (.refl _ _) (by simp) h
      grind
  | .seq x y,hW,Q,a,w,hn,h=>by
    have aC:within n (written x):=λt ht=>hW t (by simp[written,ht]);have aD:within n (written y):=λt ht=>hW t (by simp[written,ht]);unfold ev at h;split at h
    . refine wp_seq (Code.wp_mono (λe K w' j=> ?_) (Fg hC T hm x aC _ a w hn h));cases e<;>simp only[lift,Exit.then,Post.then]at j⊢ <;>first
        | exact j.elim
        | exact⟨j.1,j.2.1.mono (by simp[written];grind),j.2.2⟩
        | (refine Code.wp_mono (λe aG O aI=> ?_) (Fg hC T hm y aD Q K w' j.1 j.2.2)
           have h1:=OD (V:=written (.seq x y)) (by simp[written];grind) e aG O aI;have h2:Gf (written (.seq x y)) a K:=j.2.1.mono (by simp[written];grind);cases e<;>simp only[lift]at h1⊢ <;>first
             | exact h1
             | exact⟨h1.1,h2.trans h1.2.1,h1.2.2⟩)
    . rename_i l hl0;obtain⟨J,h1,h2⟩:=h;refine wp_seq (Code.wp_mono (λe K w' j=> ?_) (Fg hC T hm x aC _ a w hn h1));cases e<;>simp only[lift,Exit.then,Post.then]at j⊢ <;>first
        | exact j.elim
        | exact⟨j.1,j.2.1.mono (by simp[written];grind),j.2.2⟩
        | (obtain⟨s,hs,hJ⟩:=NM j.2.2
           have h3:ev P C G A y Q (Fr.set l s ((EG a).Xu (written x) (EG K))) w':=h2 s (EG K) w' hJ;rw[NN hs (λt ht=>j.2.1.out t ht)]at h3;refine Code.wp_mono (λe aG O aI=> ?_) (Fg hC T hm y aD Q K w' j.1 h3);have h1:=OD (V:=written (.seq x y)) (by simp[written];grind) e aG O aI;have h2:Gf (written (.seq x y)) a K:=j.2.1.mono (by simp[written];grind);cases e<;>simp only[lift]at h1⊢ <;>first
             | exact h1
             | exact⟨h1.1,h2.trans h1.2.1,h1.2.2⟩)
  | .cond c x y,hW,Q,a,w,hn,h=>by
    have aC:within n (written x):=λt ht=>hW t (by simp[written,ht]);have aD:within n (written y):=λt ht=>hW t (by simp[written,ht]);unfold ev at h;split at h
    . rename_i b hb;rw[OB]at hb;cases b
      . refine wp_cond_false hb (Code.wp_mono (λe K w' j=> ?_) (Fg hC T hm y aD _ a w hn h));exact OD (by simp[written];grind) e K w' j
      . refine wp_cond_true hb (Code.wp_mono (λe K w' j=> ?_) (Fg hC T hm x aC _ a w hn h));exact OD (by simp[written];grind) e K w' j
    grind
  | .block id c,hW,Q,a,w,hn,h=>by
    refine wp_block (Code.wp_mono (λe K w' j=> ?_) (Fg hC T hm c hW _ a w hn h));cases e<;>simp only[lift,Exit.inBlock,Post.inBlock]at j⊢ <;>first
      | exact j
      | skip
    rename_i k;obtain⟨h1,h2,h3⟩:=j;split at h3
    . rename_i e;have:=Nat.eq_of_beq_eq_true e;subst this;rw[if_pos rfl];exact⟨h1,h2,h3⟩
    . rename_i e;rw[if_neg (by intro e';subst e';simp at e)];exact⟨h1,h2,h3⟩
  | .loop c,hW,Q,a,w,hn,h=>by
    unfold ev at h;split at h
    . exact h.elim
    . rename_i l hl0;obtain⟨s0,aS,I,μ,h0,aE⟩:=NM h;have key:(Code.loop c).wp P (lift n (written c) a Q) a w:=by
        refine wp_loop (λK w'=>K.tmps.size=n/\Gf (written c) a K/\ ∃s,Oc l s (EG K)/\I s w')
          (λK w'=> @dite Nat (∃s,Oc l s (EG K)/\I s w') (Classical.propDecidable _) (λh=>μ (Classical.choose h) w') (λ_=>0)) ⟨hn,.refl _ _,s0,aS,h0⟩ ?_
        intro a1 w1 hI;obtain⟨aP,aH,s,hs,hi⟩:=hI;have hex: ∃s,Oc l s (EG a1)/\I s w1:=⟨s,hs,hi⟩;have hc:=Classical.choose_spec hex;have hr:ev P C G A c (Post.then (λf' O=>Fr.get l f' λs'=>I s' O/\μ s' O<μ (Classical.choose hex) w1) Q) (Fr.set l (Classical.choose hex) ((EG a).Xu (written c) (EG a1))) w1:=aE (Classical.choose hex) (EG a1) w1 hc.2;rw[NN hc.1 (λt ht=>aH.out t ht)]at hr;refine Code.wp_mono (λe a2 w2 j=> ?_) (Fg hC T hm c hW _ a1 w1 aP hr);cases e<;>simp only[lift,Exit.then,Post.then]at j⊢ <;>first
          | exact j.elim
          | exact⟨j.1,aH.trans j.2.1,j.2.2⟩
          | skip
        obtain⟨aQ,aM,h3⟩:=j;obtain⟨s',aL,aN,aO⟩:=NM h3;have Y: ∃s,Oc l s (EG a2)/\I s w2:=⟨s',aL,aN⟩;refine⟨⟨aQ,aH.trans aM,Y⟩,?_⟩;rw[dif_pos Y,dif_pos hex];rw[VX (Classical.choose_spec Y).1 aL];exact aO
      exact key
  | .rangeFunc _ _ _ _,_,_,_,_,_,h=>by simp[ev]at h
  | .scope c,hW,Q,a,w,hn,h=>by
    refine wp_scope_straight (Code.wp_mono (λe K w' j=> ?_) (Fg hC T hm c hW _ a w hn h));cases e<;>simp only[lift,Exit.noGoto,Post.noGoto]at j⊢ <;>first
      | exact j
      | grind
  | .label _,_,Q,a,w,hn,h=>wp_label ⟨hn,.refl _ _,h⟩
  | .goto _,_,_,_,_,_,h=>by simp[ev]at h
  | .refuse _,_,_,_,_,_,h=>by simp[ev]at h
def evRes(P:Program):List ResultVar->Fr->World->(List Value->Prop)->Prop
  | [],_,_,K=>K []
  | .tmp t::r,f,w,K=>evRes P r f w λl=>K (f t::l)
  | .cell a ty::r,f,w,K=>match f a with
    | .pointer p=>NC p λp=>aS P ty p w λv _=>evRes P r f w λl=>K (v::l)
    | _=>False
def resV:List Value->Value
  | [v]=>v
  | l=>.tuple ⟨l⟩
def nthV:List Value->Nat->Value
  | [],_=>undef
  | v::_,0=>v
  | _::r,n+1=>nthV r n
def IE(args:List Value):Fr:=λt=>nthV args t
def finQ(P:Program)(fn:Func)(K Kp:Value->World->Prop):Post:=λe f w=>match e with
  | .normal=>evRes P fn.results.toList f w λl=>K (resV l) w
  | .ret=>evRes P fn.results.toList f w λl=>K (resV l) w
  | .panic [⟨v,false,false⟩]=>Kp v w
  | _=>False
def withinB(n:Nat):List Nat->Bool
  | []=>true
  | t::r=>match Nat.ble (t+1) n with
    | true=>withinB n r
    | false=>false
def Kw{n:Nat}:{W:List Nat}->withinB n W=true->within n W
  | [],_=>by intro t d;cases d
  | t::r,h=>by
    unfold withinB at h;split at h
    . rename_i hle;intro u hu;rcases List.mem_cons.1 hu with rfl|hu
      . have:=Nat.le_of_ble_eq_true hle;omega
      . exact Kw h u hu
    . cases h
def WU: ∀(l:List Value) (t:Nat),nthV l t=(l[t]?).getD undef
  | [],t=>by simp[nthV]
  | v::r,0=>by simp[nthV]
  | v::r,n+1=>by simp[nthV,WU r n]
def resOne(tmps:Array Value):ResultVar->Sem Value
  | .tmp t=>pure (tmps.getD t undef)
  | .cell a t=>do loadVar t (<-asAddr (tmps.getD a undef))
def O6{P:Program}{a:Act}{w:World}:{rs:List ResultVar}->{K:List Value->Prop}->evRes P rs (EG a) w K->
    ∃l,K l/\(rs.mapM (resOne a.tmps)).run P w= .ok l w
  | [],K,h=>⟨[],h,by simp⟩
  | .tmp t::r,K,h=>by
    unfold evRes at h;obtain⟨l,d,y⟩:=O6 h;exact⟨_,d,by simp only[List.mapM_cons,Sem.run_bind,resOne,Sem.run_pure,Result.andThen_ok,y];rfl⟩
  | .cell p ty::r,K,h=>by
    unfold evRes at h;split at h
    . rename_i q hq;obtain⟨O,rfl,h2⟩:=Iy h;obtain⟨v,S,h1,hS,J⟩:=RX h2;obtain⟨l,d,y⟩:=O6 h1;have j:a.tmps.getD p undef= .pointer (some O):=hq;exact⟨_,d,by simp only[List.mapM_cons,Sem.run_bind,resOne,j,asAddr,Sem.run_pure,Result.andThen_ok,J w hS,y]⟩
    grind
def KE{P:Program}{fn:Func}{a:Act}{w:World}{K:List Value->Prop}(h:evRes P fn.results.toList (EG a) w K):
    ∃l,K l/\(results fn a.tmps).run P w= .ok (resV l) w:=by
  obtain⟨l,d,j⟩:=O6 h;refine⟨l,d,?_⟩;have he:results fn a.tmps=(do let vs <-fn.results.mapM (resOne a.tmps);pure (if h:vs.size=1 then vs[0]else .tuple vs)):=by
    unfold results;congr 2
  rw[he,Array.mapM_eq_mapM_toList];simp only[Sem.run_bind,Sem.run_map,j,Result.andThen_ok,Sem.run_pure];congr 1
  match l with
  | []=>simp[resV]
  | [v]=>simp[resV]
  | v::u::r=>simp[resV]
def X7{P:Program}{C G:E6}{A:SY}{fn:Func}{c:Code}{args:List Value}{w:World}{K Kp:Value->World->Prop}
    (hC:Fits P C)(T:Fits P G)(hm:P.follows .mixedOrders=true)(J:Nat.ble args.length fn.ntmps=true)
    (hW:withinB fn.ntmps (written c)=true)(h:ev P C G A c (finQ P fn K Kp) (IE args) w):
    c.wp P (bodyPost P fn (Ends K Kp)) {tmps:=(⟨args⟩:Array Value)++Array.replicate (fn.ntmps-(⟨args⟩:Array Value).size) undef,defers:=[]} w:=by
  have O:=Nat.le_of_ble_eq_true J;have h0:EG ⟨(⟨args⟩:Array Value)++Array.replicate (fn.ntmps-args.length) undef,[]⟩=IE args:=by
    funext t;simp only[EG,IE,WU,Array.getD_eq_getD_getElem?,Array.getElem?_append]
    grind
  have hn:((⟨args⟩:Array Value)++Array.replicate (fn.ntmps-args.length) undef).size=fn.ntmps:=by simp;omega
  rw[<-h0]at h;refine Code.wp_mono (λe a' w' d=> ?_) (Fg hC T hm c (Kw hW) _ _ w hn h);cases e<;>simp only[lift,finQ,bodyPost]at d⊢ <;>first
    | exact d.elim
    | exact d.2.2.elim
    | (obtain⟨_,y,j⟩:=d
       obtain⟨l,Y,hr⟩:=KE j;exact⟨y.defers,_,hr,.inl ⟨_,rfl,Y⟩⟩)
    | (obtain⟨_,y,j⟩:=d
       split at j
       . grind
       . grind
       . rename_i v he;cases he;exact⟨y.defers,.inr ⟨_,rfl,j⟩⟩
       grind)
def X8{P:Program}{C G:E6}{A:SY}{f:FuncId}{fn:Func}{c:Code}{args:List Value}{w:World}{K Kp:Value->World->Prop}
    (hC:Fits P C)(j:Fits P G)(hm:P.follows .mixedOrders=true)(hf:P.funcs[f]? =some fn)(y:fn.body=some c)(d:Nat.ble args.length fn.ntmps=true)
    (v:withinB fn.ntmps (written c)=true)(h:ev P C G A c (finQ P fn K Kp) (IE args) w):
    Calls P f ⟨args⟩ w (Ends K Kp):=calls_of_wp hf y (X7 hC j hm d v h)
def JN:List VT->Type
  | []=>Unit
  | t::r=>lJ t×JN r
def mkArgs:(l:List VT)->JN l->List Value
  | [],_=>[]
  | t::r,x=>mkVT t x.1::mkArgs r x.2
def unArgs:(l:List VT)->List Value->(JN l->Prop)->Prop
  | [],[],K=>K ()
  | t::r,v::vs,K=>unVT t v λx=>unArgs r vs λy=>K (x,y)
  | _,_,_=>False
def G3:{l:List VT}->{vs:List Value}->{K:JN l->Prop}->unArgs l vs K-> ∃x,vs=mkArgs l x/\K x
  | [],[],_,h=>⟨(),rfl,h⟩
  | [],_::_,_,h=>h.elim
  | _::_,[],_,h=>h.elim
  | t::r,v::vs,K,h=>by
    simp only[unArgs]at h;obtain⟨x,rfl,h2⟩:=Qo h;obtain⟨y,rfl,d⟩:=G3 h2;exact⟨(x,y),rfl,d⟩
def Ip:{l:List VT}->{x:JN l}->(mkArgs l x).length=l.length
  | [],_=>rfl
  | t::r,x=>by simp[mkArgs,Ip]
abbrev Entry:=Array Value->World->(Value->World->Prop)->(Value->World->Prop)->Prop
def Iz(P:Program)(g:FuncId)(c:Entry):Prop:= ∀args w K Kp,c args w K Kp->
  (∀w,(callFunc g args).run P w= .ok (.enter g args) w)/\Calls P g args w (Ends K Kp)
def Fi(P:Program)(g:FuncId)(c:Entry):Prop:= ∀args w K Kp,c args w K Kp->
  ((∀w,(callFunc g args).run P w= .ok (.enter g args) w)/\Calls P g args w (Ends K Kp))∨ ∃v w',(callFunc g args).run P w= .ok (.value v) w'/\K v w'
def Iz.any{P:Program}{g:FuncId}{c:Entry}(h:Iz P g c):Fi P g c:=λargs w K Kp d=>.inl (h args w K Kp d)
def X9{P:Program}{f:FuncId}{fn:Func}{e:Array Value->Sem Value}(hf:P.funcs[f]? =some fn)(d:(fn.name== "runtime.NumGoroutine")=false)(j:fn.body.isNone=true)(J:Extern.findNext fn=none)(he:Extern.find fn=some e)
    {c:Entry}(y: ∀args w K Kp,c args w K Kp-> ∃v,(e args).run P w= .ok v w/\K v w):Fi P f c:=λargs w K Kp h=>by
  obtain⟨v,h1,h2⟩:=y args w K Kp h;refine .inr ⟨v,w,?_,h2⟩;rw[run_callFunc_extern hf d j J he,h1];rfl
def tabC(l:List (Nat×Entry)):E6:=λg args w K Kp=>match look l g with
  | some c=>c args w K Kp
  | none=>False
def TU{α:Type}:{l:List (Nat×α)}->{g:Nat}->{c:α}->look l g=some c->(g,c)∈l
  | [],_,_,h=>by simp[look]at h
  | (k,x)::r,g,c,h=>by
    simp only[look,cond_eq_ite]at h;by_cases e:Nat.beq k g=true
    . rw[if_pos e]at h;have:=Nat.eq_of_beq_eq_true e
      grind
    . rw[if_neg e]at h;exact List.mem_cons_of_mem _ (TU h)
def OE{P:Program}{l:List (Nat×Entry)}(h: ∀p∈l,Fi P p.1 p.2):Fits P (tabC l):=by
  intro g args w K Kp d;unfold tabC at d;split at d
  . rename_i c hl;exact h _ (TU hl) args w K Kp d
  grind
def Lz{P:Program}: ∀p∈([]:List (Nat×Entry)),Fi P p.1 p.2:=by simp
def TW{P:Program}{g:Nat}{c:Entry}{l:List (Nat×Entry)}(h:Fi P g c)(d: ∀p∈l,Fi P p.1 p.2): ∀p∈(g,c)::l,Fi P p.1 p.2:=by grind
def DT{P:Program}{g:Nat}{c:Entry}{l:List (Nat×Entry)}(h:Iz P g c)(d: ∀p∈l,Fi P p.1 p.2): ∀p∈(g,c)::l,Fi P p.1 p.2:=TW h.any d
def ground(P:Program):E6:=λg args w K Kp=>
  (∀w,(callFunc g args).run P w= .ok (.enter g args) w)/\Calls P g args w (Ends K Kp)
def LR(P:Program):Fits P (ground P):=λ_ _ _ _ _ h=>.inl h
def Rb{P:Program}{T:List (Nat×Entry)}{A:SY}{f:FuncId}{fn:Func}{c:Code}{l:List VT}{F:JN l->(Value->World->Prop)->(Value->World->Prop)->World->Prop}
    (y: ∀p∈T,Fi P p.1 p.2)(hm:P.follows .mixedOrders=true)(hf:P.funcs[f]? =some fn)(d: ∀args w,(callFunc f args).run P w= .ok (.enter f args) w)
    (Y:fn.body=some c)(v:Nat.ble l.length fn.ntmps=true)(J:withinB fn.ntmps (written c)=true)
    (j: ∀x K Kp w,F x K Kp w=ev P (tabC T) (ground P) A c (finQ P fn K Kp) (IE (mkArgs l x)) w):
    Iz P f λargs w K Kp=>unArgs l args.toList λx=>F x K Kp w:=by
  intro args w K Kp h;obtain⟨x,hx,h2⟩:=G3 h;have O:args=⟨mkArgs l x⟩:=Array.toList_inj.1 (by omega);subst O;refine⟨λw=>d _ w,?_⟩;rw[j]at h2;exact X8 (OE y) (LR P) hm hf Y (by rw[Ip];exact v) J h2
abbrev Pe:=FuncId->Array Value->Option Value->World->(Bool->World->Prop)->Prop
abbrev MQ:=Array Value->Option Value->World->(Bool->World->Prop)->Prop
def modeOf:Option Value->FrameMode
  | none=>.returning
  | some v=>.panicking [{v:=v,recovered:=false}]
def TX:Option Value->Bool->FrameMode
  | none,_=>.returning
  | some v,b=>.panicking [{v:=v,recovered:=b}]
def Iq(P:Program)(g:FuncId)(c:MQ):Prop:= ∀args d w K,c args d w K->
  (∀w,(callFunc g args).run P w= .ok (.enter g args) w)/\CallsD P g args (modeOf d) w λe u' w'=> ∃v b,e= .returned v/\K b w'/\u'=TX d b
def vB(P:Program)(C:Pe):Prop:= ∀g args d w K,C g args d w K->
  (∀w,(callFunc g args).run P w= .ok (.enter g args) w)/\CallsD P g args (modeOf d) w λe u' w'=> ∃v b,e= .returned v/\K b w'/\u'=TX d b
def tabD(l:List (Nat×MQ)):Pe:=λg args d w K=>match look l g with
  | some c=>c args d w K
  | none=>False
def iK{P:Program}{l:List (Nat×MQ)}(h: ∀p∈l,Iq P p.1 p.2):vB P (tabD l):=by
  intro g args j w K d;unfold tabD at d;split at d
  . rename_i c hl;exact h _ (TU hl) args j w K d
  grind
def Vf{P:Program}: ∀p∈([]:List (Nat×MQ)),Iq P p.1 p.2:=by simp
def TY{P:Program}{g:Nat}{c:MQ}{l:List (Nat×MQ)}(h:Iq P g c)(d: ∀p∈l,Iq P p.1 p.2): ∀p∈(g,c)::l,Iq P p.1 p.2:=by grind
def YA{P:Program}{T:List (Nat×Entry)}{A:SY}{f:FuncId}{fn:Func}{c:Code}{l:List VT}{F:JN l->(World->Prop)->World->Prop}
    (O: ∀p∈T,Fi P p.1 p.2)(hm:P.follows .mixedOrders=true)(hf:P.funcs[f]? =some fn)(d: ∀args w,(callFunc f args).run P w= .ok (.enter f args) w)
    (hb:fn.body=some c)(y:Nat.ble l.length fn.ntmps=true)(Y:withinB fn.ntmps (written c)=true)
    (j: ∀x K w,F x K w=ev P (tabC T) (ground P) A c (finQ P fn (λ_ w'=>K w') NI) (IE (mkArgs l x)) w):
    Iq P f λargs _ w K=>unArgs l args.toList λx=>F x (K false) w:=by
  intro args pv w K h;obtain⟨x,hx,h2⟩:=G3 h;have ha:args=⟨mkArgs l x⟩:=Array.toList_inj.1 (by omega);subst ha;refine⟨λw=>d _ w,?_⟩;rw[j]at h2;refine(callsD_of_wp hf hb (X7 (OE O) (LR P) hm (by rw[Ip];exact y) Y h2)).mono ?_;rintro e u' w' ⟨rfl,hE⟩;obtain⟨v,rfl,J⟩:=hE.val;refine⟨v,false,rfl,J,?_⟩;cases pv<;>rfl
def recOf:Code->Option (Nat×Code)
  | .seq (.region _ ops false) y=>match ops.toList with
    | [o]=>match o.op with
      | .call c=>match c.callee with
        | .builtin .recover=>match o.guard,o.dst with
          | none,some d=>some (d,y)
          | _,_=>none
        | _=>none
      | _=>none
    | _=>none
  | _=>none
def aW{c:Code}{d:Nat}{y:Code}(h:recOf c=some (d,y)):
    ∃id o k,c= .seq (.region id #[o] false) y/\o.op= .call k/\k.callee= .builtin .recover/\o.guard=none/\o.dst=some d:=by
  unfold recOf at h;split at h
  . rename_i id ops y';split at h
    . rename_i o ho;split at h
      . rename_i k hk;split at h
        . rename_i hb;split at h
          . rename_i hg hd;cases h;have:ops= #[o]:=Array.toList_inj.1 (by omega);subst this
            grind
          . cases h
        . cases h
      . cases h
    . cases h
  . cases h
def YB{args:List Value}{n:Nat}:EG ⟨(⟨args⟩:Array Value)++Array.replicate (n-args.length) undef,[]⟩=IE args:=by
  funext t;simp only[EG,IE,WU,Array.getD_eq_getD_getElem?,Array.getElem?_append]
  grind
def iL{P:Program}{T:List (Nat×Entry)}{A:SY}{f:FuncId}{fn:Func}{c y:Code}{d:Nat}{l:List VT}{F:JN l->Value->(World->Prop)->World->Prop}
    (hT: ∀p∈T,Fi P p.1 p.2)(hm:P.follows .mixedOrders=true)(hf:P.funcs[f]? =some fn)(Y: ∀args w,(callFunc f args).run P w= .ok (.enter f args) w)
    (hb:fn.body=some c)(aF:recOf c=some (d,y))(aQ:Nat.ble l.length fn.ntmps=true)(hd:Nat.ble (d+1) fn.ntmps=true)(hW:withinB fn.ntmps (written y)=true)
    (aI: ∀x v K w,F x v K w=ev P (tabC T) (ground P) A y (finQ P fn (λ_ w'=>K w') NI) ((IE (mkArgs l x)).put d v) w):
    Iq P f λargs O w K=>unArgs l args.toList λx=>F x (O.getD .nilIface) (K O.isSome) w:=by
  intro args O w K h;obtain⟨x,hx,h2⟩:=G3 h;have ha:args=⟨mkArgs l x⟩:=Array.toList_inj.1 (by omega);subst ha;refine⟨λw=>Y _ w,?_⟩;rw[aI]at h2;obtain⟨id,o,k,rfl,ho,hk,hg,aC⟩:=aW aF;have aH:=Nat.le_of_ble_eq_true aQ;have a1:=Nat.le_of_ble_eq_true hd;rw[<-Ip (x:=x)]at aH;refine callsD_of_wpS hf hb λJ cs aA=>wpS_seq (wpS_region ?_);have hn:((⟨mkArgs l x⟩:Array Value)++Array.replicate (fn.ntmps-(⟨mkArgs l x⟩:Array Value).size) undef).size=fn.ntmps:=by simp;omega
  generalize hA:({tmps:=(⟨mkArgs l x⟩:Array Value)++Array.replicate (fn.ntmps-(⟨mkArgs l x⟩:Array Value).size) undef,defers:=[]}:Act)=a0;have aL:EG a0=IE (mkArgs l x):=by rw[<-hA];exact YB
  have aN:a0.tmps.size=fn.ntmps:=by grind
  have aM:a0.defers=[]:=by rw[<-hA]
  have aG:(execOp a0.eval o).run P w= .ok .recover w:=by
    obtain⟨dst,op,type,pos,after,guard⟩:=o;obtain⟨callee,aK,aU⟩:=k;simp only at ho hk;subst ho;subst hk;simp[execOp,resolve,invoke,builtin]
  have aB:Region.wanted o (yielded #[o] a0.tmps)=true:=by simp[Region.wanted,hg]
  have key: ∀(j:List Frame) (v:Value),ev P (tabC T) (ground P) A y (finQ P fn (λ_ w'=>K O.isSome w') NI) ((IE (mkArgs l x)).put d v) w->
      (∃u',j={J with mode:=u'}::cs/\u'=TX O O.isSome)->
      wpOpsS P #[o] (Exit.thenS (y.wpS P (bodyPostS P fn J cs λe u' w'=> ∃v b,e= .returned v/\K b w'/\u'=TX O b)) (bodyPostS P fn J cs λe u' w'=> ∃v b,e= .returned v/\K b w'/\u'=TX O b)) [] (a0.put o.dst v) j w:=by
    rintro j v aD ⟨u',aZ,hu⟩;show y.wpS P _ (a0.put o.dst v) j w;refine wpS_of_wp ?_;have aP:EG (a0.put o.dst v)=(IE (mkArgs l x)).put d v:=by rw[aC,Xv (by omega),aL]
    rw[<-aP]at aD;refine Code.wp_mono (λe a' w' hl=> ?_) (Fg (OE hT) (LR P) hm y (Kw hW) _ _ w (by rw[Io];exact aN) aD);have aS: ∀{W},Gf W (a0.put o.dst v) a'->a'.defers=[]:=λh=>by rw[h.defers,O0,aM]
    cases e<;>simp only[lift,finQ,bodyPostS]at hl⊢ <;>first
      | exact hl.elim
      | exact hl.2.2.elim
      | (obtain⟨_,ha,hq⟩:=hl
         obtain⟨r,hK,hr⟩:=KE hq
         grind)
      | (obtain⟨_,ha,hq⟩:=hl
         split at hq
         . grind
         . grind
         . exact hq.elim
         grind)
  show wpOpsS P #[o] _ [0] a0 (J::cs) w;unfold wpOpsS;simp only[List.getElem?_toArray,List.getElem?_cons_zero];rw[if_pos aB,aG];cases O with
  | none=>
    have:recoverD (J::cs)=none:=by simp[recoverD,aA,modeOf]
    simp only[this];exact key (J::cs) .nilIface h2 ⟨J.mode,rfl,aA⟩
  | some v=>
    have:recoverD (J::cs)=some (v,{J with mode:=.panicking [{v:=v,recovered:=true}]}::cs):=by simp[recoverD,aA,modeOf]
    simp only[this];exact key _ v h2 ⟨_,rfl,rfl⟩
def deferOf:Code->Option Call
  | .region _ ops false=>match ops.toList with
    | [o]=>match o.op with
      | .defer c=>match o.guard,o.dst with
        | none,none=>some c
        | _,_=>none
      | _=>none
    | _=>none
  | _=>none
def WV{x:Code}{c:Call}(h:deferOf x=some c): ∃id o,x= .region id #[o] false/\o.op= .defer c/\o.guard=none/\o.dst=none:=by
  unfold deferOf at h;split at h
  . rename_i id ops;split at h
    . rename_i o ho;split at h
      . rename_i k hk;split at h
        . rename_i hg hd;cases h;have:ops= #[o]:=Array.toList_inj.1 (by omega);subst this
          grind
        . cases h
      . cases h
    . cases h
  . cases h
def deferOf2:Code->Option (Oper×Call)
  | .region _ ops false=>match ops.toList with
    | [o1,o]=>match o.op with
      | .defer c=>match o.guard,o.dst with
        | none,none=>match o1.guard with
          | none=>some (o1,c)
          | _=>none
        | _,_=>none
      | _=>none
    | _=>none
  | _=>none
def U6{x:Code}{d:Oper}{c:Call}(h:deferOf2 x=some (d,c)): ∃id o,x= .region id #[d,o] false/\o.op= .defer c/\o.guard=none/\o.dst=none/\d.guard=none:=by
  unfold deferOf2 at h;split at h
  . rename_i id ops;split at h
    . rename_i p o ho;split at h
      . rename_i k hk;split at h
        . rename_i hg hd;split at h
          . rename_i hg1;cases h;have:ops= #[_,o]:=Array.toList_inj.1 (by omega);subst this
            grind
          . cases h
        . cases h
      . cases h
    . cases h
  . cases h
def evD(P:Program)(C G:E6)(A:SY)(d:Post)(K:FuncId->Array Value->Post):Code->Fr->World->Prop
  | .seq x y,f,w=>match deferOf x with
    | some c=>match c.callee with
      | .value v=>match f.ev v with
        | .func (.func g) first cap=>ev P C G A y (K g ((first++c.args.map f.ev)++cap)) f w
        | _=>False
      | _=>False
    | none=>match deferOf2 x with
      | some (o1,c)=>mG P C G o1.op o1.type f.ev w (λu w'=>match c.callee with
        | .value v=>match(f.Oz o1.dst u).ev v with
          | .func (.func g) first cap=>ev P C G A y (K g ((first++c.args.map (f.Oz o1.dst u).ev)++cap)) (f.Oz o1.dst u) w'
          | _=>False
        | _=>False) λ_ _=>False
      | none=>match(firstR y).bind (look A.Ra)with
        | none=>ev P C G A x (Post.then (evD P C G A d K y) d) f w
        | some l=>Af (St l) (λJ=>ev P C G A x (Post.then (λf' w'=>Fr.get l f' λs=>J s w') d) f w)
            λs j w'=>evD P C G A d K y (Fr.set l s (f.Xu (written x) j)) w'
  | c,f,w=>ev P C G A c d f w
def liftD(n:Nat)(d:Post)(j:FuncId->Array Value->Post):Exit->Act->World->Prop
  | .outgrown,_,_=>False
  | e,a,w=>a.tmps.size=n/\((a.defers=[]/\d e (EG a) w)∨ ∃g cap args,a.defers=[⟨.fn (.func g) cap,args⟩]/\j g (args++cap) e (EG a) w)
def iM{P:Program}{C G:E6}(hC:Fits P C)(hG:Fits P G)(hm:P.follows .mixedOrders=true){A:SY}{n:Nat}{Q0:Post}{Q1:FuncId->Array Value->Post}:
    ∀(c:Code),within n (written c)-> ∀(a:Act) (w:World),a.tmps.size=n->a.defers=[]->evD P C G A Q0 Q1 c (EG a) w->c.wp P (liftD n Q0 Q1) a w:=by
  have plain: ∀(c:Code),within n (written c)-> ∀(a:Act) (w:World),a.tmps.size=n->a.defers=[]->ev P C G A c Q0 (EG a) w->c.wp P (liftD n Q0 Q1) a w:=by
    intro c hW a w hn hd h;refine Code.wp_mono (λe a' w' d=> ?_) (Fg hC hG hm c hW Q0 a w hn h);cases e<;>simp only[lift,liftD]at d⊢ <;>first
      | exact d.elim
      | exact⟨d.1,.inl ⟨by rw[d.2.1.defers,hd],d.2.2⟩⟩
  intro c
  induction c with
  | seq x y _ ihy=>
    intro hW a w hn hd h;have aE:within n (written x):=λt ht=>hW t (by simp[written,ht]);have T:within n (written y):=λt ht=>hW t (by simp[written,ht]);unfold evD at h;split at h
    . rename_i k hk;obtain⟨id,o,rfl,ho,hg,K⟩:=WV hk;split at h
      . rename_i v hv;split at h
        . rename_i g first cap hf
          refine wp_seq (wp_region_list ?_);show wpList P #[o] _ [o] a w;unfold wpList;have j:Region.wanted o (yielded #[o] a.tmps)=true:=by simp[Region.wanted,hg]
          rw[if_pos j];refine .inl ?_;have O:(execOp a.eval o).run P w= .ok (.defer ⟨.fn (.func g) cap,first++k.args.map (EG a).ev⟩) w:=by
            obtain⟨dst,op,type,pos,after,guard⟩:=o;obtain⟨callee,aD,aM⟩:=k;simp only at ho hv;subst ho;subst hv;rw[OB]at hf;simp[execOp,resolve,hf,Deferred.ofValue,JA]
          unfold Oper.wp;rw[O,Oper.upon_defer,K];show(Exit.then _ _ _ _ _:Prop);have h2:=Fg hC hG hm y T (Q1 g ((first++k.args.map (EG a).ev)++cap)) {a with defers:=⟨.fn (.func g) cap,first++k.args.map (EG a).ev⟩::a.defers} w hn h;refine Code.wp_mono (λe a' w' d=> ?_) h2;cases e<;>simp only[lift,liftD]at d⊢ <;>first
            | exact d.elim
            | exact⟨d.1,.inr ⟨g,cap,_,by rw[d.2.1.defers,hd],d.2.2⟩⟩
        grind
      grind
    . split at h
      . rename_i o1 k hk;obtain⟨id,o,rfl,ho,hg,K,aO⟩:=U6 hk;refine wp_seq (wp_region_list ?_);show wpList P #[o1,o] _ [o1,o] a w;unfold wpList;have Y:Region.wanted o1 (yielded #[o1,o] a.tmps)=true:=by simp[Region.wanted,aO]
        rw[if_pos Y];have aL: ∀v,EG (a.put o1.dst v)=(EG a).Oz o1.dst v:=λv=>Qq (λt ht=>by have:=aE t (by simp[written,dsts,ht]);omega) v;refine .inl (O5 (Kp:=λ_ _=>False) (by have:=O4 hC hG (λ_=>rfl) (o:=o1) h;rwa[JA]at this) (λu w' hK=> ?_) λv w' hK=>hK.elim);split at hK
        . rename_i v hv;rw[<-aL]at hK;split at hK
          . rename_i g first cap hf
            unfold wpList;have j:Region.wanted o (yielded #[o1,o] (a.put o1.dst u).tmps)=true:=by simp[Region.wanted,hg]
            rw[if_pos j];refine .inl ?_;have O:(execOp (a.put o1.dst u).eval o).run P w'= .ok (.defer ⟨.fn (.func g) cap,first++k.args.map (EG (a.put o1.dst u)).ev⟩) w':=by
              obtain⟨dst,op,type,pos,after,guard⟩:=o;obtain⟨callee,aD,aM⟩:=k;simp only at ho hv;subst ho;subst hv;rw[OB]at hf;simp[execOp,resolve,hf,Deferred.ofValue,JA]
            unfold Oper.wp;rw[O,Oper.upon_defer,K];show(Exit.then _ _ _ _ _:Prop);have h2:=Fg hC hG hm y T (Q1 g ((first++k.args.map (EG (a.put o1.dst u)).ev)++cap)) {(a.put o1.dst u)with defers:=⟨.fn (.func g) cap,first++k.args.map (EG (a.put o1.dst u)).ev⟩::(a.put o1.dst u).defers} w' (by rw[<-hn];exact Io _ _ _) hK;refine Code.wp_mono (λe a' w' d=> ?_) h2;cases e<;>simp only[lift,liftD]at d⊢ <;>first
              | exact d.elim
              | exact⟨d.1,.inr ⟨g,cap,_,by rw[d.2.1.defers,O0,hd],d.2.2⟩⟩
          . exact hK.elim
        . exact hK.elim
      split at h
      . refine wp_seq (Code.wp_mono (λe a' w' d=> ?_) (Fg hC hG hm x aE _ a w hn h));cases e<;>simp only[lift,Exit.then,Post.then,liftD]at d⊢ <;>first
          | exact d.elim
          | exact⟨d.1,.inl ⟨by rw[d.2.1.defers,hd],d.2.2⟩⟩
          | exact ihy T a' w' d.1 (by rw[d.2.1.defers,hd]) d.2.2
      . rename_i l hl0;obtain⟨J,h1,h2⟩:=h;refine wp_seq (Code.wp_mono (λe a' w' d=> ?_) (Fg hC hG hm x aE _ a w hn h1));cases e<;>simp only[lift,Exit.then,Post.then,liftD]at d⊢ <;>first
          | exact d.elim
          | exact⟨d.1,.inl ⟨by rw[d.2.1.defers,hd],d.2.2⟩⟩
          | (obtain⟨s,hs,hJ⟩:=NM d.2.2
             have h3:evD P C G A Q0 Q1 y (Fr.set l s ((EG a).Xu (written x) (EG a'))) w':=h2 s (EG a') w' hJ;rw[NN hs (λt ht=>d.2.1.out t ht)]at h3;exact ihy T a' w' d.1 (by rw[d.2.1.defers,hd]) h3)
  | _=>intro hW a w hn hd h;exact plain _ hW a w hn hd (by unfold evD at h;exact h)
def finD(P:Program)(fn:Func)(D:Pe)(K Kp:Value->World->Prop)(g:FuncId)(args:Array Value):Post:=λe f w=>match e with
  | .normal=>D g args none w λ_ w'=>evRes P fn.results.toList f w' λl=>K (resV l) w'
  | .ret=>D g args none w λ_ w'=>evRes P fn.results.toList f w' λl=>K (resV l) w'
  | .panic [⟨v,false,false⟩]=>D g args (some v) w λb w'=>match b with
    | true=>evRes P fn.results.toList f w' λl=>K (resV l) w'
    | false=>Kp v w'
  | _=>False
def calls_of_evD{P:Program}{C G:E6}{D:Pe}{A:SY}{f:FuncId}{fn:Func}{c:Code}{args:List Value}{w:World}{K Kp:Value->World->Prop}
    (hC:Fits P C)(hG:Fits P G)(hD:vB P D)(hm:P.follows .mixedOrders=true)(hf:P.funcs[f]? =some fn)(hb:fn.body=some c)(aB:Nat.ble args.length fn.ntmps=true)
    (hW:withinB fn.ntmps (written c)=true)(h:evD P C G A (finQ P fn K Kp) (finD P fn D K Kp) c (IE args) w):
    Calls P f ⟨args⟩ w (Ends K Kp):=by
  have aC:=Nat.le_of_ble_eq_true aB;have hn:((⟨args⟩:Array Value)++Array.replicate (fn.ntmps-args.length) undef).size=fn.ntmps:=by simp;omega
  rw[<-YB (n:=fn.ntmps)]at h;refine calls_of_wp_defers hf hb (Code.wp_mono (λe a' w' O=> ?_) (iM hC hG hm c (Kw hW) _ w hn rfl h));have leave: ∀(Y:Option Value) (g:FuncId) (cap d:Array Value),D g (d++cap) Y w' (λb j=>match Y,b with
        | some v,false=>Kp v j
        | _,_=>evRes P fn.results.toList (EG a') j λl=>K (resV l) j)->
      Leaves P fn a'.tmps (Ends K Kp) [⟨.fn (.func g) cap,d⟩] (modeOf Y) w':=by
    intro Y g cap d hd;obtain⟨h1,h2⟩:=hD _ _ _ _ _ hd;refine leaves_cons (by cases Y<;>simp[modeOf]) (f:=g) (args:=d++cap) (by simp[invoke,h1]) (h2.mono ?_);rintro e u' j ⟨v,b,rfl,hk,rfl⟩;cases Y with
    | none=>
      obtain⟨r,J,T⟩:=KE hk;exact⟨_,T,.inl ⟨_,rfl,J⟩⟩
    | some p=>
      cases b with
      | true=>
        obtain⟨r,J,T⟩:=KE hk;exact⟨_,T,.inl ⟨_,rfl,J⟩⟩
      | false=>exact .inr ⟨_,rfl,hk⟩
  cases e<;>simp only[liftD,bodyPostD]at O⊢ <;>first
    | exact O.elim
    | skip
  . obtain⟨_,⟨hd,y⟩|⟨g,cap,d,hd,y⟩⟩:=O
    . rw[hd];obtain⟨r,J,T⟩:=KE y;exact⟨_,T,.inl ⟨_,rfl,J⟩⟩
    . rw[hd];exact leave none g cap d y
  . obtain⟨_,⟨_,y⟩|⟨_,_,_,_,y⟩⟩:=O<;>exact y.elim
  . obtain⟨_,⟨_,y⟩|⟨_,_,_,_,y⟩⟩:=O<;>exact y.elim
  . obtain⟨_,⟨hd,y⟩|⟨g,cap,d,hd,y⟩⟩:=O
    . rw[hd];obtain⟨r,J,T⟩:=KE y;exact⟨_,T,.inl ⟨_,rfl,J⟩⟩
    . rw[hd];exact leave none g cap d y
  . obtain⟨_,⟨hd,y⟩|⟨g,cap,d,hd,y⟩⟩:=O
    . rw[hd];unfold finQ at y;split at y
      . grind
      . grind
      . rename_i v he;cases he;exact .inr ⟨_,rfl,y⟩
      grind
    . rw[hd];unfold finD at y;split at y
      . grind
      . grind
      . rename_i v he;cases he;refine leave (some v) g cap d ?_;have:(λ(b:Bool) (j:World)=>match b with
          | true=>evRes P fn.results.toList (EG a') j λl=>K (resV l) j
          | false=>Kp v j)=λ(b:Bool) (j:World)=>match some v,b with
          | some v,false=>Kp v j
          | _,_=>evRes P fn.results.toList (EG a') j λl=>K (resV l) j:=by grind
        grind
      grind
def Ends.mono{K Kp d:Value->World->Prop}{e:Ending}{w:World}(h:Ends K Kp e w)(hp: ∀v w,Kp v w->d v w):Ends K d e w:=by
  rcases h with h|⟨v,h1,h2⟩
  . exact .inl h
  . exact .inr ⟨v,h1,hp _ _ h2⟩
def Pf{P:Program}{T:List (Nat×Entry)}{TD:List (Nat×MQ)}{A:SY}{f:FuncId}{fn:Func}{c:Code}{l:List VT}{F:JN l->(Value->World->Prop)->World->Prop}
    (J: ∀p∈T,Fi P p.1 p.2)(v: ∀p∈TD,Iq P p.1 p.2)(hm:P.follows .mixedOrders=true)(hf:P.funcs[f]? =some fn)(d: ∀args w,(callFunc f args).run P w= .ok (.enter f args) w)
    (hb:fn.body=some c)(y:Nat.ble l.length fn.ntmps=true)(O:withinB fn.ntmps (written c)=true)
    (j: ∀x K w,F x K w=evD P (tabC T) (ground P) A (finQ P fn K NI) (finD P fn (tabD TD) K NI) c (IE (mkArgs l x)) w):
    Iz P f λargs w K _=>unArgs l args.toList λx=>F x K w:=by
  intro args w K Kp h;obtain⟨x,hx,h2⟩:=G3 h;have Y:args=⟨mkArgs l x⟩:=Array.toList_inj.1 (by omega);subst Y;refine⟨λw=>d _ w,?_⟩;rw[j]at h2;exact(calls_of_evD (OE J) (LR P) (iK v) hm hf hb (by rw[Ip];exact y) O h2).mono λe w' hE=>hE.mono λ_ _ f=>f.elim
def iN{P:Program}{f:FuncId}{C:Nat->Entry}(h: ∀n,Iz P f (C n)):Iz P f λargs w K Kp=> ∃n,C n args w K Kp:=
  λargs w K Kp ⟨n,hc⟩=>h n args w K Kp hc
def D5(k:IntKind)(op:Nat)(a b:Int):Int:=
 k.wrap (match op with
  | 0=>BitVec.ofInt k.bits a&&&BitVec.ofInt k.bits b
  | 1=>BitVec.ofInt k.bits a|||BitVec.ofInt k.bits b
  | 2=>BitVec.ofInt k.bits a^^^BitVec.ofInt k.bits b
  | _=>BitVec.ofInt k.bits a&&& ~~~BitVec.ofInt k.bits b).toNat
def WW{P:Program}{c:Entry}(d:c=λargs w K Kp=>unArgs [.one (.int .u64)] args.toList λx=>K (.float .f64 (Int.toNat x.1)) w):
  ∀args w K Kp,c args w K Kp-> ∃v,(Extern.MathFloatBits.float64frombits args).run P w= .ok v w/\K v w:=by
 subst d;intro args w K Kp h;obtain⟨x,j,h⟩:=G3 h;obtain rfl:args= #[.int .u64 x.1]:=Array.toList_inj.1 (by rw[j];rfl);exact⟨_,rfl,h⟩
def mI(a b c:Int)(K:Int->Int->Prop):Prop:=(0<=a/\0<=b/\0<=c/\c<=1)/\K ((a+b+c) %18446744073709551616) ((a+b+c)/18446744073709551616)
def iO{P:Program}{c:Entry}(J:c=λargs w K Kp=>unArgs [.one (.int .u64),.one (.int .u64),.one (.int .u64)] args.toList λx=>mI x.1 x.2.1 x.2.2.1 λa b=>K (.tuple ⟨[.int .u64 a,.int .u64 b]⟩) w):
  ∀args w K Kp,c args w K Kp-> ∃v,(add64Entry args).run P w= .ok v w/\K v w:=by
 subst J;intro args w K Kp h;obtain⟨x,O,⟨h1,h2,d,j⟩,y⟩:=G3 h;clear h;obtain rfl:args= #[.int .u64 x.1,.int .u64 x.2.1,.int .u64 x.2.2.1]:=Array.toList_inj.1 (by rw[O];rfl);exact⟨_,run_add64 _ _ _ h1 h2 d j w,y⟩
end Go.Sh

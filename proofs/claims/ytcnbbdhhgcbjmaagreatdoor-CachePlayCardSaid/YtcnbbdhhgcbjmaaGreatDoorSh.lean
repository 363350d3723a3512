/- A function's code comes to a plain predicate transformer, shown once for all codes. No further condition. -/
import Derived.OrdersHeld
import Derived.WalkKit
import Derived.KernelRfl
import Derived.Laws.CopyRow
import Derived.Scope
import Derived.Laws.Externs
import Derived.Recover
set_option linter.all false
set_option maxRecDepth 50000
namespace Go.Sh
inductive Ty where
  | int (k:IntKind)|bool|ptr|sl|map|any|flt
structure Ac where
  base:Option Addr
  len:Nat
  cap:Nat
def xK:Ty->Type
  | .int _=>Int
  | .bool=>Bool
  | .ptr=>Option Addr
  | .sl=>Ac
  | .map=>Option Nat
  | .any=>Value
  | .flt=>Nat
def mkV:(t:Ty)->xK t->Value
  | .int k,n=>.int k n
  | .bool,b=>.bool b
  | .ptr,a=>.pointer a
  | .sl,s=>.slice (Ac.base s) (Ac.len s) (Ac.cap s)
  | .map,r=>.map r
  | .any,v=>v
  | .flt,b=>.float .f64 (show Nat from b)
def ik:IntKind->Nat
  | .i8=>0| .i16=>1| .i32=>2| .i64=>3| .u8=>4| .u16=>5| .u32=>6| .u64=>7
def dN{a b:IntKind}(h:ik a=ik b):a=b:=by
  cases a<;>cases b<;>first|rfl|(simp[ik]at h)
def sameK(a b:IntKind)(X:Prop):Prop:=match Nat.beq (ik a) (ik b)with|true=>X|false=>False
def GU{a b:IntKind}{X:Prop}(h:sameK a b X):a=b/\X:=by
  unfold sameK at h;split at h
  . rename_i e;exact⟨dN (Nat.eq_of_beq_eq_true e),h⟩
  . exact h.elim
abbrev ZC(k:FloatKind)(X:Prop):Prop:=match k with| .f64=>X| .f32=>False
def Kv{k:FloatKind}{X:Prop}(h:ZC k X):k= .f64/\X:=by
  cases k
  . exact h.elim
  . exact⟨rfl,h⟩
def unV:(t:Ty)->Value->(xK t->Prop)->Prop
  | .int k,.int k' n,K=>sameK k k' (K n)
  | .bool,.bool b,K=>K b
  | .ptr,.pointer a,K=>K a
  | .sl,.slice a n c,K=>K (Ac.mk a n c)
  | .map,.map r,K=>K r
  | .any,v,K=>K v
  | .flt,.float k b,K=>ZC k (K b)
  | _,_,_=>False
def ZD{t:Ty}{v:Value}{K:xK t->Prop}(h:unV t v K): ∃x,v=mkV t x/\K x:=by
  unfold unV at h;split at h
  . obtain⟨rfl,h2⟩:=GU h;exact⟨_,rfl,h2⟩
  . exact⟨_,rfl,h⟩
  . exact⟨_,rfl,h⟩
  . exact⟨_,rfl,h⟩
  . exact⟨_,rfl,h⟩
  . exact⟨_,rfl,h⟩
  . obtain⟨rfl,h2⟩:=Kv h;exact⟨_,rfl,h2⟩
  grind
def kQ:List Ty->Type
  | []=>Unit
  | t::r=>xK t×kQ r
def mkVs:(l:List Ty)->kQ l->List Value
  | [],_=>[]
  | t::r,x=>mkV t x.1::mkVs r x.2
def unVs:(l:List Ty)->List Value->(kQ l->Prop)->Prop
  | [],[],K=>K ()
  | t::r,v::vs,K=>unV t v λx=>unVs r vs λy=>K (x,y)
  | _,_,_=>False
def WU:{l:List Ty}->{vs:List Value}->{K:kQ l->Prop}->unVs l vs K-> ∃x,vs=mkVs l x/\K x
  | [],[],_,h=>⟨(),rfl,h⟩
  | [],_::_,_,h=>h.elim
  | _::_,[],_,h=>h.elim
  | t::r,v::vs,K,h=>by
    simp only[unVs]at h;obtain⟨x,rfl,h2⟩:=ZD h;obtain⟨y,rfl,j⟩:=WU h2;exact⟨(x,y),rfl,j⟩
inductive VT where
  | one (t:Ty)
  | agg (l:List Ty)
def nR:VT->Type
  | .one t=>xK t
  | .agg l=>kQ l
def mkVT:(t:VT)->nR t->Value
  | .one t,x=>mkV t x
  | .agg l,x=>.agg ⟨mkVs l x⟩
def unVT:(t:VT)->Value->(nR t->Prop)->Prop
  | .one t,v,K=>unV t v K
  | .agg l,.agg cs,K=>unVs l cs.toList K
  | .agg _,_,_=>False
def Rt{t:VT}{v:Value}{K:nR t->Prop}(h:unVT t v K): ∃x,v=mkVT t x/\K x:=by
  cases t with
  | one t=>exact ZD h
  | agg l=>
    cases v<;>simp only[unVT]at h;rename_i cs;obtain⟨x,j,h⟩:=WU h;exact⟨x,by simp only[mkVT,<-j],h⟩
abbrev Fr:=Nat->Value
def Fr.put(f:Fr)(d:Nat)(v:Value):Fr:=λt=>bif Nat.beq t d then v else f t
def Fr.Pz(f:Fr):Option Nat->Value->Fr
  | some d,v=>f.put d v
  | none,_=>f
def memB:List Nat->Nat->Bool
  | [],_=>false
  | x::r,t=>bif Nat.beq t x then true else memB r t
def ZE:{l:List Nat}->{t:Nat}->(memB l t=true↔t∈l)
  | [],t=>by simp[memB]
  | x::r,t=>by
    simp only[memB,List.mem_cons,cond_eq_ite];by_cases h:Nat.beq t x=true
    . simp[h,Nat.eq_of_beq_eq_true h]
    . have j:t≠x:=λe=>h (e▸Nat.beq_refl t);simp[h,ZE (l:=r) (t:=t),j]
def Fr.ZF(f:Fr)(l:List Nat)(j:Nat->Value):Fr:=λt=>bif memB l t then j t else f t
def Fr.ev(f:Fr):Operand->Value
  | .tmp t=>f t
  | .const v=>v
  | .global g=>.pointer (some ⟨g,0,none⟩)
  | .func g=>.func (.func g) #[] #[]
def EZ(a:Act):Fr:=λt=>a.tmps.getD t undef
def PE(a:Act)(x:Operand):(EZ a).ev x=a.eval x:=by cases x<;>rfl
def Jd(a:Act):(EZ a).ev=a.eval:=funext (PE a)
def ZG{a:Act}{d:Nat}(hd:d<a.tmps.size)(v:Value):EZ (a.put (some d) v)=(EZ a).put d v:=by
  funext t;simp only[EZ,Act.put,Fr.put,Array.getD_eq_getD_getElem?,cond_eq_ite];by_cases h:t=d
  . subst h;simp[hd]
  . have j:Nat.beq t d=false:=by
      cases j:Nat.beq t d
      . rfl
      . exact absurd (Nat.eq_of_beq_eq_true j) h
    grind
def Ru{a:Act}{d:Option Nat}(hd: ∀t,d=some t->t<a.tmps.size)(v:Value):EZ (a.put d v)=(EZ a).Pz d v:=by
  cases d with
  | none=>rfl
  | some t=>exact ZG (hd t rfl) v
def JJ(a:Act)(d:Option Nat)(v:Value):(a.put d v).tmps.size=a.tmps.size:=by
  cases d<;>simp[Act.put]
def P5(a:Act)(d:Option Nat)(v:Value):(a.put d v).defers=a.defers:=by
  cases d<;>rfl
abbrev tG:=List (Nat×VT)
def St:tG->Type
  | []=>Unit
  | (_,t)::r=>nR t×St r
def Fr.set:(l:tG)->St l->Fr->Fr
  | [],_,f=>f
  | (d,t)::r,s,f=>Fr.set r s.2 (f.put d (mkVT t s.1))
def Fr.get:(l:tG)->Fr->(St l->Prop)->Prop
  | [],_,K=>K ()
  | (d,t)::r,f,K=>unVT t (f d) λx=>Fr.get r f λs=>K (x,s)
def Pf:(l:tG)->St l->Fr->Prop
  | [],_,_=>True
  | (d,t)::r,s,f=>f d=mkVT t s.1/\Pf r s.2 f
def OL:{l:tG}->{f:Fr}->{K:St l->Prop}->Fr.get l f K-> ∃s,Pf l s f/\K s
  | [],_,_,h=>⟨(),trivial,h⟩
  | (d,t)::r,f,K,h=>by
    obtain⟨x,j,h⟩:=Rt h;obtain⟨s,hs,h⟩:=OL h;exact⟨(x,s),⟨j,hs⟩,h⟩
def iG:{t:Ty}->{x y:xK t}->mkV t x=mkV t y->x=y
  | .int _,_,_,h=>by simp only[mkV]at h;injection h
  | .bool,_,_,h=>by simp only[mkV]at h;injection h
  | .ptr,_,_,h=>by simp only[mkV]at h;injection h
  | .sl,x,y,h=>by
    simp only[mkV]at h;injection h with h1 h2 h3
    cases x;cases y;grind
  | .map,_,_,h=>by simp only[mkV]at h;injection h
  | .any,_,_,h=>h
  | .flt,_,_,h=>by simp only[mkV]at h;injection h
def ZH:{l:List Ty}->{x y:kQ l}->mkVs l x=mkVs l y->x=y
  | [],_,_,_=>rfl
  | t::r,(x,xs),(y,ys),h=>by
    simp only[mkVs]at h;injection h with h1 h2
    rw[iG h1,ZH h2]
def nZ:{t:VT}->{x y:nR t}->mkVT t x=mkVT t y->x=y
  | .one _,_,_,h=>iG h
  | .agg _,_,_,h=>by
    simp only[mkVT]at h;injection h with h1
    injection h1 with h2
    exact ZH h2
def WV:{l:tG}->{s s':St l}->{f:Fr}->Pf l s f->Pf l s' f->s=s'
  | [],_,_,_,_,_=>rfl
  | (d,t)::r,(x,s),(y,s'),f,h,h'=>by
    have h1:mkVT t x=mkVT t y:=h.1.symm.trans h'.1;have h2:x=y:=nZ h1;have j:s=s':=WV h.2 h'.2
    grind
def n8:{l:tG}->{s:St l}->{g f:Fr}->Pf l s g->(∀t,t∉l.map (·.1)->f t=g t)->Fr.set l s f=g
  | [],_,g,f,_,h=>funext λt=>h t (by simp)
  | (d,t)::r,s,g,f,hs,h=>by
    simp only[Fr.set];refine n8 hs.2 λu hu=> ?_;simp only[Fr.put,cond_eq_ite];by_cases e:Nat.beq u d=true
    . have:=Nat.eq_of_beq_eq_true e;subst this;simp[hs.1]
    . have j:u≠d:=λe'=>e (e'▸Nat.beq_refl u)
      grind
def OM{l:tG}{s:St l}{W:List Nat}{f g:Fr}(hs:Pf l s g)(j: ∀t,t∉W->g t=f t):Fr.set l s (f.ZF W g)=g:=by
  refine n8 hs λt _=> ?_;simp only[Fr.ZF,cond_eq_ite];by_cases h:memB W t=true
  . simp[h]
  . simp only[h,Bool.false_eq_true,if_false];exact(j t λhm=>h (ZE.2 hm)).symm
def NC(a:Option Addr)(K:Addr->Prop):Prop:=match a with|some p=>K p|none=>False
def CND(b:Bool)(T E:Prop):Prop:=match b with|true=>T|false=>E
def iH{b:Bool}{T E:Prop}:CND b T E↔(b=true->T)/\(b=false->E):=by cases b<;>simp[CND]
def JW{a:Option Addr}{K:Addr->Prop}(h:NC a K): ∃p,a=some p/\K p:=by
  cases a with
  | none=>exact h.elim
  | some p=>exact⟨p,rfl,h⟩
@[simp] theorem AH(p:Addr)(K:Addr->Prop):NC (some p) K=K p:=rfl
def XQ(P:Program)(t:TypeId):Nat:=P.cellsOf t
def szK(P:Program)(t:TypeId)(K:Nat->Prop):Prop:=match XQ P t with
  | 0=>False
  | n+1=>K (n+1)
def Gp{P:Program}{t:TypeId}{K:Nat->Prop}(h:szK P t K): ∃n,K n/\n≠0/\n=XQ P t/\ ∀w,(sizeOf t).run P w= .ok n w:=by
  unfold szK at h;split at h
  . grind
  . rename_i n hn;refine⟨_,h,by omega,hn.symm,λw=> ?_⟩;cases hi:P.info? t with
    | none=>simp[XQ,Program.cellsOf,hi]at hn
    | some i=>
      have:i.size=n+1:=by simpa[XQ,Program.cellsOf,hi]using hn
      simp[sizeOf,typeInfo,hi,this]
def isAggP(P:Program)(t:TypeId):Bool:=match P.underlying t with
  | some (.struct _)|some (.array _ _)=>true
  | _=>false
def aggK(P:Program)(t:TypeId)(A:Prop)(B:TypeDesc->Prop):Prop:=match P.underlying t with
  | some (.struct _)=>A
  | some (.array _ _)=>A
  | some d=>B d
  | none=>False
def WW{P:Program}{t:TypeId}{A:Prop}{B:TypeDesc->Prop}(h:aggK P t A B):
    (P.info? t).isSome=true/\((A/\ ∀w,(isAgg t).run P w= .ok true w)∨(∃d,P.underlying t=some d/\B d/\ ∀w,(isAgg t).run P w= .ok false w)):=by
  unfold aggK at h;have hu: ∀d,P.underlying t=some d->(P.info? t).isSome=true:=by
    intro d hd;cases hi:P.info? t with
    | none=>simp[Program.underlying,hi]at hd
    | some i=>rfl
  split at h
  . rename_i hd;exact⟨hu _ hd,.inl ⟨h,λw=>by simp[isAgg,underlying,hd]⟩⟩
  . rename_i hd;exact⟨hu _ hd,.inl ⟨h,λw=>by simp[isAgg,underlying,hd]⟩⟩
  . rename_i d h1 h2 hd;refine⟨hu _ hd,.inr ⟨d,hd,h,λw=> ?_⟩⟩;cases d<;>first
      | exact(h1 _ rfl).elim
      | exact(h2 _ _ rfl).elim
      | simp[isAgg,underlying,hd]
  grind
def yM:TypeDesc->Ty
  | .int k=>.int k
  | .bool=>.bool
  | .pointer _=>.ptr
  | .slice _=>.sl
  | .map _ _=>.map
  | .float .f64=>.flt
  | _=>.any
def n9:Nat->List Ty->List Ty
  | 0,_=>[]
  | n+1,l=>l++n9 n l
def oA(P:Program):Nat->TypeId->List Ty
  | 0,_=>[]
  | d+1,t=>match P.underlying t with
    | some (.struct fs)=>fs.toList.flatMap λf=>oA P d f.type
    | some (.array n e)=>n9 n (oA P d e)
    | some d=>[yM d]
    | none=>[]
def dO(P:Program)(t:TypeId):VT:=match isAggP P t with
  | true=>.agg (oA P 12 t)
  | false=>match P.underlying t with
    | some d=>.one (yM d)
    | none=>.one .any
def Lu(P:Program)(t:TypeId):Option Value:=(P.info? t).bind (·.zero)
def evInt(op:BinOp)(k:IntKind)(a b:Int)(K:Value->Prop):Prop:=
  match op with
  | .add=>K (.int k (k.wrap (a+b)))
  | .sub=>K (.int k (k.wrap (a-b)))
  | .mul=>K (.int k (k.wrap (a*b)))
  | .quo=>b≠0/\K (.int k (k.wrap (a.tdiv b)))
  | .rem=>b≠0/\K (.int k (a.tmod b))
  | .and=>K (.int k (k.wrap (BitVec.ofInt k.bits a&&&BitVec.ofInt k.bits b).toNat))
  | .or=>K (.int k (k.wrap (BitVec.ofInt k.bits a|||BitVec.ofInt k.bits b).toNat))
  | .xor=>K (.int k (k.wrap (BitVec.ofInt k.bits a^^^BitVec.ofInt k.bits b).toNat))
  | .andNot=>K (.int k (k.wrap (BitVec.ofInt k.bits a&&& ~~~BitVec.ofInt k.bits b).toNat))
  | .eql=>K (.bool (a==b))
  | .neq=>K (.bool (a !=b))
  | .lss=>K (.bool (decide (a<b)))
  | .leq=>K (.bool (decide (a<=b)))
  | .gtr=>K (.bool (decide (a>b)))
  | .geq=>K (.bool (decide (a≥b)))
  | _=>False
def isFn:Value->Bool
  | .func .. =>true
  | .nilFunc=>true
  | _=>false
def isNilF:Value->Bool
  | .nilFunc=>true
  | _=>false
noncomputable def T7{α:Type}(x:α):α:=Classical.choose (⟨x,rfl⟩: ∃y,y=x)
def Kw{α:Type}(x:α):T7 x=x:=Classical.choose_spec (⟨x,rfl⟩: ∃y,y=x)
noncomputable def DY(a b:Nat):Option Ordering:=T7 (FloatKind.f64.format.order a b)
def evFlt(op:BinOp)(a b:Nat)(K:Value->Prop):Prop:=match op with
  | .eql=>K (.bool (DY a b==some .eq))
  | .neq=>K (.bool (DY a b !=some .eq))
  | .lss=>K (.bool (DY a b==some .lt))
  | .leq=>K (.bool (DY a b==some .lt||DY a b==some .eq))
  | .gtr=>K (.bool (DY a b==some .gt))
  | .geq=>K (.bool (DY a b==some .gt||DY a b==some .eq))
  | _=>False
def PEQ(a b:Option Addr)(K:Bool->Prop):Prop:=match a with
  | none=>K b.isNone
  | some p=>match b with
    | none=>K false
    | some q=>p.block=q.block/\K (p==q)
def evBin0(P:Program)(op:BinOp)(t:TypeId)(x y:Value)(K:Value->Prop):Prop:=
  match x with
  | .int k a=>match y with
    | .int k' b=>match op with
      | .shl=>0<=b/\K (.int k (k.wrap (a*2^(min b.toNat k.bits))))
      | .shr=>0<=b/\K (.int k (a.fdiv (2^(min b.toNat k.bits))))
      | op=>sameK k k' (evInt op k a b K)
    | _=>False
  | .bool a=>match y with
    | .bool b=>match P.underlying t with
      | some .bool=>match op with
        | .eql=>K (.bool (a==b))
        | .neq=>K (.bool (!(a==b)))
        | _=>False
      | _=>False
    | _=>False
  | .pointer a=>match y with
    | .pointer none=>match P.underlying t with
      | some (.pointer _)=>match op with
        | .eql=>K (.bool a.isNone)
        | .neq=>K (.bool (!a.isNone))
        | _=>False
      | _=>False
    | _=>False
  | .slice a _ _=>match y with
    | .slice none _ _=>match P.underlying t with
      | some (.slice _)=>match op with
        | .eql=>K (.bool a.isNone)
        | .neq=>K (.bool (!a.isNone))
        | _=>False
      | _=>False
    | _=>False
  | .map a=>match y with
    | .map none=>match P.underlying t with
      | some (.map _ _)=>match op with
        | .eql=>K (.bool a.isNone)
        | .neq=>K (.bool (!a.isNone))
        | _=>False
      | _=>False
    | _=>False
  | .float k a=>match y with
    | .float k' b=>ZC k (ZC k' (evFlt op a b K))
    | _=>False
  | _=>False
def evEqF(P:Program)(xs j:List Value):List Field->(Bool->Prop)->Prop
  | [],K=>K true
  | f::r,K=>match f.name != "_" with
    | true=>match P.underlying f.type with
      | some (.int _)=>match xs[f.offset]? with
        | some (.int k a)=>match j[f.offset]? with
          | some (.int k' b)=>sameK k k' (evEqF P xs j r λt=>K ((a==b)&&t))
          | _=>False
        | _=>False
      | some .bool=>match xs[f.offset]? with
        | some (.bool a)=>match j[f.offset]? with
          | some (.bool b)=>evEqF P xs j r λt=>K ((a==b)&&t)
          | _=>False
        | _=>False
      | _=>False
    | false=>False
def evEqS(P:Program)(op:BinOp)(t:TypeId)(xs j:List Value)(K:Value->Prop):Prop:=
  match P.underlying t with
  | some (.struct fs)=>match P.stoodInHeld t with
    | false=>match P.eqGuardType P.depth t with
      | false=>match op with
        | .eql=>evEqF P xs j fs.toList λr=>K (.bool r)
        | .neq=>evEqF P xs j fs.toList λr=>K (.bool (!r))
        | _=>False
      | true=>False
    | true=>False
  | _=>False
def isIf:Value->Bool
  | .iface .. =>true
  | .nilIface=>true
  | _=>false
def isNilI:Value->Bool
  | .nilIface=>true
  | _=>false
def evBin(P:Program)(op:BinOp)(t:TypeId)(x y:Value)(K:Value->Prop):Prop:=
  match y with
  | .nilIface=>match P.underlying t with
    | some (.interface ms)=>match ms.isEmpty with
      | true=>match op with
        | .eql=>isIf x=true/\K (.bool (isNilI x))
        | .neq=>isIf x=true/\K (.bool (!isNilI x))
        | _=>False
      | false=>False
    | _=>False
  | .nilFunc=>match P.underlying t with
    | some (.func _ _ _)=>match op with
      | .eql=>isFn x=true/\K (.bool (isNilF x))
      | .neq=>isFn x=true/\K (.bool (!isNilF x))
      | _=>False
    | _=>False
  | .agg ys=>match x with
    | .agg xs=>evEqS P op t xs.toList ys.toList K
    | _=>False
  | y=>evBin0 P op t x y K
def evBinT(P:Program)(op:BinOp)(t:TypeId)(x y:Value)(K:Value->Prop):Prop:=
  match x with
  | .pointer a=>match y with
    | .pointer b=>match P.underlying t with
      | some (.pointer e)=>szK P e λ_=>match op with
        | .eql=>PEQ a b λr=>K (.bool r)
        | .neq=>PEQ a b λr=>K (.bool (!r))
        | _=>False
      | _=>False
    | _=>evBin P op t x y K
  | _=>evBin P op t x y K
def evUn(op:UnOp)(x:Value)(K:Value->Prop):Prop:=
  match op,x with
  | .not,.bool b=>K (.bool (!b))
  | .neg,.int k n=>K (.int k (k.wrap (0-n)))
  | .xor,.int k n=>K (.int k (k.wrap (BitVec.ofInt k.bits (if k.signed then-1 else k.max)^^^BitVec.ofInt k.bits n).toNat))
  | _,_=>False
def evBound(x:Option Value)(oB top:Nat)(K:Nat->Prop):Prop:=
  match x with
  | none=>K oB
  | some (.int _ i)=>(0<=i/\i<=top)/\K i.toNat
  | some _=>False
def evPart(P:Program)(t:TypeId)(cs:List Value)(off:Nat)(K:Value->Prop):Prop:=
  aggK P t (K (.agg ⟨(cs.drop off).take (XQ P t)⟩)) λ_=>match cs[off]? with
    | some v=>K v
    | none=>False
def HU(a:Option Addr)(c m z:Nat):Option Addr:=if c=m then a else a.map (·.add (m*z))
def u64(n:Int):Int:=IntKind.u64.wrap n
def i64(n:Int):Int:=IntKind.i64.wrap n
def XR(a b:Int):Int:=if b<a then b else a
def TQ(a b:Int):Int:=if b>a then b else a
def xL(k:IntKind)(v:Value)(K:Int->Prop):Prop:=unV (.int k) v K
def tR(v:Value)(K:Ac->Prop):Prop:=unV .sl v K
def Kj{α:Type}(e:α)(K:α->Prop):Prop:=K e
def AL(o:Obj)(w:World)(K:Nat->World->Prop):Prop:=K w.heap.size (w.alloc o)
def fillL(cells:List Value)(off:Nat):List Value->List Value
  | []=>cells
  | v::r=>fillL (cells.set off v) (off+1) r
def XS(n m:Nat)(X:Prop):Prop:=match Nat.beq n m with|true=>X|false=>False
def Kx{n m:Nat}{X:Prop}(h:XS n m X):n=m/\X:=by
  unfold XS at h;split at h
  . simp_all
  grind
def leK(n m:Nat)(X:Prop):Prop:=match Nat.ble n m with|true=>X|false=>False
def ZI{n m:Nat}{X:Prop}(h:leK n m X):n<=m/\X:=by
  unfold leK at h;split at h
  . simp_all
  grind
def evFill(places:Nat->Option (Nat×Nat)):List (Nat×Value)->List Value->(List Value->Prop)->Prop
  | [],cells,K=>K cells
  | (i,v)::r,cells,K=>match places i with
    | none=>False
    | some (off,size)=>XS v.cells.toList.length size (leK (off+size) cells.length (evFill places r (fillL cells off v.cells.toList) K))
def WX(off:Nat): ∀(vs:List Value) (k:Nat) (cells:Array Value),
    ((vs.zipIdx k).foldl (λcs (c,j)=>cs.setIfInBounds (off+j) c) cells).toList=fillL cells.toList (off+k) vs
  | [],_,_=>rfl
  | v::r,k,cells=>by
    simp only[List.zipIdx_cons,List.foldl_cons,fillL];rw[WX off r (k+1)]
    grind
def MI{places:Nat->Option (Nat×Nat)}:{parts:List (Nat×Value)}->{cells:Array Value}->{K:List Value->Prop}->
    evFill places parts cells.toList K-> ∃out,K out.toList/\Instr.fill places cells parts=some out
  | [],cells,K,h=>⟨cells,h,rfl⟩
  | (i,v)::r,cells,K,h=>by
    simp only[evFill]at h;cases hp:places i with
    | none=>grind
    | some os=>
      obtain⟨off,size⟩:=os;simp only[hp]at h;obtain⟨h1,h⟩:=Kx h;obtain⟨h2,h⟩:=ZI h;have hf:=WX off v.cells.toList 0 cells;have hz:(v.cells.zipIdx.foldl (λcs (c,j)=>cs.setIfInBounds (off+j) c) cells).toList=fillL cells.toList off v.cells.toList:=by
        rw[<-Array.foldl_toList,Array.toList_zipIdx];omega
      rw[<-hz]at h;obtain⟨out,y,J⟩:=MI h;refine⟨out,y,?_⟩;simp only[Instr.fill,hp]
      grind
def oC(P:Program):List Field->Prop->Prop
  | [],X=>X
  | f::r,X=>szK P f.type λ_=>oC P r X
def TAS(x:Value)(t:Nat)(z:Value)(K:Value->Bool->Prop):Prop:=match x with
  | .nilIface=>K z false
  | .iface u v=>match Nat.beq u t with
    | true=>K v true
    | false=>K z false
  | _=>False
def oD:List Value->List (Option Addr)
  | []=>[]
  | v::r=>(match v with| .pointer a=>a|_=>none)::oD r
def XT:List Value->Bool
  | []=>true
  | v::r=>match v with
    | .pointer _=>XT r
    | _=>false
def ZJ: ∀{l:List Value} {i:Nat},XT l=true->i<l.length->l[i]? =some (.pointer ((oD l).getD i none))
  | v::r,0,h,_=>by cases v<;>first|rfl|cases h
  | v::r,i+1,h,hi=>by
    have j:XT r=true:=by cases v<;>first|exact h|cases h
    have:=ZJ j (i:=i) (by grind);simpa[oD]using this
def oE(P:Program)(l:Nat)(e:TypeId)(cs:List Value)(n:Int)(K:Value->Prop):Prop:=match P.underlying e with
  | some (.pointer _)=>szK P e λz=>XS z 1 (XS cs.length l (match XT cs with
    | true=>(0<=n/\n<(l:Int))/\K (.pointer ((oD cs).getD n.toNat none))
    | false=>False))
  | _=>False
noncomputable def Lv(n:Int):Nat:=T7 (FloatKind.f64.nearest n)
noncomputable def Rv(b:Nat):Option Int:=T7 ((FloatKind.f64.decode b).toInt .zero)
def slL:List Value->List Ac
  | []=>[]
  | v::r=>(match v with| .slice a n c=>⟨a,n,c⟩|_=>⟨none,0,0⟩)::slL r
def iI:List Value->Bool
  | []=>true
  | v::r=>match v with
    | .slice .. =>iI r
    | _=>false
def iJ: ∀{l:List Value} {i:Nat},iI l=true->i<l.length->l[i]? =some (.slice ((slL l).getD i ⟨none,0,0⟩).base ((slL l).getD i ⟨none,0,0⟩).len ((slL l).getD i ⟨none,0,0⟩).cap)
  | v::r,0,h,_=>by cases v<;>first|rfl|cases h
  | v::r,i+1,h,hi=>by
    have j:iI r=true:=by cases v<;>first|exact h|cases h
    have:=iJ j (i:=i) (by grind);simpa[slL]using this
def dP(P:Program)(l:Nat)(e:TypeId)(cs:List Value)(n:Int)(K:Value->Prop):Prop:=match P.underlying e with
  | some (.slice _)=>szK P e λz=>XS z 1 (XS cs.length l (match iI cs with
    | true=>(0<=n/\n<(l:Int))/\Kj ((slL cs).getD n.toNat ⟨none,0,0⟩) λs=>K (.slice s.base s.len s.cap)
    | false=>False))
  | _=>False
def STRI(s:ByteArray)(n:Int)(K:Int->Prop):Prop:=0<=n/\ ∃b,s[n.toNat]? =some b/\K (b.toNat:Int)
def evPure(P:Program)(o:Op)(ty:TypeId)(ρ:Operand->Value)(K:Value->Prop):Prop:=
  match o with
  | .move x| .assign x=>K (ρ x)
  | .pick c a b=>match ρ c with
    | .bool t=>K (bif t then ρ a else ρ b)
    | _=>False
  | .nilCheck x=>match ρ x with
    | .pointer a=>NC a λp=>K (.pointer (some p))
    | _=>False
  | .binOp op t x y _=>match y with
    | .tmp _=>evBinT P op t (ρ x) (ρ y) K
    | _=>evBin P op t (ρ x) (ρ y) K
  | .unOp op _ x=>evUn op (ρ x) K
  | .convert s d x=>match P.underlying s,P.underlying d,ρ x with
    | some (.int _),some (.int k),.int _ n=>K (.int k (k.wrap n))
    | some (.int _),some (.float k),.int _ n=>ZC k (K (.float .f64 (Lv n)))
    | some (.float _),some (.int k),.float k' b=>ZC k' (∃n,Rv b=some n/\(k.min<=n/\n<=k.max)/\K (.int k n))
    | _,_,_=>False
  | .makeFunc fn fi ca=>K (.func fn (fi.map ρ) (ca.map ρ))
  | .fieldAddr s x i=>match P.underlying s with
    | some (.struct fs)=>match fs[i]? with
      | some f=>szK P f.type λ_=>match ρ x with
        | .pointer a=>NC a λp=>K (.pointer (some (p.add f.offset)))
        | _=>False
      | none=>False
    | _=>False
  | .field t x i=>match P.underlying t with
    | some (.struct fs)=>match fs[i]? with
      | some f=>match ρ x with
        | .agg cs=>evPart P f.type cs.toList f.offset K
        | _=>False
      | none=>False
    | _=>False
  | .indexAddr t x i=>match ρ i with
    | .int _ n=>match P.underlying t with
      | some (.slice e)=>szK P e λz=>match ρ x with
        | .slice b l _=>NC b λa=>(0<=n/\n<(l:Int))/\K (.pointer (some (a.add (n.toNat*z))))
        | _=>False
      | some (.array l e)=>szK P e λz=>match ρ x with
        | .pointer b=>NC b λa=>(0<=n/\n<(l:Int))/\K (.pointer (some (a.add (n.toNat*z))))
        | _=>False
      | _=>False
    | _=>False
  | .build t parts=>match Lu P t with
    | some z=>match P.underlying t with
      | some (.struct fs)=>oC P fs.toList (evFill (λi=>(fs[i]?).map λf=>(f.offset,XQ P f.type)) ((parts.map λ(i,x)=>(i,ρ x)).toList) z.cells.toList λl=>K (.agg ⟨l⟩))
      | some (.array _ e)=>szK P e λn=>evFill (λi=>some (i*n,n)) ((parts.map λ(i,x)=>(i,ρ x)).toList) z.cells.toList λl=>K (.agg ⟨l⟩)
      | _=>False
    | none=>False
  | .extract x i=>match ρ x with
    | .tuple vs=>match vs.toList[i]? with
      | some v=>unVT (dO P ty) v λx=>K (mkVT (dO P ty) x)
      | none=>False
    | _=>False
  | .slice t x lo hi none=>match P.underlying t with
    | some (.slice e)=>szK P e λz=>match ρ x with
      | .slice a l c=>evBound (hi.map ρ) l c λh=>evBound (lo.map ρ) 0 h λm=>K (.slice (if c=m then a else a.map (·.add (m*z))) (h-m) (c-m))
      | _=>False
    | some (.array n e)=>szK P e λz=>match ρ x with
      | .pointer a=>NC a λp=>evBound (hi.map ρ) n n λh=>evBound (lo.map ρ) 0 h λm=>K (.slice (some (if n=m then p else p.add (m*z))) (h-m) (n-m))
      | _=>False
    | _=>False
  | .makeInterface t x=>match P.underlying t with
    | some (.interface _)=>False
    | some _=>K (.iface t (ρ x))
    | none=>False
  | .typeAssert x _ asserted true=>match P.underlying asserted with
    | some (.interface _)=>False
    | some _=>match Lu P asserted with
      | some z=>TAS (ρ x) asserted z λv b=>K (.tuple #[v,.bool b])
      | none=>False
    | none=>False
  | .call c=>match c.callee with
    | .builtin .len=>match c.args.toList with
      | [x]=>match ρ x with
        | .slice _ n _=>match(c.argTypes.toList.head?).bind P.underlying with
          | some (.slice _)=>K (.int .i64 n)
          | _=>False
        | _=>False
      | _=>False
    | .builtin .min=>match c.args.toList with
      | [x,y]=>match ρ x with
        | .int k a=>match ρ y with
          | .int _ b=>K (.int k (if b<a then b else a))
          | _=>False
        | _=>False
      | [x,y,z]=>match ρ x with
        | .int k a=>match ρ y with
          | .int _ b=>match ρ z with
            | .int _ d=>K (.int k (XR (XR a b) d))
            | _=>False
          | _=>False
        | _=>False
      | _=>False
    | .builtin .max=>match c.args.toList with
      | [x,y]=>match ρ x with
        | .int k a=>match ρ y with
          | .int _ b=>K (.int k (if b>a then b else a))
          | _=>False
        | _=>False
      | [x,y,z]=>match ρ x with
        | .int k a=>match ρ y with
          | .int _ b=>match ρ z with
            | .int _ d=>K (.int k (TQ (TQ a b) d))
            | _=>False
          | _=>False
        | _=>False
      | _=>False
    | _=>False
  | .index t x i=>match P.underlying t with
    | some (.array l e)=>match ρ x with
      | .agg cs=>match ρ i with
        | .int _ n=>match P.underlying e with
          | some (.slice _)=>dP P l e cs.toList n K
          | _=>oE P l e cs.toList n K
        | _=>False
      | _=>False
    | some .string=>match ρ x with
      | .string s=>match ρ i with
        | .int _ n=>STRI s n λb=>K (.int .u8 b)
        | _=>False
      | _=>False
    | _=>False
  | _=>False
def Ag{P:Program}{t:TypeId}{d:TypeDesc}(h:P.underlying t=some d)(w:World):(underlying t).run P w= .ok d w:=by
  simp[underlying,h]
def ZK{P:Program}{t:TypeId}(h:(P.info? t).isSome=true)(w:World):(sizeOf t).run P w= .ok (XQ P t) w:=by
  obtain⟨i,j⟩:=Option.isSome_iff_exists.1 h;simp[sizeOf,typeInfo,j,XQ,Program.cellsOf]
def ZL{P:Program}{op:BinOp}{k:IntKind}{a b:Int}{K:Value->Prop}(h:evInt op k a b K)(j:op≠ .shl/\op≠ .shr)(t:TypeId):
    ∃v,K v/\ ∀w,(binOp op t (.int k a) (.int k b)).run P w= .ok v w:=by
  cases op<;>simp only[evInt]at h<;>
    first
      | exact h.elim
      | exact(j.1 rfl).elim
      | exact(j.2 rfl).elim
      | exact⟨_,h,λw=>by simp[binOp,Op.intArith,Op.intCmp,Op.intBits]⟩
      | (obtain⟨h0,h⟩:=h;exact⟨_,h,λw=>by simp[binOp,Op.intDiv,h0]⟩)
def TR(P:Program)(d:Nat){t:TypeId}(w:World):
    (∀e a,P.underlying t=some (.pointer e)->(Op.equalIn (d+1) t (.pointer a) (.pointer none)).run P w= .ok a.isNone w)/\
    (∀e a n c v j,P.underlying t=some (.slice e)->(Op.equalIn (d+1) t (.slice a n c) (.slice none v j)).run P w= .ok a.isNone w)/\
    (∀k e a,P.underlying t=some (.map k e)->(Op.equalIn (d+1) t (.map a) (.map none)).run P w= .ok a.isNone w):=by
  refine⟨λe a h=> ?_,λe a n c v j h=> ?_,λk e a h=> ?_⟩<;>cases a<;>simp[Op.equalIn,Ag h]
def Ge(P:Program){t:TypeId}(w:World):
    (∀e a,P.underlying t=some (.pointer e)->(Op.equal t (.pointer a) (.pointer none)).run P w= .ok a.isNone w)/\
    (∀e a n c v j,P.underlying t=some (.slice e)->(Op.equal t (.slice a n c) (.slice none v j)).run P w= .ok a.isNone w)/\
    (∀k e a,P.underlying t=some (.map k e)->(Op.equal t (.map a) (.map none)).run P w= .ok a.isNone w):=
  TR P 9999 w
def XU{P:Program}{op:BinOp}{t:TypeId}{x y:Value}{K:Value->Prop}(h:evBin0 P op t x y K):
    ∃v,K v/\ ∀w,(binOp op t x y).run P w= .ok v w:=by
  unfold evBin0 at h;split at h
  . split at h
    . split at h
      . obtain⟨h0,h⟩:=h;refine⟨_,h,λw=> ?_⟩;have: ¬(‹Int› :Int)<0:=by omega
        simp[binOp,Op.shift,Int.not_lt.2 h0]
      . obtain⟨h0,h⟩:=h;exact⟨_,h,λw=>by simp[binOp,Op.shift,Int.not_lt.2 h0]⟩
      . rename_i h1 h2;obtain⟨rfl,O⟩:=GU h;exact ZL O ⟨λe=>h1 e,λe=>h2 e⟩ t
    grind
  . split at h
    . split at h
      . rename_i ht;split at h
        . exact⟨_,h,λw=>run_eql_bool w t _ _ ht⟩
        . exact⟨_,h,λw=>run_neq_bool w t _ _ ht⟩
        grind
      grind
    grind
  . split at h
    . split at h
      . rename_i ht;have T:P.underlying t=some (.pointer (P.pointee t)):=by simp[Program.pointee,ht]
        rename_i a _ _ _ _;split at h
        . refine⟨_,h,λw=> ?_⟩;simp only[binOp]
          first
            | simp[(Ge P w).1 _ _ ht]
            | simp[(Ge P w).2.1 _ _ _ _ _ _ ht]
            | simp[(Ge P w).2.2 _ _ _ ht]
        . refine⟨_,h,λw=> ?_⟩;simp only[binOp]
          first
            | simp[(Ge P w).1 _ _ ht]
            | simp[(Ge P w).2.1 _ _ _ _ _ _ ht]
            | simp[(Ge P w).2.2 _ _ _ ht]
        grind
      grind
    grind
  . split at h
    . split at h
      . rename_i ht;rename_i a _ _ _ _ _ _ _ _;split at h
        . refine⟨_,h,λw=> ?_⟩;simp only[binOp]
          first
            | simp[(Ge P w).1 _ _ ht]
            | simp[(Ge P w).2.1 _ _ _ _ _ _ ht]
            | simp[(Ge P w).2.2 _ _ _ ht]
        . refine⟨_,h,λw=> ?_⟩;simp only[binOp]
          first
            | simp[(Ge P w).1 _ _ ht]
            | simp[(Ge P w).2.1 _ _ _ _ _ _ ht]
            | simp[(Ge P w).2.2 _ _ _ ht]
        grind
      grind
    grind
  . split at h
    . split at h
      . rename_i ht;rename_i a _ _ _ _ _;split at h
        . refine⟨_,h,λw=> ?_⟩;simp only[binOp]
          first
            | simp[(Ge P w).1 _ _ ht]
            | simp[(Ge P w).2.1 _ _ _ _ _ _ ht]
            | simp[(Ge P w).2.2 _ _ _ ht]
        . refine⟨_,h,λw=> ?_⟩;simp only[binOp]
          first
            | simp[(Ge P w).1 _ _ ht]
            | simp[(Ge P w).2.1 _ _ _ _ _ _ ht]
            | simp[(Ge P w).2.2 _ _ _ ht]
        grind
      grind
    grind
  . split at h
    . obtain⟨j,h⟩:=Kv h;obtain⟨J,h⟩:=Kv h;subst j;subst J;unfold evFlt at h;split at h
      . exact⟨_,h,λw=>by simp[binOp,Op.floatCmp,DY,Kw]⟩
      . exact⟨_,h,λw=>by simp[binOp,Op.floatCmp,DY,Kw]⟩
      . exact⟨_,h,λw=>by simp[binOp,Op.floatCmp,DY,Kw]⟩
      . exact⟨_,h,λw=>by simp[binOp,Op.floatCmp,DY,Kw]⟩
      . exact⟨_,h,λw=>by simp[binOp,Op.floatCmp,DY,Kw]⟩
      . exact⟨_,h,λw=>by simp[binOp,Op.floatCmp,DY,Kw]⟩
      grind
    grind
  grind
def ON(P:Program){t:TypeId}{y rs:Array TypeId}{J:Bool}{x:Value}(w:World)(j:P.underlying t=some (.func y rs J))(v:isFn x=true):
    (Op.equal t x .nilFunc).run P w= .ok (isNilF x) w:=by
  have key: ∀d,(Op.equalIn (d+1) t x .nilFunc).run P w= .ok (isNilF x) w:=by
    intro d;cases x<;>simp[isFn]at v<;>simp[Op.equalIn,Ag j,isNilF]
  exact key 9999
def OO(P:Program){t:TypeId}{ms:Array (String×TypeId)}{x:Value}(w:World)(j:P.underlying t=some (.interface ms))(v:isIf x=true):
    (Op.equal t x .nilIface).run P w= .ok (isNilI x) w:=by
  have key: ∀d,(Op.equalIn (d+1) t x .nilIface).run P w= .ok (isNilI x) w:=by
    intro d;cases x<;>simp[isIf]at v<;>simp[Op.equalIn,Ag j,isNilI]
  exact key 9999
def MJ{P:Program}(d:Nat)(xs J:Array Value): ∀(fs:List Field) (K:Bool->Prop),evEqF P xs.toList J.toList fs K->
    ∃r,K r/\ ∀w,(Op.eqFields (d+1) xs J fs).run P w= .ok r w
  | [],K,h=>⟨true,h,λw=>by rfl⟩
  | f::r,K,h=>by
    unfold evEqF at h;split at h
    . rename_i hn;have O:f.name≠ "_" :=by grind
      split at h
      . rename_i ht;split at h
        . rename_i k a hx;split at h
          . rename_i k' b hy;obtain⟨rfl,h2⟩:=GU h;obtain⟨t,Y,hr⟩:=MJ d xs J r _ h2;have j:xs[f.offset]? =some (.int k a):=by grind
            have y:J[f.offset]? =some (.int k b):=by grind
            refine⟨_,Y,λw=> ?_⟩;have T: ∀(cs:Array Value) v,cs[f.offset]? =some v->(part f.type cs f.offset).run P w= .ok v w:=by
              intro cs v hv;simp[part,isAgg,Ag ht,hv]
            simp only[Op.eqFields,if_pos O,Sem.run_bind,T _ _ j,T _ _ y,Result.andThen_ok,run_equalIn_int w d f.type k _ a b ht];cases hab:(a==b)<;>simp[hr]
          grind
        grind
      . rename_i ht;split at h
        . rename_i a hx;split at h
          . rename_i b hy;obtain⟨t,Y,hr⟩:=MJ d xs J r _ h;have j:xs[f.offset]? =some (.bool a):=by grind
            have y:J[f.offset]? =some (.bool b):=by grind
            refine⟨_,Y,λw=> ?_⟩;have T: ∀(cs:Array Value) v,cs[f.offset]? =some v->(part f.type cs f.offset).run P w= .ok v w:=by
              intro cs v hv;simp[part,isAgg,Ag ht,hv]
            simp only[Op.eqFields,if_pos O,Sem.run_bind,T _ _ j,T _ _ y,Result.andThen_ok,run_equalIn_bool' w d f.type a b ht];cases hab:(a==b)<;>simp[hr]
          grind
        grind
      grind
    grind
def Sd{P:Program}{op:BinOp}{t:TypeId}{xs j:Array Value}{K:Value->Prop}(h:evEqS P op t xs.toList j.toList K):
    (∃v,K v/\ ∀w,(binOp op t (.agg xs) (.agg j)).run P w= .ok v w)/\P.eqGuardType P.depth t=false:=by
  unfold evEqS at h;split at h
  . rename_i fs ht;split at h
    . rename_i hp;split at h
      . rename_i hg;refine⟨?_,hg⟩;have hf:P.fieldsOf t=fs:=by simp[Program.fieldsOf,ht]
        have y:P.underlying t=some (.struct (P.fieldsOf t)):=by grind
        split at h
        . obtain⟨r,J,O⟩:=MJ 9998 xs j _ _ h;refine⟨_,J,λw=> ?_⟩;rw[run_eql_struct,run_equalIn_struct w 9999 t xs j y hp,hf,O w];rfl
        . obtain⟨r,J,O⟩:=MJ 9998 xs j _ _ h;refine⟨_,J,λw=> ?_⟩;rw[run_neq_struct,run_equalIn_struct w 9999 t xs j y hp,hf,O w];rfl
        grind
      grind
    grind
  grind
def OP{P:Program}{op:BinOp}{t:TypeId}{x y:Value}{K:Value->Prop}(h:evBin P op t x y K):
    ∃v,K v/\ ∀w,(binOp op t x y).run P w= .ok v w:=by
  unfold evBin at h;split at h
  . split at h
    . rename_i ms ht;split at h
      . split at h
        . obtain⟨j,J⟩:=h;refine⟨_,J,λw=> ?_⟩;have he:=OO P w ht j;cases x<;>simp[isIf]at j<;>simp[binOp,he]
        . obtain⟨j,J⟩:=h;refine⟨_,J,λw=> ?_⟩;have he:=OO P w ht j;cases x<;>simp[isIf]at j<;>simp[binOp,he]
        grind
      grind
    grind
  . split at h
    . rename_i ht;split at h
      . obtain⟨j,J⟩:=h;refine⟨_,J,λw=> ?_⟩;have he:=ON P w ht j;cases x<;>simp[isFn]at j<;>simp[binOp,he]
      . obtain⟨j,J⟩:=h;refine⟨_,J,λw=> ?_⟩;have he:=ON P w ht j;cases x<;>simp[isFn]at j<;>simp[binOp,he]
      grind
    grind
  . split at h
    . exact(Sd h).1
    grind
  . exact XU h
def K9(P:Program){t e:TypeId}{a b:Option Addr}{n:Nat}(w:World)(j:P.underlying t=some (.pointer e))(y:n≠0)(J:(sizeOf e).run P w= .ok n w){K:Bool->Prop}(h:PEQ a b K):
    ∃r,K r/\(Op.equal t (.pointer a) (.pointer b)).run P w= .ok r w/\r=(match a,b with|none,b=>b.isNone|some _,none=>false|some p,some q=>p==q):=by
  have key: ∀d,∃r,K r/\(Op.equalIn (d+1) t (.pointer a) (.pointer b)).run P w= .ok r w/\r=(match a,b with|none,b=>b.isNone|some _,none=>false|some p,some q=>p==q):=by
    intro d;cases a with
    | none=>exact⟨_,h,by simp[Op.equalIn,Ag j],rfl⟩
    | some p=>cases b with
      | none=>exact⟨_,h,by simp[Op.equalIn,Ag j],rfl⟩
      | some q=>
        obtain⟨v,h⟩:=h;exact⟨_,h,by simp[Op.equalIn,Ag j,J,y,sameAddr,v],rfl⟩
  exact key 9999
def XV{P:Program}{op:BinOp}{t:TypeId}{x y:Value}{K:Value->Prop}(h:evBinT P op t x y K):
    ∃v,K v/\ ∀w,(binOp op t x y).run P w= .ok v w:=by
  unfold evBinT at h;split at h
  . split at h
    . split at h
      . rename_i e ht;obtain⟨n,h,T,_,Y⟩:=Gp h;split at h
        . obtain⟨r,hK,_,J⟩:=K9 P default ht T (Y default) h;refine⟨_,hK,λw=> ?_⟩;obtain⟨r',_,j,O⟩:=K9 P w ht T (Y w) h;rw[O,<-J]at j;simp[binOp,j]
        . obtain⟨r,hK,_,J⟩:=K9 P default ht T (Y default) h;refine⟨_,hK,λw=> ?_⟩;obtain⟨r',_,j,O⟩:=K9 P w ht T (Y w) h;rw[O,<-J]at j;simp[binOp,j]
        grind
      grind
    . exact OP h
  . exact OP h
def P6{P:Program}{op:BinOp}{t:TypeId}{x y:Operand}{a b:Value}{w:World}
    (h: ∀K,evBin P op t a b K->True)(j: ∃K,evBin P op t a b K):(eqGuard op t x y a b).run P w= .ok () w:=by
  obtain⟨K,j⟩:=j;unfold evBin at j;split at j
  . split at j
    . rename_i ms ht;split at j
      . rename_i hms;have O: ∀d,(Op.eqGuardIn (d+1) t .nilIface .nilIface).run P w= .ok false w:=λd=>by simp[Op.eqGuardIn,Ag ht,hms]
        have v:(Op.eqGuardIn Op.maxDepth t .nilIface .nilIface).run P w= .ok false w:=O 9999;split at j<;>first
          | exact j.elim
          | (obtain⟨J,_⟩:=j
             cases a<;>simp[isIf]at J
             all_goals first
               | rfl
               | (simp[eqGuard,v];done)
               | (simp[eqGuard,v];split<;>rfl)
               | (simp only[eqGuard];split<;>simp[v]))
      grind
    grind
  . split at j
    . split at j<;>first
        | exact j.elim
        | (obtain⟨J,_⟩:=j;cases a<;>simp[isFn]at J<;>rfl)
    grind
  . split at j
    . exact run_eqGuard_agg w op t x y _ _ (Sd j).2
    grind
  . unfold evBin0 at j;split at j<;>first
      | exact j.elim
      | (cases op<;>rfl)
def WY{P:Program}{x:Option Value}{d top:Nat}{K:Nat->Prop}(h:evBound x d top K)(code:BoundsCode):
    (∃n,K n/\ ∀w,(match x with|some v=>Instr.sliceBound v top code|none=>pure d:Sem Nat).run P w= .ok n w):=by
  unfold evBound at h;split at h
  . exact⟨_,h,λw=>by simp⟩
  . obtain⟨⟨h0,h1⟩,h⟩:=h;exact⟨_,h,λw=>by simp[Instr.sliceBound,asIntOf,h0,h1]⟩
  grind
def T8{P:Program}{isS:Bool}{l c:Nat}{J v:Option Value}{K:Nat->Nat->Prop}
    (h:evBound v l c λh=>evBound J 0 h λm=>K h m):
    ∃h m,K h m/\ ∀w,(Instr.sliceBounds isS l c J v none).run P w= .ok (m,h,c) w:=by
  obtain⟨n,j,O⟩:=WY (P:=P) h (if isS then .sliceAcap else .sliceAlen);obtain⟨m,j,y⟩:=WY (P:=P) j .sliceB;refine⟨n,m,j,λw=> ?_⟩;have h1:=O w;have h2:=y w;cases v<;>cases J<;>simp_all[Instr.sliceBounds]
def T9{P:Program}{t:TypeId}{cs:Array Value}{off:Nat}{K:Value->Prop}(h:evPart P t cs.toList off K):
    ∃v,K v/\ ∀w,(part t cs off).run P w= .ok v w:=by
  obtain⟨J,h|h⟩:=WW h
  . obtain⟨h,j⟩:=h;refine⟨_,h,λw=> ?_⟩;simp[part,j,ZK J]
    grind
  . obtain⟨d,hd,h,j⟩:=h;split at h
    . rename_i v hv;have y:cs[off]? =some v:=by grind
      exact⟨_,h,λw=>by simp[part,j,y]⟩
    grind
def GQ{P:Program}{t:TypeId}{z:Value}(h:Lu P t=some z)(w:World):(zeroValue t).run P w= .ok z w:=by
  unfold Lu at h;cases hi:P.info? t with
  | none=>grind
  | some i=>simp[hi]at h;simp[zeroValue,typeInfo,hi,h]
def UA{P:Program}:{j:List Field}->{X:Prop}->oC P j X->X/\ ∀f∈j,∀w,(sizeOf f.type).run P w= .ok (XQ P f.type) w
  | [],_,h=>⟨h,by simp⟩
  | f::r,X,h=>by
    obtain⟨n,h2,_,K,O⟩:=Gp h;obtain⟨v,y⟩:=UA h2;refine⟨v,λg J w=> ?_⟩
    grind
def run_places{P:Program}(v:Array Field)(h: ∀f∈v.toList,∀w,(sizeOf f.type).run P w= .ok (XQ P f.type) w)(w:World):
    (v.mapM λf=>do pure (f.offset,<-sizeOf f.type):Sem (Array (Nat×Nat))).run P w= .ok (v.map λf=>(f.offset,XQ P f.type)) w:=by
  have key: ∀(l:List Field),(∀f∈l,∀w,(sizeOf f.type).run P w= .ok (XQ P f.type) w)->
      (l.mapM (λf=>do pure (f.offset,<-sizeOf f.type):Field->Sem (Nat×Nat))).run P w= .ok (l.map λf=>(f.offset,XQ P f.type)) w:=by
    intro l
    induction l with
    | nil=>intro _;simp
    | cons f r ih=>
      intro h;have j:=ih (λg y=>h g (by simp[y]));simp only[bind_pure_comp]at j;simp[List.mapM_cons,h f (by simp),j]
  have hk:=key v.toList h;rw[Array.mapM_eq_mapM_toList];simp only[Sem.run_map,hk,Result.andThen_ok];congr 1
  grind
def kR{a b:Nat}(h:Nat.beq a b=false): ¬a=b:=λe=>by rw[e,Nat.beq_refl]at h;cases h
def tS{P:Program}{l:Nat}{e:TypeId}{cs:Array Value}{n:Int}{K:Value->Prop}(h:oE P l e cs.toList n K):
    ∃v,K v/\(0<=n/\n<(l:Int))/\ ∀w,(sizeOf e).run P w= .ok 1 w/\(part e cs (n.toNat*1)).run P w= .ok v w:=by
  unfold oE at h;split at h
  . rename_i u hu;obtain⟨z,O,hz,_,hr⟩:=Gp h;have y:=Kx O;have J:=Kx y.2;have h1:=y.1;have h2:=J.1;have h:=J.2;subst h1;split at h
    . rename_i hp;obtain⟨Y,h⟩:=h;have hg:=ZJ hp (i:=n.toNat) (by omega);have j:evPart P e cs.toList (n.toNat*1) λv=>v= .pointer ((oD cs.toList).getD n.toNat none):=by
        unfold evPart aggK
        grind
      obtain⟨v,hv,T⟩:=T9 j
      grind
    grind
  grind
def oF{P:Program}{l:Nat}{e:TypeId}{cs:Array Value}{n:Int}{K:Value->Prop}(h:dP P l e cs.toList n K):
    ∃v,K v/\(0<=n/\n<(l:Int))/\ ∀w,(sizeOf e).run P w= .ok 1 w/\(part e cs (n.toNat*1)).run P w= .ok v w:=by
  unfold dP at h;split at h
  . rename_i u hu;obtain⟨z,T,hz,_,hr⟩:=Gp h;have J:=Kx T;have O:=Kx J.2;have h1:=J.1;have h2:=O.1;have h:=O.2;subst h1;split at h
    . rename_i hp;obtain⟨Y,h⟩:=h;have hg:=iJ hp (i:=n.toNat) (by omega);have j:evPart P e cs.toList (n.toNat*1) λv=>v= .slice ((slL cs.toList).getD n.toNat ⟨none,0,0⟩).base ((slL cs.toList).getD n.toNat ⟨none,0,0⟩).len ((slL cs.toList).getD n.toNat ⟨none,0,0⟩).cap:=by
        unfold evPart aggK
        grind
      obtain⟨v,hv,y⟩:=T9 j;subst hv;exact⟨_,h,Y,λw=>⟨hr w,y w⟩⟩
    grind
  grind
def ZM{P:Program}{op:BinOp}{t:TypeId}{x y:Operand}{a b:Value}{w:World}{K:Value->Prop}(h:evBinT P op t a b K):
    (eqGuard op t x y a b).run P w= .ok () w:=by
  unfold evBinT at h;split at h
  . split at h
    . unfold eqGuard;cases op<;>simp
    . exact P6 (λ_ _=>trivial) ⟨_,h⟩
  . exact P6 (λ_ _=>trivial) ⟨_,h⟩
def QY{P:Program}{o:Oper}{ρ:Operand->Value}{K:Value->Prop}(h:evPure P o.op o.type ρ K):
    ∃v,K v/\ ∀w,(execOp ρ o).run P w= .ok (.value v) w:=by
  obtain⟨dst,op,type,pos,after,guard⟩:=o;simp only at h;unfold evPure at h;split at h
  case h_1=>exact⟨_,h,λw=>by simp[execOp]⟩
  case h_2=>exact⟨_,h,λw=>by simp[execOp]⟩
  case h_3=>
    split at h
    . rename_i J;exact⟨_,h,λw=>by simp[execOp,J,asBool,cond_eq_ite]⟩
    grind
  case h_4=>
    split at h
    . rename_i J;obtain⟨p,rfl,h⟩:=JW h;exact⟨_,h,λw=>by simp[execOp,J]⟩
    grind
  case h_5=>
    split at h
    . have Y: ∀x y w,(eqGuard _ _ x y _ _).run P w= .ok () w:=λx y w=>ZM h;obtain⟨v,O,j⟩:=XV h;exact⟨v,O,λw=>by simp[execOp,j,Y]⟩
    . have Y: ∀x y w,(eqGuard _ _ x y _ _).run P w= .ok () w:=λx y w=>P6 (λ_ _=>trivial) ⟨_,h⟩;obtain⟨v,O,j⟩:=OP h;exact⟨v,O,λw=>by simp[execOp,j,Y]⟩
  case h_6=>
    unfold evUn at h;split at h
    . rename_i hx;exact⟨_,h,λw=>by simp[execOp,Op.unary,hx]⟩
    . rename_i hx;exact⟨_,h,λw=>by simp[execOp,Op.unary,hx,Op.intArith]⟩
    . rename_i hx;exact⟨_,h,λw=>by simp[execOp,Op.unary,hx,Op.intBits]⟩
    grind
  case h_7=>
    split at h
    . rename_i hs hd hx;exact⟨_,h,λw=>by simp[execOp,convert,Ag hs,Ag hd,hx,Conv.intToInt]⟩
    . rename_i hs hd hx;obtain⟨e,h⟩:=Kv h;subst e;exact⟨_,h,λw=>by simp[execOp,convert,Ag hs,Ag hd,hx,Conv.intToFloat,Lv,Kw]⟩
    . rename_i hs hd hx;obtain⟨e,h⟩:=Kv h;subst e;obtain⟨n,h1,h2,h⟩:=h;unfold Rv at h1;rw[Kw]at h1;exact⟨_,h,λw=>by simp[execOp,convert,Ag hs,Ag hd,hx,Conv.floatToInt,h1,h2]⟩
    grind
  case h_8=>exact⟨_,h,λw=>by simp[execOp,Instr.makeFunc]⟩
  case h_9=>
    split at h
    . rename_i hs;split at h
      . rename_i f hf;obtain⟨z,h,hz,_,j⟩:=Gp h;split at h
        . rename_i hx;obtain⟨p,rfl,h⟩:=JW h;exact⟨_,h,λw=>by simp[execOp,Instr.fieldAt,Ag hs,hf,hx,Instr.sureAddr,fieldPlace,j,hz]⟩
        grind
      grind
    grind
  case h_10=>
    split at h
    . rename_i hs;split at h
      . rename_i f hf;split at h
        . rename_i hx;obtain⟨v,O,j⟩:=T9 h;exact⟨_,O,λw=>by simp[execOp,Instr.field,Ag hs,hf,hx,asAgg,j]⟩
        grind
      grind
    grind
  case h_11=>
    split at h
    . rename_i hi;split at h
      . rename_i ht;obtain⟨z,h,hz,_,j⟩:=Gp h;split at h
        . rename_i hx;obtain⟨p,rfl,h1,h⟩:=JW h;exact⟨_,h,λw=>by simp[execOp,Instr.indexAt,Ag ht,hi,hx,asIntOf,j,h1]⟩
        grind
      . rename_i ht;obtain⟨z,h,hz,_,j⟩:=Gp h;split at h
        . rename_i hx;obtain⟨p,rfl,h1,h⟩:=JW h;exact⟨_,h,λw=>by simp[execOp,Instr.indexAt,Ag ht,hi,hx,asIntOf,Instr.sureAddr,j,h1]⟩
        grind
      grind
    grind
  case h_12=>
    split at h
    . rename_i z hz;have aA:=GQ hz;split at h
      . rename_i fs hs;obtain⟨h2,aC⟩:=UA h;obtain⟨out,O,hf⟩:=MI h2;refine⟨_,O,λw=> ?_⟩;have hp:=run_places fs aC w;have Y:(λi:Nat=>Option.map (λf:Field=>(f.offset,XQ P f.type)) fs[i]?)=λi:Nat=>(fs.map λf:Field=>(f.offset,XQ P f.type))[i]? :=by grind
        rw[Y]at hf;simp[execOp,Instr.build,aA,Ag hs];simp at hp hf;simp[hp,hf]
      . rename_i hs;obtain⟨n,h2,_,hn,j⟩:=Gp h;obtain⟨out,O,hf⟩:=MI h2;refine⟨_,O,λw=> ?_⟩;simp at hf;simp[execOp,Instr.build,aA,Ag hs,j,hf]
      grind
    grind
  case h_13=>
    split at h
    . rename_i vs hx;split at h
      . rename_i v hv;rw[Array.getElem?_toList]at hv;obtain⟨u,rfl,h2⟩:=Rt h;exact⟨_,h2,λw=>by simp[execOp,Instr.extract,hx,hv]⟩
      grind
    grind
  case h_14=>
    split at h
    . rename_i ht;obtain⟨z,h,hz,_,j⟩:=Gp h;split at h
      . rename_i hx;obtain⟨hh,m,O,J⟩:=T8 (P:=P) (isS:=true) h;refine⟨_,O,λw=> ?_⟩;simp[execOp,Instr.sliceAt,Instr.slice,Ag ht,hx,J,j]
      grind
    . rename_i ht;obtain⟨z,h,hz,_,j⟩:=Gp h;split at h
      . rename_i hx;obtain⟨p,rfl,h2⟩:=JW h;obtain⟨hh,m,O,J⟩:=T8 (P:=P) (isS:=false) h2;refine⟨_,O,λw=> ?_⟩;simp[execOp,Instr.sliceAt,Ag ht,hx,J,j,Instr.sureAddr]
      grind
    grind
  case h_15=>
    split at h
    . grind
    . rename_i d hni hd;refine⟨_,h,λw=> ?_⟩;cases d<;>first
        | (simp[execOp,Instr.makeInterface,Ag hd];done)
        | grind
    grind
  case h_16=>
    split at h
    . grind
    . rename_i d hni hd;split at h
      . rename_i z hz;unfold TAS at h;split at h
        . rename_i hx;refine⟨_,h,λw=> ?_⟩;cases d<;>first
            | (simp[execOp,Instr.typeAssert,Ag hd,hx,GQ hz];done)
            | exact(hni _ rfl).elim
        . rename_i t v hx;split at h
          . rename_i J;have J:=Nat.eq_of_beq_eq_true J;refine⟨_,h,λw=> ?_⟩;cases d<;>first
              | (simp[execOp,Instr.typeAssert,Ag hd,hx,J];done)
              | grind
          . rename_i J;have J:=kR J;refine⟨_,h,λw=> ?_⟩;cases d<;>first
              | (simp[execOp,Instr.typeAssert,Ag hd,hx,J,GQ hz];done)
              | grind
        grind
      grind
    grind
  case h_17 c=>
    obtain⟨callee,args,argTypes⟩:=c;simp only at h;split at h
    . split at h
      . rename_i ha;split at h
        . rename_i hx;split at h
          . rename_i ht;have T:args= #[_]:=Array.toList_inj.1 (by omega);subst T;cases hT:argTypes.toList with
            | nil=>grind
            | cons t r=>
              have aB:argTypes[0]? =some t:=by simp[<-Array.getElem?_toList,hT]
              simp[hT]at ht;exact⟨_,h,λw=>by simp[execOp,resolve,invoke,builtin,Builtin.len_,aB,hx,Ag ht,goInt]⟩
          grind
        grind
      grind
    . split at h
      . rename_i ha;split at h
        . rename_i hx;split at h
          . rename_i hy;have T:args= #[_,_]:=Array.toList_inj.1 (by omega);subst T;exact⟨_,h,λw=>by simp[execOp,resolve,invoke,builtin,Builtin.min_,Builtin.min2,hx,hy]⟩
          grind
        grind
      . rename_i ha;split at h
        . rename_i hx;split at h
          . rename_i hy;split at h
            . rename_i hz;have T:args= #[_,_,_]:=Array.toList_inj.1 (by omega);subst T;exact⟨_,h,λw=>by simp[execOp,resolve,invoke,builtin,Builtin.min_,Builtin.min2,hx,hy,hz];rfl⟩
            grind
          grind
        grind
      grind
    . split at h
      . rename_i ha;split at h
        . rename_i hx;split at h
          . rename_i hy;have T:args= #[_,_]:=Array.toList_inj.1 (by omega);subst T;exact⟨_,h,λw=>by simp[execOp,resolve,invoke,builtin,Builtin.max_,Builtin.max2,hx,hy]⟩
          grind
        grind
      . rename_i ha;split at h
        . rename_i hx;split at h
          . rename_i hy;split at h
            . rename_i hz;have T:args= #[_,_,_]:=Array.toList_inj.1 (by omega);subst T;exact⟨_,h,λw=>by simp[execOp,resolve,invoke,builtin,Builtin.max_,Builtin.max2,hx,hy,hz];rfl⟩
            grind
          grind
        grind
      grind
    grind
  case h_18=>
    split at h
    . rename_i l e ht;split at h
      . rename_i cs hx;split at h
        . rename_i kk n hi;split at h
          . obtain⟨v,O,J,j⟩:=oF h;refine⟨v,O,λw=> ?_⟩;have h1:=(j w).1;have h2:=(j w).2;rw[Nat.mul_one]at h2;simp[execOp,Instr.index,Ag ht,hi,hx,asIntOf,J,h1,h2]
          . obtain⟨v,O,J,j⟩:=tS h;refine⟨v,O,λw=> ?_⟩;have h1:=(j w).1;have h2:=(j w).2;rw[Nat.mul_one]at h2;simp[execOp,Instr.index,Ag ht,hi,hx,asIntOf,J,h1,h2]
        grind
      grind
    . rename_i ht;split at h
      . rename_i s hx;split at h
        . rename_i kk n hi;obtain⟨h0,b,J,O⟩:=h;exact⟨_,O,λw=>by simp[execOp,Instr.index,Ag ht,hi,hx,asIntOf,h0,J]⟩
        grind
      grind
    grind
  grind
abbrev IK:=World->Prop
def IK.all:IK:=λ_=>True
def IK.cell(p:Addr)(v:Value):IK:=λw=>w.cell? p=some v
def IK.and(a b:IK):IK:=λw=>a w/\b w
def IK.obj(r:Option Nat)(es:Array MapEntry):IK:=λw=>match r with
 | none=>es= #[]
 | some b=> ∃c,w.heap[b]? =some (.map es c)
def XW:List Ty->Addr->Nat->World->(List Value->IK->Prop)->Prop
 | [],_,_,_,K=>K [] IK.all
 | t::r,p,i,w,K=> ∃x:xK t,w.cell? (p.add i)=some (mkV t x)/\XW r p (i+1) w λl S=>K (mkV t x::l) (IK.and (IK.cell (p.add i) (mkV t x)) S)
def dQ(P:Program)(t:TypeId)(p:Addr)(w:World)(K:Value->IK->Prop):Prop:=
 aggK P t (XS (oA P 12 t).length (XQ P t) (XW (oA P 12 t) p 0 w λl S=>K (.agg ⟨l⟩) S))
  λd=> ∃x:xK (yM d),w.cell? p=some (mkV (yM d) x)/\K (mkV (yM d) x) (IK.cell p (mkV (yM d) x))
abbrev WZ(w:World)(r:Option Nat)(es:Array MapEntry):Prop:=IK.obj r es w
def N4(k:IntKind)(n:Int)(es:Array MapEntry)(res:Option (Nat×Value)):Prop:=
 Instr.findNow (.int k) (.int k n) es.toList 0=some res
def keyK(P:Program):Nat->List Field->List Value->Prop->Prop
 | _,[],[],X=>X
 | j,f::r,v::s,X=>match Nat.beq f.offset j with
  | true=>match f.name != "_" with
   | true=>match P.underlying f.type with
    | some (.int k)=>match v with
     | .int k' _=>sameK k k' (keyK P (j+1) r s X)
     | _=>False
    | some .bool=>match v with
     | .bool _=>keyK P (j+1) r s X
     | _=>False
    | _=>False
   | false=>False
  | false=>False
 | _,_,_,_=>False
def Mq{P:Program}:{j:Nat}->{y:List Field}->{cs:List Value}->{X:Prop}->keyK P j y cs X->X/\keyK P j y cs True
 | _,[],[],_,h=>⟨h,trivial⟩
 | _,[],_::_,_,h=>h.elim
 | _,_::_,[],_,h=>h.elim
 | j,f::r,v::s,X,h=>by
  revert h
  unfold keyK;split
  .split
   .split
    .split
     .intro h;obtain⟨e,h2⟩:=GU h;subst e;obtain⟨J,K⟩:=Mq h2;exact⟨J,by unfold sameK;rw[Nat.beq_refl];exact K⟩
     grind
    .split
     .intro h;exact Mq h
     grind
    grind
   grind
  grind
def eqA:List Value->List Value->Option Bool
 | [],[]=>some true
 | .int k a::r,.int k' b::s=>match Nat.beq (ik k) (ik k')with
  | true=>bif a==b then eqA r s else some false
  | false=>none
 | .bool a::r,.bool b::s=>bif a==b then eqA r s else some false
 | _,_=>none
def findA(cs:List Value):List MapEntry->Nat->Option (Option (Nat×Value))
 | [],_=>some none
 | e::es,i=>match e.key with
  | .agg ds=>match eqA cs ds.toList with
   | some true=>some (some (i,e.val))
   | some false=>findA cs es (i+1)
   | none=>none
  | _=>none
def valOr(res:Option (Nat×Value))(z:Value):Value:=match res with|some (_,v)=>v|none=>z
def tT(k:IntKind)(n:Int)(r:Option Nat)(w:World)(z:Value)(K:Value->Bool->Array MapEntry->Prop):Prop:=
 ∃es res,WZ w r es/\N4 k n es res/\K (valOr res z) res.isSome es
def LKA(cs:List Value)(r:Option Nat)(w:World)(z:Value)(K:Value->Bool->Array MapEntry->Prop):Prop:=
 ∃es res,WZ w r es/\findA cs es.toList 0=some res/\K (valOr res z) res.isSome es
def evLookup(P:Program)(t:TypeId)(m key:Value)(ok:Bool)(w:World)(K:Value->IK->Prop):Prop:=
 match P.underlying t with
 | some (.map kt et)=>match P.underlying kt with
  | some (.int k)=>match key with
   | .int k' n=>sameK k k' (match m with
    | .map r=>match Lu P et with
     | some z=> ∃es res,WZ w r es/\N4 k n es res/\ ∃x:nR (dO P et),valOr res z=mkVT (dO P et) x/\
       K (bif ok then .tuple #[mkVT (dO P et) x,.bool res.isSome]else mkVT (dO P et) x) (IK.obj r es)
     | none=>False
    | _=>False)
   | _=>False
  | some (.struct fs)=>match key with
   | .agg cs=>match P.stoodInHeld kt with
    | false=>keyK P 0 fs.toList cs.toList (match m with
     | .map r=>match Lu P et with
      | some z=> ∃es res,WZ w r es/\findA cs.toList es.toList 0=some res/\ ∃x:nR (dO P et),valOr res z=mkVT (dO P et) x/\
        K (bif ok then .tuple #[mkVT (dO P et) x,.bool res.isSome]else mkVT (dO P et) x) (IK.obj r es)
      | none=>False
     | _=>False)
    | true=>False
   | _=>False
  | _=>False
 | _=>False
def IK.entry(r:Nat)(m since j:Nat)(seen:Array Nat)(es:Array MapEntry)(clock:Nat):IK:=λw=>
 w.heap[r]? =some (.mapIter (some m) since seen j)/\w.heap[m]? =some (.map es clock)
def yN(r:Nat)(w:World)(K:Value->Value->IK->Prop):Prop:=
 ∃m since j seen es clock v e,IK.entry r m since j seen es clock w/\seen.back?=some v/\clock=j/\
  es.find? (λx:MapEntry=>x.born==v)=some e/\K e.key e.val (IK.entry r m since j seen es clock)
def evRead(P:Program)(o:Op)(ρ:Operand->Value)(w:World)(K:Value->IK->Prop):Prop:=
 match o with
 | .load t a=>match ρ a with
  | .pointer p=>NC p λp=>dQ P t p w K
  | _=>False
 | .lookup t m k ok=>evLookup P t (ρ m) (ρ k) ok w K
 | .entry it=>match ρ it with
  | .pointer (some ⟨r,0,_⟩)=>yN r w λk v S=>K (.tuple #[k,v]) S
  | _=>False
 | .call c=>match c.callee with
  | .builtin .len=>match c.args.toList with
   | [x]=>match ρ x with
    | .map r=>match(c.argTypes.toList.head?).bind P.underlying with
     | some (.map _ _)=> ∃es,WZ w r es/\K (.int .i64 es.size) (IK.obj r es)
     | _=>False
    | _=>False
   | _=>False
  | _=>False
 | _=>False
def QZ{P:Program}:{l:List Ty}->{p:Addr}->{i:Nat}->{w:World}->{K:List Value->IK->Prop}->XW l p i w K->
  ∃vs S,K vs S/\S w/\vs.length=l.length/\ ∀w',S w'-> ∀acc,(loadCellsFrom p i l.length acc).run P w'= .ok (acc++vs.toArray) w'
 | [],p,i,w,K,h=>⟨[],IK.all,h,trivial,rfl,λw' _ acc=>by simp[loadCellsFrom]⟩
 | t::r,p,i,w,K,h=>by
  obtain⟨x,Y,h⟩:=h;obtain⟨vs,S,v,y,O,T⟩:=QZ (P:=P) h;refine⟨_,_,v,⟨Y,y⟩,by simp[O],λw' j acc=> ?_⟩;have J:w'.cell? (p.add i)=some (mkV t x):=j.1;simp[loadCellsFrom,J,T w' j.2]
def Se{P:Program}{t:TypeId}{p:Addr}{w:World}{K:Value->IK->Prop}(h:dQ P t p w K):
  ∃v S,K v S/\S w/\ ∀w',S w'->(loadVar t p).run P w'= .ok v w':=by
 obtain⟨Y,h|h⟩:=WW h
 .obtain⟨h,J⟩:=h;obtain⟨hn,h⟩:=Kx h;obtain⟨vs,S,y,O,hl,hr⟩:=QZ (P:=P) h;refine⟨_,S,y,O,λw' j=> ?_⟩;have:=hr w' j #[];simp[loadVar,J,ZK Y,loadCells,<-hn,this]
 .obtain⟨d,hd,⟨x,hx,y⟩,J⟩:=h;refine⟨_,_,y,hx,λw' j=> ?_⟩;have T:w'.cell? p=some (mkV (yM d) x):=j;simp[loadVar,J,T]
def run_findKey{P:Program}{j:TypeId}{k:IntKind}{n:Int}{es:Array MapEntry}{res:Option (Nat×Value)}(hk:P.underlying j=some (.int k))
  (h:N4 k n es res)(w:World):(Instr.findKey j (.int k n) es.toList).run P w= .ok res w:=by
 unfold N4 at h;simp[Instr.findKey,Ag hk,h]
def V6{P:Program}{j:TypeId}{k:IntKind}{n:Int}{e:Bool}(d:Nat)(hk:P.underlying j=some (.int k))(w:World):
  (Instr.checkKey e (d+1) j (.int k n)).run P w= .ok () w:=by
 simp[Instr.checkKey,Ag hk]
def run_checkKey{P:Program}{j:TypeId}{k:IntKind}{n:Int}{e:Bool}(hk:P.underlying j=some (.int k))(w:World):
  (Instr.checkKey e 10000 j (.int k n)).run P w= .ok () w:=V6 9999 hk w
def drop_cons{l s:List Value}{j:Nat}{v:Value}(h:l.drop j=v::s):l[j]? =some v/\l.drop (j+1)=s:=by
 constructor
 .have:=List.getElem?_drop (xs:=l) (i:=j) (j:=0)
  grind
 .rw[<-List.tail_drop,h];rfl
def Lo{P:Program}{t:TypeId}{cs:Array Value}{j:Nat}{v:Value}(y:(∃k,P.underlying t=some (.int k))∨P.underlying t=some .bool)(K:cs.toList[j]? =some v)(w:World):(part t cs j).run P w= .ok v w:=by
 have J:cs[j]? =some v:=by grind
 rcases y with ⟨k,y⟩|y<;>simp[part,isAgg,Ag y,J]
def Rw{P:Program}(d:Nat)(cs Y:Array Value): ∀(fs:List Field) (j:Nat) (s t:List Value) {b:Bool},cs.toList.drop j=s->Y.toList.drop j=t->keyK P j fs s True->eqA s t=some b->
  ∀w,(Op.eqFields (d+1) cs Y fs).run P w= .ok b w
 | [],j,[],t,b,hc,hd,h,he,w=>by
  cases t with
  | nil=>simp[eqA]at he;subst he;simp[Op.eqFields]
  | cons=>simp[eqA]at he
 | [],_,_::_,_,_,_,_,h,_,_=>h.elim
 | _::_,_,[],_,_,_,_,h,_,_=>h.elim
 | f::r,j,v::s,t,b,hc,hd,h,he,w=>by
  unfold keyK at h;obtain⟨K,O⟩:=drop_cons hc;split at h
  .rename_i e1;have e1:=Nat.eq_of_beq_eq_true e1;subst e1;split at h
   .rename_i hn;have T:f.name≠ "_" :=by grind
    split at h
    .rename_i kk e3;split at h
     .rename_i k a;obtain⟨aC,h2⟩:=GU h;clear h;subst aC;cases t with
      | nil=>simp[eqA]at he
      | cons u t=>
       obtain⟨y,J⟩:=drop_cons hd;cases u<;>try (simp[eqA]at he;done)
       rename_i k' a';unfold eqA at he;split at he
       .rename_i ek;have ek:=dN (Nat.eq_of_beq_eq_true ek);subst ek;simp only[Op.eqFields,if_pos T,Sem.run_bind,Lo (.inl ⟨_,e3⟩) K,Lo (.inl ⟨_,e3⟩) y,Result.andThen_ok,run_equalIn_int w d f.type _ _ _ _ e3];cases hab:(a==a')
        .rw[hab]at he;cases he;simp
        .rw[hab]at he;simp only[cond_true]at he;simp[Rw d cs Y r (f.offset+1) s t O J h2 he w]
       .cases he
     grind
    .rename_i e3;split at h
     .rename_i a;cases t with
      | nil=>simp[eqA]at he
      | cons u t=>
       obtain⟨y,J⟩:=drop_cons hd;cases u<;>try (simp[eqA]at he;done)
       rename_i a';unfold eqA at he;simp only[Op.eqFields,if_pos T,Sem.run_bind,Lo (.inr e3) K,Lo (.inr e3) y,Result.andThen_ok,run_equalIn_bool' w d f.type _ _ e3];cases hab:(a==a')
       .rw[hab]at he;cases he;simp
       .rw[hab]at he;simp only[cond_true]at he;simp[Rw d cs Y r (f.offset+1) s t O J h he w]
     grind
    grind
   grind
  grind
def UB{P:Program}{j:TypeId}{y:Array Field}{cs v:Array Value}{b:Bool}(hk:P.underlying j=some (.struct y))(hp:P.stoodInHeld j=false)(h:keyK P 0 y.toList cs.toList True)(he:eqA cs.toList v.toList=some b)(w:World):
  (Op.equal j (.agg cs) (.agg v)).run P w= .ok b w:=by
 have hf:P.fieldsOf j=y:=by simp[Program.fieldsOf,hk]
 have J:P.underlying j=some (.struct (P.fieldsOf j)):=by grind
 show(Op.equalIn (9999+1) j (.agg cs) (.agg v)).run P w=_;rw[run_equalIn_struct w 9999 j cs v J hp,hf];exact Rw 9998 cs v y.toList 0 _ _ rfl rfl h he w
def Wc{P:Program}{j:TypeId}{v:Array Field}{cs:Array Value}(hk:P.underlying j=some (.struct v))(hp:P.stoodInHeld j=false)(h:keyK P 0 v.toList cs.toList True)(w:World):
  ∀(es:List MapEntry) (i:Nat) {res:Option (Nat×Value)},findA cs.toList es i=some res->(Instr.findAsking j (.agg cs) es i).run P w= .ok res w
 | [],i,res,hf=>by simp[findA]at hf;subst hf;simp[Instr.findAsking]
 | e::es,i,res,hf=>by
  unfold findA at hf;split at hf
  .rename_i ds hd;split at hf
   .rename_i he;cases hf;simp[Instr.findAsking,hd,UB hk hp h he]
   .rename_i he;have:=Wc hk hp h w es (i+1) hf;simp[Instr.findAsking,hd,UB hk hp h he,this]
   .cases hf
  .cases hf
def Qa{P:Program}{j:TypeId}{v:Array Field}{cs:Array Value}(hk:P.underlying j=some (.struct v))(hp:P.stoodInHeld j=false)(h:keyK P 0 v.toList cs.toList True)
  {es:Array MapEntry}{res:Option (Nat×Value)}(hf:findA cs.toList es.toList 0=some res)(w:World):(Instr.findKey j (.agg cs) es.toList).run P w= .ok res w:=by
 have y:=Wc hk hp h w es.toList 0 hf;cases hes:es.toList with
 | nil=>rw[hes]at hf;simp[findA]at hf;subst hf;simp[Instr.findKey,Ag hk,Instr.findNow]
 | cons e l=>rw[hes]at y;simp[Instr.findKey,Ag hk,Instr.findNow,Instr.sameNow,y]
def P7{P:Program}(e:Bool)(d:Nat)(cs:Array Value): ∀(Y:List Field) (j:Nat) (s:List Value),cs.toList.drop j=s->keyK P j Y s True->
  ∀w,(do for f in Y do if f.name≠ "_" then Instr.checkKey e (d+1) f.type (<-part f.type cs f.offset):Sem Unit).run P w= .ok () w
 | [],_,_,_,_,w=>by simp
 | _::_,_,[],_,h,_=>h.elim
 | f::r,j,v::s,hc,h,w=>by
  unfold keyK at h;obtain⟨y,J⟩:=drop_cons hc;split at h
  .rename_i T;have T:=Nat.eq_of_beq_eq_true T;subst T;split at h
   .rename_i hn;have K:f.name≠ "_" :=by grind
    split at h
    .rename_i kk e3;split at h
     .obtain⟨aA,h2⟩:=GU h;have O:=P7 e d cs r (f.offset+1) s J h2 w;simp only[List.forIn_cons,Sem.run_bind,if_pos K,Lo (.inl ⟨_,e3⟩) y,Result.andThen_ok,Instr.checkKey,Ag e3,Sem.run_pure]at O⊢;exact O
     grind
    .rename_i e3;split at h
     .have O:=P7 e d cs r (f.offset+1) s J h w;simp only[List.forIn_cons,Sem.run_bind,if_pos K,Lo (.inr e3) y,Result.andThen_ok,Instr.checkKey,Ag e3,Sem.run_pure]at O⊢;exact O
     grind
    grind
   grind
  grind
def Pg{P:Program}{v:TypeId}{j:Array Field}{cs:Array Value}(hk:P.underlying v=some (.struct j))(h:keyK P 0 j.toList cs.toList True)(e:Bool)(w:World):
  (Instr.checkKey e 10000 v (.agg cs)).run P w= .ok () w:=by
 have key: ∀d,(Instr.checkKey e (d+1+1) v (.agg cs)).run P w= .ok () w:=by
  intro d;have:=P7 e d cs j.toList 0 _ rfl h w;rw[Instr.checkKey];simp only[Sem.run_bind,Ag hk,Result.andThen_ok];rw[Array.forIn_toList,Sem.run_bind]at this;exact this
 grind
def GV{P:Program}{w:World}{b:Nat}{es:Array MapEntry}{c:Nat}(h:w.heap[b]? =some (.map es c)):
  (getObj b).run P w= .ok (.map es c) w:=by
 simp[getObj,Sem.run,h]
def Qb{P:Program}{o:Oper}{ρ:Operand->Value}{w:World}{K:Value->IK->Prop}(h:evRead P o.op ρ w K):
  ∃v S,K v S/\S w/\ ∀w',S w'->(execOp ρ o).run P w'= .ok (.value v) w':=by
 obtain⟨dst,op,type,pos,after,guard⟩:=o;simp only at h;unfold evRead at h;split at h
 .split at h
  .rename_i T;obtain⟨p,rfl,h⟩:=JW h;obtain⟨v,S,Y,hS,hr⟩:=Se h;exact⟨v,S,Y,hS,λw' j=>by simp[execOp,Instr.loadAt,T,Instr.sureAddr,hr w' j]⟩
  grind
 .rename_i t m k ok;unfold evLookup at h;split at h
  .rename_i kt et ht;split at h
   .rename_i kk hk;split at h
    .rename_i k' n hkey;obtain⟨rfl,h2⟩:=GU h;split at h2
     .rename_i r hm;split at h2
      .rename_i z hz;obtain⟨es,res,y,hf,x,T,Y⟩:=h2;refine⟨_,_,Y,y,λw' j=> ?_⟩;have O:=run_findKey hk hf w';have J:=λe=>run_checkKey (e:=e) (n:=n) hk w';rw[<-T];cases r with
       | none=>
        have he:es= #[]:=j;simp only[execOp,Instr.lookup,hm,hkey,Sem.run_bind,Ag ht,Result.andThen_ok,Sem.run_pure,J];rw[show([]:List MapEntry)=es.toList from by rw[he],O];cases res<;>cases ok<;>simp[GQ hz,valOr]
       | some b=>
        obtain⟨c,hc⟩:=j;simp only[execOp,Instr.lookup,hm,hkey,Sem.run_bind,Ag ht,Result.andThen_ok,Sem.run_pure,J,GV hc,O];cases res<;>cases ok<;>simp[GQ hz,valOr]
      grind
     grind
    grind
   .rename_i fs hk;split at h
    .rename_i cs hkey;split at h
     .rename_i hp;obtain⟨h2,aC⟩:=Mq h;split at h2
      .rename_i r hm;split at h2
       .rename_i z hz;obtain⟨es,res,y,hf,x,T,Y⟩:=h2;refine⟨_,_,Y,y,λw' j=> ?_⟩;have O:=Qa hk hp aC hf w';have J:=λe=>Pg hk aC e w';rw[<-T];cases r with
        | none=>
         have he:es= #[]:=j;simp only[execOp,Instr.lookup,hm,hkey,Sem.run_bind,Ag ht,Result.andThen_ok,Sem.run_pure,J];rw[show([]:List MapEntry)=es.toList from by rw[he],O];cases res<;>cases ok<;>simp[GQ hz,valOr]
        | some b=>
         obtain⟨c,hc⟩:=j;simp only[execOp,Instr.lookup,hm,hkey,Sem.run_bind,Ag ht,Result.andThen_ok,Sem.run_pure,J,GV hc,O];cases res<;>cases ok<;>simp[GQ hz,valOr]
       grind
      grind
     grind
    grind
   grind
  grind
 .split at h
  .rename_i T;obtain⟨m,since,aD,seen,es,clock,aG,e,hS,hb,hc,hf,Y⟩:=h;refine⟨_,_,Y,hS,λw' j=> ?_⟩;obtain⟨h1,h2⟩:=j;subst hc;simp[execOp,Instr.entry,T,getObj,Sem.run,h1,hb,h2,hf]
  grind
 .rename_i c;obtain⟨callee,args,argTypes⟩:=c;simp only at h;split at h
  .split at h
   .rename_i ha;split at h
    .rename_i r T;split at h
     .rename_i ht;obtain⟨es,y,Y⟩:=h;refine⟨_,_,Y,y,λw' j=> ?_⟩;have aF:args= #[_]:=Array.toList_inj.1 (by omega);subst aF;cases hT:argTypes.toList with
      | nil=>grind
      | cons t r'=>
       have aB:argTypes[0]? =some t:=by simp[<-Array.getElem?_toList,hT]
       simp[hT]at ht;cases r with
       | none=>
        have he:es= #[]:=j;subst he;simp[execOp,resolve,invoke,builtin,Builtin.len_,aB,T,Ag ht,goInt]
       | some b=>
        obtain⟨c,hc⟩:=j;simp[execOp,resolve,invoke,builtin,Builtin.len_,aB,T,Ag ht,goInt,GV hc]
     grind
    grind
   grind
  grind
 grind
def szZ(P:Program)(t:TypeId)(K:Nat->Prop):Prop:=match P.info? t with
 | some _=>K (XQ P t)
 | none=>False
def oG{P:Program}{t:TypeId}{K:Nat->Prop}(h:szZ P t K): ∃n,K n/\n=XQ P t/\ ∀w,(sizeOf t).run P w= .ok n w:=by
 unfold szZ at h;split at h
 .rename_i i hi;refine⟨_,h,rfl,λw=> ?_⟩;simp[sizeOf,typeInfo,hi,XQ,Program.cellsOf]
 grind
def stCells(p:Addr):Nat->List Value->World->(World->Prop)->Prop
 | _,[],w,K=>K w
 | i,v::r,w,K=>((∃u,w.cell? (p.add i)=some u)/\w.frozen? (p.add i)=false/\v.oneCell'=true)/\stCells p (i+1) r (w.setCell (p.add i) v) K
def Je(zs:Array Value)(n:Nat):Array Value:=(Array.range n).map λi=>zs[i %zs.size]!
def rowAt(w:World)(b:Option Addr)(n:Nat)(l:List Value):Prop:=match b with
 | none=>l=[]
 | some a=>l.length=n/\ ∀j v,l[j]? =some v->w.cell? (a.add j)=some v
def APP(elem size bytes:Nat)(zs:Array Value)(s x:Ac)(w:World)(K:Ac->World->Prop):Prop:=
 ∃news,rowAt w x.base (x.len*size) news/\
  (s.len+x.len<=s.cap->match s.base with
   | some a=>stCells (a.add (s.len*size)) 0 news w λw'=>K ⟨s.base,s.len+x.len,s.cap⟩ w'
   | none=>K ⟨none,s.len+x.len,s.cap⟩ w)/\
  (s.cap<s.len+x.len->(s.len+x.len)*bytes<=140737488355328/\s.len+x.len<=9223372036854775807/\ ∃j,rowAt w s.base (s.len*size) j/\
   ∀cap,s.len+x.len<=cap->cap<9223372036854775808->
    K ⟨some ⟨w.heap.size,0,none⟩,s.len+x.len,cap⟩ (w.drew.alloc (.cells (j.toArray++news.toArray++Builtin.zeroCells zs (cap-(s.len+x.len))) elem)))
def World.HW(w:World)(b:Nat)(o:Obj):World:={w with heap:=w.heap.setIfInBounds b o}
def mapPut(es:Array MapEntry)(c:Nat)(key v:Value)(res:Option (Nat×Value)):Obj:=match res with
 | some (i,_)=>.map (es.modify i λe=>{e with key,val:=v}) c
 | none=>.map (es.push {key,val:=v,born:=c}) (c+1)
def XX(es:Array MapEntry)(c:Nat)(res:Option (Nat×Value)):Obj:=match res with
 | some (i,_)=>.map (es.eraseIdxIfInBounds i) c
 | none=>.map es c
def XY(k:IntKind)(n:Int)(v:Value)(r:Option Nat)(w:World)(K:World->Prop):Prop:=
 ∃b es c res,r=some b/\w.heap[b]? =some (.map es c)/\N4 k n es res/\K (World.HW w b (mapPut es c (.int k n) v res))
def dR(cs:List Value)(v:Value)(r:Option Nat)(w:World)(K:World->Prop):Prop:=
 ∃b es c res,r=some b/\w.heap[b]? =some (.map es c)/\findA cs es.toList 0=some res/\K (World.HW w b (mapPut es c (.agg ⟨cs⟩) v res))
def tU(k:IntKind)(n:Int)(z:Value)(r:Option Nat)(w:World)(K:Value->Int->World->Prop):Prop:=
 ∃b es c res,r=some b/\w.heap[b]? =some (.map es c)/\N4 k n es res/\match res with
  | some (i,v)=> ∃e,es[i]? =some e/\K v (e.born:Int) (World.HW w b (.map (es.modify i λe=>{e with key:=.int k n}) c))
  | none=>K z (c:Int) (World.HW w b (.map (es.push {key:=.int k n,val:=z,born:=c}) (c+1)))
def tV(s:Int)(v:Value)(r:Option Nat)(w:World)(K:World->Prop):Prop:=
 ∃b es c i,r=some b/\w.heap[b]? =some (.map es c)/\es.findIdx? (λe=>(e.born:Int)==s)=some i/\K (World.HW w b (.map (es.modify i λe=>{e with val:=v}) c))
def CPY(size:Nat)(d x:Ac)(w:World)(K:Nat->World->Prop):Prop:=
 ∃vs,rowAt w x.base (Nat.min x.len d.len*size) vs/\match d.base with
  | none=>K (Nat.min x.len d.len) w
  | some a=>stCells a 0 vs w λw'=>K (Nat.min x.len d.len) w'
def kS(t:Nat):Nat:=(t %2)*2^63+0x7ff0000000000000+1+(t/2) %(2^52-1)
def FRES(r:Option Nat)(w:World)(K:Nat->World->Prop):Prop:=match r with
 | some b=>K b w
 | none=> ∀t,K (kS t) w.drew
def fArith0(op:BinOp)(a b:Nat):Option Nat:=match op with
 | .add=>FloatKind.f64.format.add a b
 | .sub=>FloatKind.f64.format.sub a b
 | .mul=>FloatKind.f64.format.mul a b
 | _=>FloatKind.f64.format.div a b
noncomputable def JD(op:BinOp)(a b:Nat):Option Nat:=T7 (fArith0 op a b)
def isArith:BinOp->Bool
 | .add| .sub| .mul| .quo=>true
 | _=>false
def MDEL(k:IntKind)(n:Int)(r:Option Nat)(w:World)(K:World->Prop):Prop:=match r with
 | none=>K w
 | some b=> ∃es c res,w.heap[b]? =some (.map es c)/\N4 k n es res/\K (World.HW w b (XX es c res))
abbrev FT:=FuncId->Array Value->World->(Value->World->Prop)->(Value->World->Prop)->Prop
def Lp:Value->World->Prop:=λ_ _=>False
def Ends(K Kp:Value->World->Prop)(e:Ending)(w:World):Prop:=
 (∃v,e= .returned v/\K v w)∨(∃v,e= .panicked [{v:=v,recovered:=false}]/\Kp v w)
def Ends.val{K:Value->World->Prop}{e:Ending}{w:World}(h:Ends K Lp e w): ∃v,e= .returned v/\K v w:=by
 rcases h with h|⟨_,_,f⟩
 .exact h
 .exact f.elim
def DYN(G:FT)(v:Value)(args:Array Value)(w:World)(K:Value->World->Prop):Prop:=match v with
 | .func (.func g) first cap=>G g ((first++args)++cap) w K Lp
 | _=>False
def CAL(G:FT)(g:FuncId)(args:Array Value)(w:World)(K:Value->World->Prop):Prop:=G g args w K Lp
def yO(P:Program):List TypeId->(List Value->Prop)->Prop
 | [],K=>K []
 | t::r,K=> ∃x:nR (dO P t),yO P r λl=>K (mkVT (dO P t) x::l)
def exRes(P:Program)(ty:TypeId)(v:Value)(K:Value->Prop):Prop:=match P.underlying ty with
 | some (.tuple ts)=>yO P ts.toList λl=>v= .tuple ⟨l⟩/\K (.tuple ⟨l⟩)
 | _=> ∃x:nR (dO P ty),v=mkVT (dO P ty) x/\K (mkVT (dO P ty) x)
def We{P:Program}:{j:List TypeId}->{K:List Value->Prop}->yO P j K-> ∃l,K l
 | [],_,h=>⟨_,h⟩
 | _::_,_,⟨_,h⟩=>let⟨l,h⟩:=We h;⟨_,h⟩
def UC{P:Program}{ty:TypeId}{v:Value}{K:Value->Prop}(h:exRes P ty v K):K v:=by
 unfold exRes at h;split at h
 .obtain⟨l,rfl,h2⟩:=We h;omega
 grind
def leftOf(es:Array MapEntry)(seen:Array Nat):Array MapEntry:=es.filter λe=> !seen.contains e.born
def dS(r:Nat)(w:World)(j:World->Prop)(y:Value->Value->World->Prop):Prop:=
 ∃v since seen last,w.heap[r]? =some (.mapIter v since seen last)/\match v with
  | none=>j w
  | some m=> ∃es clock,w.heap[m]? =some (.map es clock)/\(!seen.isEmpty&& !es.isEmpty&&es.all (·.born≥last))=false/\
    (∀w',(w'=w∨w'=w.drew)->((leftOf es seen).filter (·.born<since)).isEmpty=true->j w')/\
    (∀w' e,(w'=w∨w'=w.drew)->e∈leftOf es seen->y e.key e.val (World.HW w' r (.mapIter (some m) since (seen.push e.born) clock)))
def OQ(r:Option Nat)(j:Nat):Obj:=match r with
 | none=>.mapIter none 0 #[] 0
 | some m=>.mapIter (some m) j #[] j
def Wf(w:World)(r:Option Nat)(j:Nat):Prop:=match r with
 | none=>True
 | some m=> ∃es,w.heap[m]? =some (.map es j)
def PAN(x:Value)(K:Prop):Prop:=match x with
 | .iface _ _=>K
 | _=>False
def ZN{x:Value}{K:Prop}(h:PAN x K):(∃t v,x= .iface t v)/\K:=by
 unfold PAN at h
 grind
def CLR(zs:Array Value)(b:Option Addr)(n:Nat)(w:World)(K:World->Prop):Prop:=match b with
 | none=>K w
 | some a=>stCells a 0 (Builtin.zeroCells zs n).toList w K
def evEff(P:Program)(C G:FT)(o:Op)(ty:TypeId)(ρ:Operand->Value)(w:World)(K Kp:Value->World->Prop):Prop:=
 match o with
 | .alloc t=>match Lu P t with
  | some z=>K (.pointer (some ⟨w.heap.size,0,none⟩)) (w.alloc (.cells z.cells t))
  | none=>False
 | .box t x=>K (.pointer (some ⟨w.heap.size,0,none⟩)) (w.alloc (.cells (ρ x).cells t))
 | .buildSlice t n parts=>match P.underlying t with
  | some (.slice e)=>szK P e λz=>leK (n*z) 4096 (match Lu P e with
   | some zv=>evFill (λi=>some (i*z,z)) ((parts.map λ(i,x)=>(i,ρ x)).toList) (Je zv.cells (n*z)).toList λl=>
     K (.slice (some ⟨w.heap.size,0,none⟩) n n) (w.alloc (.cells ⟨l⟩ e))
   | none=>False)
  | _=>False
 | .store t a x=>match ρ a with
  | .pointer p=>NC p λp=>szZ P t λn=>XS (ρ x).cells.toList.length n (stCells p 0 (ρ x).cells.toList w λw'=>K undef w')
  | _=>False
 | .range t x=>match P.underlying t with
  | some (.map _ _)=>match ρ x with
   | .map r=> ∃j,Wf w r j/\K (.pointer (some ⟨w.heap.size,0,none⟩)) (w.alloc (OQ r j))
   | _=>False
  | _=>False
 | .next it false=>match ρ it with
  | .pointer (some ⟨r,0,_⟩)=>dS r w (λw'=>K (.tuple #[.bool false]) w') λk v w'=>K (.tuple #[.bool true,k,v]) w'
  | _=>False
 | .makeMap _ none=>K (.map (some w.heap.size)) (w.alloc (.map #[] 0))
 | .makeSlice t l c=>match P.underlying t with
  | some (.slice e)=>szK P e λz=>match Lu P e with
   | some zv=>match ρ l with
    | .int .i64 l=>match ρ c with
     | .int .i64 c=>(0<=l/\l<=c/\c<9223372036854775808/\(P.bytesOf e:Int)*c<=140737488355328)/\
       K (.slice (some ⟨w.heap.size,0,none⟩) l.toNat c.toNat) (w.alloc (.cells (Je zv.cells (c.toNat*z)) e))
     | _=>False
    | _=>False
   | none=>False
  | _=>False
 | .mapUpdate t m k x| .insert t m k x=>match P.underlying t with
  | some (.map kt _)=>match P.underlying kt with
   | some (.int kk)=>match ρ k with
    | .int k' n=>sameK kk k' (match ρ m with
     | .map r=>XY kk n (ρ x) r w λw'=>K undef w'
     | _=>False)
    | _=>False
   | some (.struct fs)=>match ρ k with
    | .agg cs=>match P.stoodInHeld kt with
     | false=>keyK P 0 fs.toList cs.toList (match ρ m with
      | .map r=>dR cs.toList (ρ x) r w λw'=>K undef w'
      | _=>False)
     | true=>False
    | _=>False
   | _=>False
  | _=>False
 | .mapEntry t m k=>match P.underlying t with
  | some (.map kt et)=>match P.underlying kt with
   | some (.int kk)=>match ρ k with
    | .int k' n=>sameK kk k' (match ρ m with
     | .map r=>match Lu P et with
      | some z=>tU kk n z r w λv s w'=>K (.tuple #[v,.int .i64 s]) w'
      | none=>False
     | _=>False)
    | _=>False
   | _=>False
  | _=>False
 | .entryStore _ m s x=>match ρ s with
  | .int _ s=>match ρ m with
   | .map r=>tV s (ρ x) r w λw'=>K undef w'
   | _=>False
  | _=>False
 | .binOp op _ x y _=>match isArith op with
  | true=>match ρ x with
   | .float k a=>match ρ y with
    | .float k' b=>ZC k (ZC k' (FRES (JD op a b) w λr w'=>K (.float .f64 r) w'))
    | _=>False
   | _=>False
  | false=>False
 | .call c=>match c.callee with
  | .value (.func g)=>C g (c.args.map ρ) w K Kp
  | .value f=>DYN G (ρ f) (c.args.map ρ) w λv w'=>exRes P ty v λv=>K v w'
  | .builtin .append=>match c.args.toList,c.argTypes.toList with
   | [s,x],[ts,tx]=>match P.underlying ts with
    | some (.slice e)=>match P.underlying tx with
     | some (.slice _)=>szK P e λz=>match Lu P e with
      | some zv=>match ρ s with
       | .slice sb sl sc=>match ρ x with
        | .slice xb xl xc=>APP e z (P.bytesOf e) zv.cells ⟨sb,sl,sc⟩ ⟨xb,xl,xc⟩ w λr w'=>K (.slice r.base r.len r.cap) w'
        | _=>False
       | _=>False
      | none=>False
     | _=>False
    | _=>False
   | _,_=>False
  | .builtin .copy=>match c.args.toList,c.argTypes.toList with
   | [d,x],t::_=>match P.underlying t with
    | some (.slice e)=>szK P e λz=>match ρ d with
     | .slice db dl dc=>match ρ x with
      | .slice xb xl xc=>CPY z ⟨db,dl,dc⟩ ⟨xb,xl,xc⟩ w λn w'=>K (.int .i64 n) w'
      | _=>False
     | _=>False
    | _=>False
   | _,_=>False
  | .builtin .delete=>match c.args.toList,c.argTypes.toList with
   | [m,k],t::_=>match P.underlying t with
    | some (.map kt _)=>match P.underlying kt with
     | some (.int kk)=>match ρ k with
      | .int k' n=>sameK kk k' (match ρ m with
       | .map r=>MDEL kk n r w λw'=>K (.tuple #[]) w'
       | _=>False)
      | _=>False
     | _=>False
    | _=>False
   | _,_=>False
  | .builtin .clear=>match c.args.toList,c.argTypes.toList with
   | [x],[t]=>match P.underlying t with
    | some (.slice e)=>match Lu P e with
     | some zv=>match ρ x with
      | .slice b n _=>CLR zv.cells b n w λw'=>K (.tuple #[]) w'
      | _=>False
     | none=>False
    | _=>False
   | _,_=>False
  | .builtin .panic=>match c.args.toList with
   | [x]=>PAN (ρ x) (Kp (ρ x) w)
   | _=>False
  | _=>False
 | .panic x=>PAN (ρ x) (Kp (ρ x) w)
 | _=>False
def Goes(P:Program)(r:Result Next)(K Kp:Value->World->Prop):Prop:=match r with
 | .ok (.value v) w=>K v w
 | .ok .skip w=>K undef w
 | .ok (.enter f args) w=>Calls P f args w (Ends K Kp)
 | .halt (.panic v) w=>Kp v w
 | _=>False
def KI{P:Program}{p:Addr}:{vs:List Value}->{i:Nat}->{w:World}->{K:World->Prop}->stCells p i vs w K->
  ∃w',K w'/\(storeCells p vs i).run P w= .ok () w'
 | [],i,w,K,h=>⟨w,h,by rfl⟩
 | v::r,i,w,K,h=>by
  obtain⟨⟨⟨u,hu⟩,hf,y⟩,h⟩:=h;obtain⟨w',j,J⟩:=KI (P:=P) h;exact⟨w',j,by simp[storeCells,run_store P w _ v .plain y,hu,hf,J]⟩
def PF{P:Program}{w:World}{b:Option Addr}{n size len cap:Nat}{l:List Value}(h:rowAt w b (n*size) l):
  (Builtin.firstCells size n (.slice b len cap)).run P w= .ok l.toArray w:=by
 cases b with
 | none=>have:l=[]:=h;subst this;rfl
 | some a=>exact run_firstCells_some w size n a len cap l h.1 h.2
def UD{w:World}{b:Option Addr}{n:Nat}{l:List Value}(h:rowAt w b n l):rowAt w.drew b n l:=by
 cases b with
 | none=>exact h
 | some a=>exact⟨h.1,λj v y=>by simpa using h.2 j v y⟩
def kT{P:Program}{e z ts tx ty:Nat}{zv:Value}{sb xb:Option Addr}{sl O J xc:Nat}{w:World}{K:Ac->World->Prop}
  (T:P.underlying ts=some (.slice e))(y: ∃e',P.underlying tx=some (.slice e'))(hz: ∀w,(sizeOf e).run P w= .ok z w)(aB:Lu P e=some zv)
  (h:APP e z (P.bytesOf e) zv.cells ⟨sb,sl,O⟩ ⟨xb,J,xc⟩ w K):
  ∃r w',K r w'/\(Builtin.append_ #[ts,tx] ty #[.slice sb sl O,.slice xb J xc]).run P w= .ok (.slice r.base r.len r.cap) w':=by
 obtain⟨news,hn,v,j⟩:=h;obtain⟨e',y⟩:=y;simp only at v j hn;obtain⟨i,hi⟩: ∃i,P.info? e=some i:=by
  cases hi:P.info? e with
  | none=>simp[Lu,hi]at aB
  | some i=>simp
 have aQ:i.bytes=P.bytesOf e:=by simp[Program.bytesOf,hi]
 have aI:=GQ aB;by_cases hc:sl+J<=O
 .have h1:=v hc;have hf:=PF (P:=P) (len:=J) (cap:=xc) hn;cases sb with
  | none=>exact⟨_,_,h1,by simp[Builtin.append_,Ag T,Ag y,hz,Builtin.lenOf,hc,hf]⟩
  | some a=>
   obtain⟨w',hK,hr⟩:=KI (P:=P) h1;refine⟨_,_,hK,by simp[Builtin.append_,Ag T,Ag y,hz,Builtin.lenOf,hc,hf,hr]⟩
 .obtain⟨hb,aE,aL,ho,hK⟩:=j (by omega);have aK:=growslice_fits (bytes:=i.bytes) (by omega:O<sl+J) (by grind);have Y: ¬(281474976710656<Builtin.nextslicecap (sl+J) O*i.bytes):=by omega
  have aA: ¬(9223372036854775807<((sl:Int)+(J:Int))):=by omega
  have hf:=PF (P:=P) (len:=J) (cap:=xc) (UD hn);have aG:=PF (P:=P) (len:=sl) (cap:=O) (UD ho);have hk:=hK (grownCap w (sl+J) O e) (grownCap_ge w _ _ _) (by
   have:=grownCap_le_maxLen w (sl+J) O e (by simpa[maxLen]using aE);simp only[maxLen]at this;omega)
  refine⟨_,_,hk,?_⟩;simp[Builtin.append_,Ag T,Ag y,hz,typeInfo,hi,aI,Builtin.lenOf,hc,aA,Y,Question.forced,hf,aG,newRow,grownCap]
  grind
def UE(kd:TypeDesc)(key:Value): ∀(es:List MapEntry) (j i:Nat) (v:Value),Instr.findNow kd key es j=some (some (i,v))->j<=i
 | [],j,i,v,h=>by simp[Instr.findNow]at h
 | e::r,j,i,v,h=>by
  simp only[Instr.findNow]at h;split at h
  .grind
  .have:=UE kd key r (j+1) i v h;omega
  grind
def NL(k:IntKind)(n:Int): ∀(es:List MapEntry) (j i:Nat) (v:Value),Instr.findNow (.int k) (.int k n) es j=some (some (i,v))->
  ∃e,es[i-j]? =some e/\e.key= .int k n/\e.val=v
 | [],j,i,v,h=>by simp[Instr.findNow]at h
 | e::r,j,i,v,h=>by
  simp only[Instr.findNow]at h;split at h
  .rename_i hs;simp at h;obtain⟨rfl,rfl⟩:=h;refine⟨e,by simp,?_,rfl⟩;unfold Instr.sameNow at hs
   grind
  .obtain⟨e',he,h1,h2⟩:=NL k n r (j+1) i v h;have:=UE _ _ _ _ _ _ h
   grind
  grind
def He{P:Program}{w:World}{b:Nat}{es:Array MapEntry}{c:Nat}(h:w.heap[b]? =some (.map es c))(o:Obj):
  (setObj b o).run P w= .ok () (World.HW w b o):=by
 simp[setObj,Sem.run,h,World.HW]
def Wg{P:Program}{k:IntKind}{n:Int}(w:World):(Instr.keyThatStays (.int k n) (.int k n)).run P w= .ok (.int k n) w:=by
 have:Instr.sameBits 10000 (.int k n) (.int k n)=true:=by
  rw[show(10000:Nat)=9999+1 from rfl];cases k<;>simp[Instr.sameBits]
 simp[Instr.keyThatStays,this]
def Ph{P:Program}{t O T:TypeId}{k:IntKind}{n:Int}{v:Value}{r:Option Nat}{w:World}{K:World->Prop}
  (ht:P.underlying t=some (.map O T))(hk:P.underlying O=some (.int k))(h:XY k n v r w K):
  ∃w',K w'/\(Instr.mapUpdate t (.map r) (.int k n) v).run P w= .ok () w':=by
 obtain⟨b,es,c,res,rfl,j,hf,Y⟩:=h;refine⟨_,Y,?_⟩;have J:=run_findKey hk hf w;simp only[Instr.mapUpdate,Sem.run_bind,Ag ht,Result.andThen_ok,GV j,run_checkKey hk,J];cases res with
 | none=>simp[He j,mapPut]
 | some q=>
  obtain⟨i,u⟩:=q;obtain⟨e,he,h1,_⟩:=NL k n es.toList 0 i u hf;have y:es[i]? =some e:=by grind
  simp[y,h1,Wg,He j,mapPut]
def dT{P:Program}{t O Y ty:TypeId}{k:IntKind}{n:Int}{r:Option Nat}{w:World}{K:World->Prop}{T:Array TypeId}(j:T[0]? =some t)
  (J:P.underlying t=some (.map O Y))(hk:P.underlying O=some (.int k))(h:MDEL k n r w K):
  ∃w',K w'/\(Builtin.delete_ T ty #[.map r,.int k n]).run P w= .ok (.tuple #[]) w':=by
 cases r with
 | none=>exact⟨w,h,by simp[Builtin.delete_,j,Ag J,run_checkKey hk]⟩
 | some b=>
  obtain⟨es,c,res,v,hf,hK⟩:=h;refine⟨_,hK,?_⟩;have y:=run_findKey hk hf w;simp only[Builtin.delete_,j,List.getElem?_toArray,List.getElem?_cons_zero,List.getElem?_cons_succ,Sem.run_bind,Ag J,Result.andThen_ok,GV v,run_checkKey hk,y];cases res with
  | none=>simp[He v,XX]
  | some q=>obtain⟨i,u⟩:=q;simp[He v,XX]
def Fits(P:Program)(C:FT):Prop:= ∀g args w K Kp,C g args w K Kp->
 ((∀w,(callFunc g args).run P w= .ok (.enter g args) w)/\Calls P g args w (Ends K Kp))∨ ∃v w',(callFunc g args).run P w= .ok (.value v) w'/\K v w'
def dU: ∀{l m:List Value},eqA l m=some true->l=m
 | [],[],_=>rfl
 | [],_::_,h=>by simp[eqA]at h
 | v::l,m,h=>by
  cases v<;>cases m<;>try (simp[eqA]at h;done)
  all_goals (rename_i u m;cases u<;>try (simp[eqA]at h;done))
  .unfold eqA at h;rename_i a b;cases hab:(a==b)
   .grind
   .rw[hab]at h;rw[dU h,(by grind:a=b)]
  .unfold eqA at h;split at h
   .rename_i k a k' b _ j;have j:=dN (Nat.eq_of_beq_eq_true j);cases hab:(a==b)
    .grind
    .rw[hab]at h;rw[dU h,j,(by grind:a=b)]
   grind
def UF(n:Nat): ∀{l m:List Value},eqA l m=some true->((l.zip l).all λ(x,y)=>Instr.sameBits n x y)=true
 | [],_,_=>rfl
 | v::l,m,h=>by
  cases v<;>cases m<;>try (simp[eqA]at h;done)
  all_goals (rename_i u m;cases u<;>try (simp[eqA]at h;done))
  .unfold eqA at h;rename_i a b;cases hab:(a==b)
   .grind
   .rw[hab]at h;simp only[List.zip_cons_cons,List.all_cons,UF n h,Bool.and_true];cases n<;>simp[Instr.sameBits]
  .unfold eqA at h;split at h
   .rename_i k a k' b _ ek;cases hab:(a==b)
    .grind
    .rw[hab]at h;simp only[List.zip_cons_cons,List.all_cons,UF n h,Bool.and_true];cases n<;>simp[Instr.sameBits]
   grind
def ZO(cs:List Value): ∀(es:List MapEntry) (j i:Nat) (v:Value),findA cs es j=some (some (i,v))-> ∃e y,es[i-j]? =some e/\j<=i/\e.key= .agg y/\eqA cs y.toList=some true
 | [],j,i,v,h=>by simp[findA]at h
 | e::es,j,i,v,h=>by
  unfold findA at h;split at h
  .rename_i y hd;split at h
   .grind
   .obtain⟨e',J,h1,h2,K,O⟩:=ZO cs es (j+1) i v h
    grind
   grind
  grind
def OR{P:Program}{t kt et:TypeId}{fs:Array Field}{cs:Array Value}{v:Value}{r:Option Nat}{w:World}{K:World->Prop}
  (ht:P.underlying t=some (.map kt et))(hk:P.underlying kt=some (.struct fs))(hp:P.stoodInHeld kt=false)(j:keyK P 0 fs.toList cs.toList True)(h:dR cs.toList v r w K):
  ∃w',K w'/\(Instr.mapUpdate t (.map r) (.agg cs) v).run P w= .ok () w':=by
 obtain⟨b,es,c,res,rfl,y,hf,hK⟩:=h;refine⟨_,hK,?_⟩;have T:=Qa hk hp j hf w;simp only[Instr.mapUpdate,Sem.run_bind,Ag ht,Result.andThen_ok,GV y,Pg hk j,T];cases res with
 | none=>simp[He y,mapPut]
 | some q=>
  obtain⟨i,u⟩:=q;obtain⟨e,ds,he,_,h1,h2⟩:=ZO cs.toList es.toList 0 i u hf;have O:es[i]? =some e:=by grind
  have J:cs=ds:=Array.toList_inj.1 (dU h2);subst J;have Y:(Instr.keyThatStays (.agg cs) (.agg cs)).run P w= .ok (.agg cs) w:=by
   have:Instr.sameBits 10000 (.agg cs) (.agg cs)=true:=by
    rw[Instr.sameBits];simp only[beq_self_eq_true,Bool.true_and];exact UF 9999 h2
   simp[Instr.keyThatStays,this]
  simp[O,h1,Y,He y,mapPut]
def ZP{P:Program}{w:World}{b:Nat}{j:Option Nat}{s l:Nat}{v:Array Nat}(h:w.heap[b]? =some (.mapIter j s v l))(o:Obj):
  (setObj b o).run P w= .ok () (World.HW w b o):=by
 simp[setObj,Sem.run,h,World.HW]
def kU{P:Program}{dst:Option Tmp}{it:Operand}{type:TypeId}{pos:String}{after:Array Edge}{guard:Option (Nat×Bool)}{ρ:Operand->Value}{w:World}{r m since last clock:Nat}{sp:Option Nat}
  {seen:Array Nat}{es:Array MapEntry}{K Kp:Value->World->Prop}(hx:ρ it= .pointer (some ⟨r,0,sp⟩))(hr:w.heap[r]? =some (.mapIter (some m) since seen last))(hm:w.heap[m]? =some (.map es clock))
  (J:(!seen.isEmpty&& !es.isEmpty&&es.all (·.born≥last))=false)
  (hn: ∀w',(w'=w∨w'=w.drew)->((leftOf es seen).filter (·.born<since)).isEmpty=true->K (.tuple #[.bool false]) w')
  (hs: ∀w' e,(w'=w∨w'=w.drew)->e∈leftOf es seen->K (.tuple #[.bool true,e.key,e.val]) (World.HW w' r (.mapIter (some m) since (seen.push e.born) clock))):
  Goes P ((execOp ρ ⟨dst,.next it false,type,pos,after,guard⟩).run P w) K Kp:=by
 have aD:(getObj r).run P w= .ok (.mapIter (some m) since seen last) w:=by simp[getObj,Sem.run,hr]
 have aC:=GV (P:=P) hm;simp only[execOp,Instr.next,hx,Sem.run_bind,aD,Result.andThen_ok,aC,J,Bool.false_eq_true,if_false];obtain⟨left,y⟩: ∃left,left=leftOf es seen:=⟨_,rfl⟩;rw[<-y]at hn hs;have hl:(es.filter λe=> !seen.contains e.born)=left:=y.symm;simp only[hl];obtain⟨PG,hold⟩: ∃PG,PG=left.filter (λx=>decide (x.born<since)):=⟨_,rfl⟩;obtain⟨nu,aF⟩: ∃nu,nu=left.filter (λx=>decide (x.born≥since)):=⟨_,rfl⟩;rw[<-hold]at hn;simp only[<-hold,<-aF];obtain⟨j,v⟩: ∃j,j=((if PG.isEmpty=true then #[none]else #[])++Array.map some (PG++nu):Array (Option MapEntry)):=⟨_,rfl⟩;simp only[<-v];have aA:0<j.size:=by
  rw[v];by_cases ho:PG.isEmpty=true
  .grind
  .simp[ho];have:PG.size≠0:=λe=>ho (by grind);omega
 have aB: ∃idx w',(w'=w∨w'=w.drew)/\(choose (.mapNext j.size)).run P w= .ok idx w'/\idx<j.size:=by
  rw[run_choose];by_cases hf:Question.forced (.mapNext j.size)=true
  .exact⟨0,w,.inl rfl,by grind,aA⟩
  .exact⟨_,_,.inr rfl,by rw[if_neg hf];rfl,Nat.mod_lt _ aA⟩
 obtain⟨idx,w',aH,Y,aE⟩:=aB;rw[Y];simp only[Result.andThen_ok];have T:j[idx]? =some j[idx]:=Array.getElem?_eq_getElem aE;rw[T];cases hc:j[idx]with
 | none=>
  have iK:PG.isEmpty=true:=by grind
  simp only[Sem.run_pure,Result.andThen_ok,Goes]
  grind
 | some e=>
  have O:some e∈j:=by grind
  have aL:e∈left:=by
   rw[v]at O;simp only[Array.mem_append,Array.mem_map]at O
   grind
  have aG:w'.heap[r]? =some (.mapIter (some m) since seen last):=by
   rcases aH with rfl|rfl<;>exact hr
  simp only[Sem.run_bind,ZP aG,Result.andThen_ok,Sem.run_pure,Goes]
  grind
def ZQ{P:Program}{C G:FT}(hC:Fits P C)(hG:Fits P G){o:Oper}{ρ:Operand->Value}{w:World}{K Kp:Value->World->Prop}(hρ: ∀g,ρ (.func g)= .func (.func g) #[] #[])
  (h:evEff P C G o.op o.type ρ w K Kp):Goes P ((execOp ρ o).run P w) K Kp:=by
 obtain⟨dst,op,type,pos,after,guard⟩:=o;simp only at h;unfold evEff at h;split at h
 case h_1=>
  split at h
  .rename_i z hz;simpa[execOp,Instr.alloc,GQ hz,newVar,newRow,Goes]using h
  grind
 case h_2=>simpa[execOp,Instr.box,newVar,newRow,Goes]using h
 case h_3=>
  split at h
  .rename_i t n parts _ e ht;obtain⟨z,h,aE,_,j⟩:=Gp h;obtain⟨hle,h⟩:=ZI h;split at h
   .rename_i zv hz;obtain⟨out,J,hf⟩:=MI h;have aL: ¬(16777216<n*z):=Nat.not_lt.2 (Nat.le_trans hle (by decide));by_cases hn:n=0
    .subst hn;simp[Je,Array.range_zero']at hf;simp[execOp,Instr.buildSlice,Ag ht,j,hf,newRow,Goes,Array.range_zero'];omega
    .have aV: ¬(n*z=0):=Nat.mul_ne_zero hn aE;simp[Je]at hf;simp[execOp,Instr.buildSlice,Ag ht,j,aL,aV,GQ hz,hf,newRow,Goes];omega
   grind
  grind
 case h_4=>
  split at h
  .rename_i O;obtain⟨p,rfl,h2⟩:=JW h;obtain⟨n,h3,hn,j⟩:=oG h2;obtain⟨hl,h4⟩:=Kx h3;obtain⟨w',J,aH⟩:=KI (P:=P) h4;have aK:=hl;rw[Array.length_toList]at aK;simp[execOp,Instr.storeAt,O,Instr.sureAddr,storeVar,j,aK,aH,Goes,J]
  grind
 case h_5=>
  split at h
  .rename_i ht;split at h
   .rename_i r O;obtain⟨cl,j,J⟩:=h;cases r with
    | none=>simpa[execOp,Instr.range,Ag ht,O,Goes,OQ]using J
    | some m=>
     obtain⟨es,hm⟩:=j;simpa[execOp,Instr.range,Ag ht,O,GV hm,Goes,OQ]using J
   grind
  grind
 case h_6=>
  split at h
  .rename_i r sp O;obtain⟨mo,since,seen,last,j,h⟩:=h;have aU:(getObj r).run P w= .ok (.mapIter mo since seen last) w:=by simp[getObj,Sem.run,j]
   cases mo with
   | none=>
    simp[execOp,Instr.next,O,aU,Goes];exact h
   | some m=>
    obtain⟨es,clock,hm,aD,hn,hs⟩:=h;exact kU O j hm aD hn hs
  grind
 case h_7=>simpa[execOp,Instr.makeMap,Goes]using h
 case h_8=>
  split at h
  .rename_i e ht;obtain⟨z,h,aE,_,j⟩:=Gp h;split at h
   .rename_i zv hz;split at h
    .rename_i l hl;split at h
     .rename_i c hc;obtain⟨⟨h0,h1,h2,h3⟩,J⟩:=h;obtain⟨i,hi⟩: ∃i,P.info? e=some i:=by
       cases hi:P.info? e with
       | none=>simp[Lu,hi]at hz
       | some i=>simp
      have aS:P.bytesOf e=i.bytes:=by simp[Program.bytesOf,hi]
      rw[aS]at h3;have a4:0<=l:=h0;have w1:IntKind.i64.wrap l=l:=IntWalk.i64_in l (by omega);have w2:IntKind.i64.wrap c=c:=IntWalk.i64_in c (by omega);have t1: ¬(c<0):=by omega
      have t2: ¬(l<0):=by omega
      have t3: ¬(c<l):=by omega
      have t4: ¬(281474976710656<(i.bytes:Int)*c):=by omega
      by_cases aC:c.toNat*z=0
      .have:c.toNat=0:=by rcases Nat.mul_eq_zero.1 aC with h|h<;>omega
       simp[Je,aC,Array.range_zero']at J;simp[execOp,Instr.makeSlice,Ag ht,hl,hc,asInt,asIntOf,typeInfo,hi,w1,w2,t1,t2,t3,t4,j,aC,newRow,Goes,Array.range_zero'];omega
      .have aI: ¬(c.toNat*z=0):=aC;simp[Je]at J;simp[execOp,Instr.makeSlice,Ag ht,hl,hc,asInt,asIntOf,typeInfo,hi,w1,w2,t1,t2,t3,t4,j,aI,GQ hz,newRow,Goes];omega
     grind
    grind
   grind
  grind
 case h_9=>
  split at h
  .rename_i ht;split at h
   .rename_i hk;split at h
    .rename_i hkey;obtain⟨rfl,h2⟩:=GU h;split at h2
     .rename_i hm;obtain⟨w',J,j⟩:=Ph ht hk h2;simpa[execOp,hkey,hm,j,Goes]using J
     grind
    grind
   .rename_i hk;split at h
    .rename_i hkey;split at h
     .rename_i hp;obtain⟨h2,aB⟩:=Mq h;split at h2
      .rename_i hm;obtain⟨w',J,j⟩:=OR ht hk hp aB h2;simpa[execOp,hkey,hm,j,Goes]using J
      grind
     grind
    grind
   grind
  grind
 case h_10=>
  split at h
  .rename_i ht;split at h
   .rename_i hk;split at h
    .rename_i hkey;obtain⟨rfl,h2⟩:=GU h;split at h2
     .rename_i hm;obtain⟨w',J,j⟩:=Ph ht hk h2;simpa[execOp,hkey,hm,j,Goes]using J
     grind
    grind
   .rename_i hk;split at h
    .rename_i hkey;split at h
     .rename_i hp;obtain⟨h2,aB⟩:=Mq h;split at h2
      .rename_i hm;obtain⟨w',J,j⟩:=OR ht hk hp aB h2;simpa[execOp,hkey,hm,j,Goes]using J
      grind
     grind
    grind
   grind
  grind
 case h_11=>
  split at h
  .rename_i ht;split at h
   .rename_i hk;split at h
    .rename_i hkey;obtain⟨aB,h2⟩:=GU h;subst aB;split at h2
     .rename_i hm;split at h2
      .rename_i z hz;obtain⟨b,es,c,res,rfl,Y,hf,J⟩:=h2;have aJ:=run_findKey hk hf w;cases res with
       | none=>
        simp[execOp,hkey,hm,Instr.mapEntry,Ag ht,GV Y,run_checkKey hk,aJ,GQ hz,He Y,goInt,Goes];omega
       | some q=>
        obtain⟨i,u⟩:=q;obtain⟨e,he,J⟩:=J;obtain⟨e',a3,h1,_⟩:=NL _ _ es.toList 0 i u hf;have aW:es[i]? =some e':=by grind
        have aT:e'=e:=by grind
        subst aT;simp[execOp,hkey,hm,Instr.mapEntry,Ag ht,GV Y,run_checkKey hk,aJ,he,h1,Wg,He Y,goInt,Goes];omega
      grind
     grind
    grind
   grind
  grind
 case h_12=>
  split at h
  .rename_i hs;split at h
   .rename_i hm;obtain⟨b,es,c,i,rfl,Y,hi,J⟩:=h;simp[execOp,hs,hm,Instr.entryStore,GV Y,asInt,asIntOf,hi,He Y,Goes];omega
   grind
  grind
 case h_13 op t x y _=>
  split at h
  .rename_i hop;split at h
   .rename_i O;split at h
    .rename_i hy;obtain⟨e1,h1⟩:=Kv h;obtain⟨e2,h2⟩:=Kv h1;clear h h1;subst e1;subst e2;have hg:(eqGuard op t x y (ρ x) (ρ y)).run P w= .ok () w:=by
      unfold eqGuard
      simp_all
     unfold FRES at h2;split at h2
     .rename_i r j;cases op<;>first|(simp[isArith]at hop;done)|(simp only[JD,Kw,fArith0]at j;simp[execOp,O,hy]at hg⊢;simp[hg,binOp,Op.floatArith,j,Goes];omega)
     .rename_i j;cases op<;>first|(simp[isArith]at hop;done)|(simp only[JD,Kw,fArith0]at j;simp[execOp,O,hy]at hg⊢;simp[hg,binOp,Op.floatArith,j,Goes,Question.forced];exact h2 _)
    grind
   grind
  grind
 case h_14 c=>
  obtain⟨callee,args,argTypes⟩:=c;simp only at h;split at h
  .simp[execOp,resolve,hρ,Deferred.ofValue,invoke];rcases hC _ _ _ _ _ h with ⟨h1,h2⟩|⟨v,w',h1,h2⟩
   .simpa[h1,Goes]using h2
   .simpa[h1,Goes]using h2
  .unfold DYN at h;split at h
   .rename_i hf;simp[execOp,resolve,hf,Deferred.ofValue,invoke];rcases hG _ _ _ _ _ h with ⟨h1,h2⟩|⟨v,w',h1,h2⟩
    .simp at h1 h2;simp only[h1,Result.andThen_ok,Goes];refine h2.mono ?_;intro e w' hE;obtain⟨v,rfl,hv⟩:=hE.val;exact .inl ⟨v,rfl,UC hv⟩
    .simp at h1;simp only[h1,Result.andThen_ok,Goes];exact UC h2
   grind
  .split at h
   .rename_i ha hT;have T:args= #[_,_]:=Array.toList_inj.1 (by omega);have aF:argTypes= #[_,_]:=Array.toList_inj.1 (by omega);subst T;subst aF;split at h
    .rename_i ht;split at h
     .rename_i htx;obtain⟨z,h,aE,_,j⟩:=Gp h;split at h
      .rename_i zv hz;split at h
       .rename_i hs;split at h
        .rename_i O;obtain⟨r,w',J,aO⟩:=kT (ty:=type) ht ⟨_,htx⟩ j hz h;simpa[execOp,resolve,invoke,builtin,hs,O,aO,Goes]using J
        grind
       grind
      grind
     grind
    grind
   grind
  .split at h
   .rename_i ha hT;have T:args= #[_,_]:=Array.toList_inj.1 (by omega);subst T;split at h
    .rename_i ht;obtain⟨z,h,aE,_,j⟩:=Gp h;split at h
     .rename_i hd;split at h
      .rename_i O;have aA:=congrArg (λl:List TypeId=>l[0]?) hT;simp only[Array.getElem?_toList,List.getElem?_cons_zero]at aA;obtain⟨vs,aN,h⟩:=h;have hf:=λlen cap=>PF (P:=P) (w:=w) (len:=len) (cap:=cap) aN;split at h
       .rename_i Y;simp only at Y;subst Y;simp only at hf;simpa[execOp,resolve,invoke,builtin,Builtin.copy_,aA,hd,O,Ag ht,j,Builtin.lenOf,hf,goInt,Goes]using h
       .rename_i a Y;simp only at Y;subst Y;simp only at hf;obtain⟨w',J,aH⟩:=KI (P:=P) h;simpa[execOp,resolve,invoke,builtin,Builtin.copy_,aA,hd,O,Ag ht,j,Builtin.lenOf,hf,aH,goInt,Goes]using J
      grind
     grind
    grind
   grind
  .split at h
   .rename_i ha hT;have T:args= #[_,_]:=Array.toList_inj.1 (by omega);subst T;split at h
    .rename_i ht;split at h
     .rename_i hk;split at h
      .rename_i hkey;obtain⟨rfl,h2⟩:=GU h;split at h2
       .rename_i hm;have aA:=congrArg (λl:List TypeId=>l[0]?) hT;simp only[Array.getElem?_toList,List.getElem?_cons_zero]at aA;obtain⟨w',J,j⟩:=dT (ty:=type) aA ht hk h2;simpa[execOp,resolve,invoke,builtin,hkey,hm,j,Goes]using J
       grind
      grind
     grind
    grind
   grind
  .split at h
   .rename_i ha hT;have T:args= #[_]:=Array.toList_inj.1 (by omega);have aF:argTypes= #[_]:=Array.toList_inj.1 (by omega);subst T;subst aF;split at h
    .rename_i ht;split at h
     .rename_i zv hz;split at h
      .rename_i b n c O;unfold CLR at h;split at h
       .simpa[execOp,resolve,invoke,builtin,Builtin.clear_,Ag ht,O,Goes]using h
       .rename_i a;cases n with
        | zero=>
         have:(Builtin.zeroCells zv.cells 0).toList=[]:=by simp[Builtin.zeroCells]
         rw[this]at h;simpa[execOp,resolve,invoke,builtin,Builtin.clear_,Ag ht,O,Goes,stCells]using h
        | succ n=>
         obtain⟨w',J,j⟩:=KI (P:=P) h;simpa[execOp,resolve,invoke,builtin,Builtin.clear_,Ag ht,O,GQ hz,j,Goes]using J
      grind
     grind
    grind
   grind
  .split at h
   .rename_i ha;have T:args= #[_]:=Array.toList_inj.1 (by omega);subst T;obtain⟨⟨t,v,O⟩,h⟩:=ZN h;rw[O]at h;simpa[execOp,resolve,invoke,builtin,Instr.panic,goPanic,O,Goes]using h
   grind
  grind
 case h_15=>
  obtain⟨⟨t,v,O⟩,h⟩:=ZN h;rw[O]at h;simpa[execOp,Instr.panic,goPanic,O,Goes]using h
 grind
inductive OpK where|pure|read|Ii
def opK(P:Program):Op->OpK
 | .load .. | .lookup .. | .entry _=>.read
 | .range .. | .next .. | .alloc _| .box .. | .buildSlice .. | .store .. | .makeMap .. | .makeSlice .. | .mapUpdate .. | .insert .. | .mapEntry .. | .entryStore .. | .panic _=>.Ii
 | .call c=>match c.callee with
  | .builtin .len=>match(c.argTypes.toList.head?).bind P.underlying with
   | some (.map _ _)=>.read
   | _=>.pure
  | .builtin .min| .builtin .max=>.pure
  | _=>.Ii
 | .binOp op t _ _ _=>match isArith op with
  | true=>match P.underlying t with
   | some (.float _)=>.Ii
   | _=>.pure
  | false=>.pure
 | _=>.pure
def isEff(P:Program)(o:Op):Bool:=match opK P o with| .Ii=>true|_=>false
def oH(P:Program)(C G:FT)(o:Op)(ty:TypeId)(ρ:Operand->Value)(w:World)(K Kp:Value->World->Prop):Prop:=
 match opK P o with
 | .pure=>evPure P o ty ρ λv=>K v w
 | .read=>evRead P o ρ w λv _=>K v w
 | .Ii=>evEff P C G o ty ρ w K Kp
def P8{P:Program}{C G:FT}(hC:Fits P C)(J:Fits P G){o:Oper}{ρ:Operand->Value}{w:World}{K Kp:Value->World->Prop}(T: ∀g,ρ (.func g)= .func (.func g) #[] #[])(h:oH P C G o.op o.type ρ w K Kp):
  Goes P ((execOp ρ o).run P w) K Kp:=by
 unfold oH at h;split at h
 .obtain⟨v,j,y⟩:=QY h;rw[y w];exact j
 .obtain⟨v,S,j,O,y⟩:=Qb h;rw[y w O];exact j
 .exact ZQ hC J T h
def P9{P:Program}{o:Oper}{a:Act}{w:World}{K Kp:Value->World->Prop}{Q:Exit->Act->World->Prop}
  {next:Act->World->Prop}(h:Goes P ((execOp a.eval o).run P w) K Kp)(j: ∀v w',K v w'->next (a.put o.dst v) w')
  (hp: ∀v w',Kp v w'->Q (.panic [{v:=v,recovered:=false}]) a w'):o.wp P a w next Q:=by
 unfold Oper.wp;unfold Goes at h;split at h
 .rename_i hr;rw[hr,Oper.upon_value];exact j _ _ h
 .rename_i hr;rw[hr,Oper.upon_skip];exact j _ _ h
 .rename_i hr;rw[hr,Oper.upon_enter];refine h.mono ?_;rintro e w' (⟨v,rfl,y⟩|⟨v,rfl,y⟩)
  .exact j _ _ y
  .exact hp _ _ y
 .rename_i hr;rw[hr,Oper.upon_panic];exact hp _ _ h
 .exact h.elim
def yieldF(ops:Array Oper)(f:Fr)(j:Nat):Option Bool:=match(ops[j]?).bind (·.dst)with
 | some t=>match f t with
  | .bool b=>some b
  | _=>none
 | none=>none
def wantF(ops:Array Oper)(f:Fr):Option (Nat×Bool)->Bool
 | none=>true
 | some (j,want)=>match yieldF ops f j with
  | some b=>match b,want with
   | true,true=>true
   | false,false=>true
   | _,_=>false
  | none=>false
def UG{ops:Array Oper}{a:Act}{o:Oper}:wantF ops (EZ a) o.guard=Region.wanted o (yielded ops a.tmps):=by
 have y: ∀j,yieldF ops (EZ a) j=yielded ops a.tmps j:=by
  intro j;unfold yieldF yielded;cases (ops[j]?).bind (·.dst)with
  | none=>rfl
  | some t=>
   simp only[EZ,Option.bind_some,Array.getD_eq_getD_getElem?];cases h:a.tmps[t]? with
   | none=>simp[undef]
   | some v=>grind
 unfold wantF Region.wanted;cases o.guard with
 | none=>rfl
 | some g=>
  obtain⟨j,want⟩:=g;simp only[y];cases yielded ops a.tmps j with
  | none=>rfl
  | some b=>cases b<;>cases want<;>rfl
def NM:List Oper->Nat->Bool
 | [],_=>false
 | o::r,i=>match o.guard with
  | some (j,_)=>bif Nat.beq j i then true else NM r i
  | none=>NM r i
def UH(b:Bool)(v:Value)(K:Value->Prop):Prop:=
 match b with
 | true=>match v with
  | .bool x=>CND x (K (.bool true)) (K (.bool false))
  | v=>K v
 | false=>K v
def NN{b:Bool}{v:Value}{K:Value->Prop}(h:UH b v K):K v:=by
 unfold UH at h;split at h
 .split at h
  .rename_i x;cases x<;>exact h
  .exact h
 .exact h
def evOps(P:Program)(C G:FT)(ops:Array Oper)(Q:Fr->World->Prop)(j:Fr->Value->World->Prop):Nat->List Oper->Fr->World->Prop
 | _,[],f,w=>Q f w
 | i,o::r,f,w=>match wantF ops f o.guard with
  | true=>oH P C G o.op o.type f.ev w (λv w'=>UH (NM ops.toList i) v λv=>evOps P C G ops Q j (i+1) r (f.Pz o.dst v) w') (j f)
  | false=>evOps P C G ops Q j (i+1) r (f.Pz o.dst undef) w
def dsts:List Oper->List Nat
 | []=>[]
 | o::r=>match o.dst with
  | some d=>d::dsts r
  | none=>dsts r
structure G3(W:List Nat)(a a':Act):Prop where
 size:a'.tmps.size=a.tmps.size
 defers:a'.defers=a.defers
 out: ∀t,t∉W->EZ a' t=EZ a t
def G3.refl(W:List Nat)(a:Act):G3 W a a:=⟨rfl,rfl,λ_ _=>rfl⟩
def G3.trans{W:List Nat}{a b c:Act}(h:G3 W a b)(k:G3 W b c):G3 W a c:=
 ⟨k.size.trans h.size,k.defers.trans h.defers,λt j=>(k.out t j).trans (h.out t j)⟩
def G3.mono{W V:List Nat}{a b:Act}(h:G3 W a b)(hs: ∀t,t∈W->t∈V):G3 V a b:=
 ⟨h.size,h.defers,λt j=>h.out t λhw=>j (hs t hw)⟩
def G3.put{W:List Nat}{a:Act}{d:Option Nat}{v:Value}(y: ∀t,d=some t->t∈W):G3 W a (a.put d v):=by
 refine⟨JJ a d v,P5 a d v,λt J=> ?_⟩;cases d with
 | none=>rfl
 | some d=>
  have j:d≠t:=λe=>J (e▸y d rfl);simp only[EZ,Act.put,Array.getD_eq_getD_getElem?,Array.getElem?_setIfInBounds_ne j]
def within(n:Nat)(W:List Nat):Prop:= ∀t,t∈W->t<n
def OS{P:Program}{C G:FT}(hC:Fits P C)(T:Fits P G){ops:Array Oper}{n:Nat}{W:List Nat}(hW:within n W)(Q:Fr->World->Prop)(J:Fr->Value->World->Prop)(O:Exit->Act->World->Prop)(a0:Act)
  (hQ: ∀a w,a.tmps.size=n->G3 W a0 a->Q (EZ a) w->O .normal a w)
  (hP: ∀a v w,a.tmps.size=n->G3 W a0 a->J (EZ a) v w->O (.panic [{v:=v,recovered:=false}]) a w):
  ∀(l:List Oper) (i:Nat) (a:Act) (w:World),(∀o∈l,∀d,o.dst=some d->d∈W)->a.tmps.size=n->G3 W a0 a->evOps P C G ops Q J i l (EZ a) w->wpList P ops O l a w
 | [],i,a,w,_,hn,ha,h=>hQ a w hn ha h
 | o::r,i,a,w,hd,hn,ha,h=>by
  simp only[evOps]at h;unfold wpList;rw[UG]at h;have y: ∀t,o.dst=some t->t∈W:=λt ht=>hd o (by simp) t ht;have j: ∀v,EZ (a.put o.dst v)=(EZ a).Pz o.dst v:=λv=>Ru (λt ht=>by have:=hW t (y t ht);omega) v;split at h
  .rename_i hw;rw[if_pos hw];refine .inl (P9 (K:=λv w'=>UH (NM ops.toList i) v λv=>evOps P C G ops Q J (i+1) r ((EZ a).Pz o.dst v) w') (Kp:=J (EZ a)) ?_ (λv w' Y=> ?_) λv w' Y=>hP a v w' hn ha Y)
   .have:=P8 hC T (λ_=>rfl) (o:=o) h;rwa[Jd]at this
   .refine OS hC T hW Q J O a0 hQ hP r (i+1) _ w' (λo ho=>hd o (by simp[ho])) (by rw[JJ];exact hn) (ha.trans (G3.put y)) ?_;rw[j];exact NN Y
  .rename_i hw;rw[if_neg (by simp[hw])];refine OS hC T hW Q J O a0 hQ hP r (i+1) _ w (λo ho=>hd o (by simp[ho])) (by rw[JJ];exact hn) (ha.trans (G3.put y)) ?_;rw[j];exact h
abbrev Fam:=List (Nat×(World->Prop))
def waits:List Edge->Nat->Bool
 | [],_=>false
 | e::r,k=>match Region.binds .any e with
  | true=>bif Nat.beq e.on k then true else waits r k
  | false=>waits r k
def ZR{l:List Edge}{k:Nat}(h: ∀e∈l,Region.binds .any e=true->e.on≠k):waits l k=false:=by
 induction l with
 | nil=>rfl
 | cons e r ih=>
  have v:=ih λe he=>h e (by simp[he]);unfold waits;split
  .rename_i hb;have j:=h e (by simp) hb;have:Nat.beq e.on k=false:=by
    cases hh:Nat.beq e.on k
    .rfl
    .exact absurd (Nat.eq_of_beq_eq_true hh) j
   grind
  omega
def keepFam{α:Type}(after:List Edge):List (Nat×α)->List (Nat×α)
 | []=>[]
 | p::r=>match waits after p.1 with
  | true=>keepFam after r
  | false=>p::keepFam after r
def Jo{α:Type}(after:List Edge): ∀(l:List (Nat×α)) p,p∈keepFam after l->p∈l
 | [],p,h=>by simp[keepFam]at h
 | q::r,p,h=>by
  unfold keepFam at h;split at h
  .exact List.mem_cons_of_mem _ (Jo after r p h)
  .rcases List.mem_cons.1 h with rfl|h
   .simp
   .exact List.mem_cons_of_mem _ (Jo after r p h)
def Qc{α:Type}(after:List Edge): ∀(l m:List (Nat×α)),(∀p∈l,p∈m)-> ∀p∈keepFam after l,p∈keepFam after m:=by
 have key: ∀(m:List (Nat×α)) p,p∈m->waits after p.1=false->p∈keepFam after m:=by
  intro m
  induction m with
  | nil=>grind
  | cons q r ih=>
   intro p h hw;unfold keepFam;rcases List.mem_cons.1 h with rfl|h
   .simp[hw]
   .split
    .exact ih p h hw
    .exact List.mem_cons_of_mem _ (ih p h hw)
 have j: ∀(l:List (Nat×α)) p,p∈keepFam after l->waits after p.1=false:=by
  intro l
  induction l with
  | nil=>intro p h;simp[keepFam]at h
  | cons q r ih=>
   intro p h;unfold keepFam at h
   grind
 intro l m hs p hp;exact key m p (hs p (Jo after l p hp)) (j l p hp)
def afterOf(ops:Array Oper)(j:Nat):List Edge:=match ops[j]? with|some o=>o.after.toList|none=>[]
def La(P:Program)(ops:Array Oper)(Q:Exit->Act->World->Prop):Nat->Fam->Array Bool->Act->World->Prop
 | 0,_,listed,a,w=>Region.ready .any ops listed=[]/\Q .normal a w
 | fuel+1,fam,listed,a,w=>
  (Region.ready .any ops listed=[]->Q .normal a w)/\
  ∀j∈Region.ready .any ops listed,wpOp P ops Q j (λv w'=>(∀p∈keepFam (afterOf ops j) fam,p.2 w')/\
   La P ops Q fuel (keepFam (afterOf ops j) fam) (listed.setIfInBounds j true) v w') a w
section
variable{P:Program}{ops:Array Oper}{Q:Exit->Act->World->Prop}
def UI: ∀(fuel:Nat) (j:Fam) (listed:Array Bool) (a:Act) (w:World),La P ops Q fuel j listed a w->wpAny P .any ops Q fuel listed a w
 | 0,_,_,_,_,h=>h
 | fuel+1,_,_,_,_,h=>⟨h.1,λi J=>wpOp_mono (λv w' y=>UI fuel _ _ v w' y.2) (h.2 i J)⟩
def Sf: ∀(fuel:Nat) (y v:Fam) (listed:Array Bool) (a:Act) (w:World),(∀p∈v,p∈y)->La P ops Q fuel y listed a w->La P ops Q fuel v listed a w
 | 0,_,_,_,_,_,_,h=>h
 | fuel+1,y,v,_,_,_,hs,h=>⟨h.1,λj K=>wpOp_mono (λO w' J=>
   ⟨λp hp=>J.1 p (Qc _ _ _ hs p hp),Sf fuel _ _ _ _ _ (Qc _ _ _ hs) J.2⟩) (h.2 j K)⟩
def OT(i:Nat): ∀(fuel:Nat) (v:Fam) (listed:Array Bool) (a:Act) (w:World),La P ops Q fuel v listed a w->La P ops Q fuel ((i,λ_=>True)::v) listed a w
 | 0,_,_,_,_,h=>h
 | fuel+1,v,listed,a,w,h=>by
  refine⟨h.1,λj J=>wpOp_mono (λK w' y=> ?_) (h.2 j J)⟩;unfold keepFam;split
  .exact y
  .refine⟨λp hp=> ?_,OT i fuel _ _ _ _ y.2⟩;rcases List.mem_cons.1 hp with rfl|hp
   .trivial
   .exact y.1 p hp
def OU{i:Nat}{oi:Oper}{v:Value}{S:World->Prop}(hi:ops[i]? =some oi)(aB: ∀(j:Nat) (o:Oper) cs b,ops[j]? =some o->o.op≠ .select cs b)
  (hQ: ∀c a w,¬Q (.panic c) a w):
  ∀(fuel:Nat) (y:Fam) (listed:Array Bool) (a:Act) (w:World),
   (∀j oj,ops[j]? =some oj->j≠i->listed.getD j true=false->(∀e∈oj.after,Region.binds .any e=true->e.on≠i)->oi.apart ops oj=true)->
   i∈Region.ready .any ops listed->YieldsIf P ops S oi v a->S w->(∀p∈y,p.2 w)->
   La P ops Q fuel ((i,S)::y) (listed.setIfInBounds i true) (a.put oi.dst v) w->La P ops Q (fuel+1) y listed a w:=by
 have own: ∀(fuel:Nat) (y:Fam) (listed:Array Bool) (a:Act) (w:World),YieldsIf P ops S oi v a->S w->(∀p∈y,p.2 w)->
   La P ops Q fuel ((i,S)::y) (listed.setIfInBounds i true) (a.put oi.dst v) w->
   wpOp P ops Q i (λa' w'=>(∀p∈keepFam (afterOf ops i) y,p.2 w')/\La P ops Q fuel (keepFam (afterOf ops i) y) (listed.setIfInBounds i true) a' w') a w:=by
  intro fuel y listed a w hy hS J H;refine hy.wpOp hi hS ⟨λp hp=>J p (Jo _ _ _ hp),Sf _ _ _ _ _ _ (λp hp=>List.mem_cons_of_mem _ (Jo _ _ _ hp)) H⟩
 intro fuel
 induction fuel with
 | zero=>
  intro y listed a w _ hr hy hS J H;refine⟨λh=>(by rw[h]at hr;cases hr),λj hj=> ?_⟩;by_cases hji:j=i
  .subst hji;exact own 0 y listed a w hy hS J H
  .have:=ready_mono hj hji;rw[H.1]at this;cases this
 | succ fuel ih=>
  intro y listed a w O hr hy hS J H;refine⟨λh=>(by rw[h]at hr;cases hr),λj hj=> ?_⟩;by_cases hji:j=i
  .subst hji;exact own _ y listed a w hy hS J H
  .have h1:=H.2 j (ready_mono hj hji);obtain⟨aJ,oj,Y,aH⟩:=mem_ready.1 hj;have aA: ∀e∈oj.after,Region.binds .any e=true->e.on≠i:=λe he hb heq=>by
    have h1:=aH e he hb;have h0:=(mem_ready.1 hr).1
    grind
   have aC:keepFam (afterOf ops j) ((i,S)::y)=(i,S)::keepFam (afterOf ops j) y:=by
    have aR:waits (afterOf ops j) i=false:=ZR λe he hb=>by
     simp only[afterOf,Y]at he;exact aA e (by simpa using he) hb
    simp[keepFam,aR]
   rw[aC]at h1;have h2:=wpOp_putIf Y (O j oj Y hji aJ aA) (λcs b=>aB i oi cs b hi) (λcs b=>aB j oj cs b Y) (λc a w h=>(hQ _ _ _ h).elim) hy h1;have T: ∀k ok,ops[k]? =some ok->k≠i->(listed.setIfInBounds j true).getD k true=false->
     (∀e∈ok.after,Region.binds .any e=true->e.on≠i)->oi.apart ops ok=true:=λk ok hk aP aK aQ=>by
    refine O k ok hk aP ?_ aQ;by_cases hjk:j=k
    .grind
    .rw[getD_set_ne true hjk]at aK;exact aK
   refine wpOp_mono (λa' w' h3=> ?_) h2;obtain⟨aS,aI,h4⟩:=h3;have aN:S w':=aI (i,S) (by simp);have K: ∀p∈keepFam (afterOf ops j) y,p.2 w':=λp hp=>aI p (by simp[hp]);refine⟨K,ih _ (listed.setIfInBounds j true) a' w' T (ready_mono hr (Ne.symm hji)) aS aN K ?_⟩;rw[Array.setIfInBounds_comm _ _ hji];exact h4
end
def pickEarly(P:Program)(ops:Array Oper)(listed:Array Bool):List Nat->Option Nat
 | []=>none
 | i::r=>match ops[i]? with
  | some o=>match isEff P o.op with
   | true=>pickEarly P ops listed r
   | false=>match Region.free .any ops listed i with
    | true=>some i
    | false=>pickEarly P ops listed r
  | none=>pickEarly P ops listed r
def LA{P:Program}{ops:Array Oper}{listed:Array Bool}: ∀{l:List Nat} {i:Nat},pickEarly P ops listed l=some i->i∈l/\Region.free .any ops listed i=true
 | [],i,h=>by simp[pickEarly]at h
 | k::r,i,h=>by
  unfold pickEarly at h;split at h
  .split at h
   .obtain⟨h1,h2⟩:=LA h;grind
   .split at h
    .grind
    .obtain⟨h1,h2⟩:=LA h;grind
  .obtain⟨h1,h2⟩:=LA h;grind
def XZ:List (Nat×IK)->World->Prop->Prop
 | [],_,X=>X
 | p::r,w,X=>p.2 w/\XZ r w X
def Qd: ∀{l:List (Nat×IK)} {w:World} {X:Prop},XZ l w X->(∀p∈l,p.2 w)/\X
 | [],_,_,h=>⟨by simp,h⟩
 | p::r,w,X,h=>by
  obtain⟨h1,h2⟩:=h;obtain⟨v,y⟩:=Qd h2;exact⟨λq j=>by rcases List.mem_cons.1 j with rfl|j;exact h1;exact v q j,y⟩
def oI:List Nat->(Nat->Prop)->Prop
 | [],_=>True
 | [j],K=>K j
 | j::r,K=>K j/\oI r K
def UJ: ∀{l:List Nat} {K:Nat->Prop},oI l K-> ∀j∈l,K j
 | [],_,_,_,h=>by cases h
 | [j],K,h,k,hk=>by simp at hk;subst hk;exact h
 | j::i::r,K,h,k,hk=>by
  rcases List.mem_cons.1 hk with rfl|hk
  .exact h.1
  .exact UJ h.2 k hk
def evDraw(P:Program)(C G:FT)(ops:Array Oper)(Q:Fr->World->Prop):Nat->List (Nat×IK)->Array Bool->Fr->World->Prop
 | 0,_,listed,f,w=>match Region.ready .any ops listed with
  | []=>Q f w
  | _::_=>False
 | fuel+1,pend,listed,f,w=>match Region.ready .any ops listed with
  | []=>Q f w
  | j::rs=>match pickEarly P ops listed (j::rs)with
   | some i=>match ops[i]? with
    | some o=>match wantF ops f o.guard with
     | true=>match opK P o.op with
      | .pure=>evPure P o.op o.type f.ev λv=>UH (NM ops.toList i) v λv=>evDraw P C G ops Q fuel pend (listed.setIfInBounds i true) (f.Pz o.dst v) w
      | .read=>evRead P o.op f.ev w λv S=>UH (NM ops.toList i) v λv=>evDraw P C G ops Q fuel ((i,S)::pend) (listed.setIfInBounds i true) (f.Pz o.dst v) w
      | .Ii=>False
     | false=>evDraw P C G ops Q fuel pend (listed.setIfInBounds i true) (f.Pz o.dst undef) w
    | none=>False
   | none=>oI (j::rs) λi=>match ops[i]? with
    | some o=>match wantF ops f o.guard with
     | true=>oH P C G o.op o.type f.ev w (λv w'=>XZ (keepFam o.after.toList pend) w' (UH (NM ops.toList i) v λv=>
       evDraw P C G ops Q fuel (keepFam o.after.toList pend) (listed.setIfInBounds i true) (f.Pz o.dst v) w')) Lp
     | false=>evDraw P C G ops Q fuel (keepFam o.after.toList pend) (listed.setIfInBounds i true) (f.Pz o.dst undef) w
    | none=>False
def Xa{P:Program}{C G:FT}(hC:Fits P C)(hG:Fits P G){ops:Array Oper}{n:Nat}{W:List Nat}(hW:within n W)(hd: ∀(i:Nat) o,ops[i]? =some o-> ∀d,o.dst=some d->d∈W)
  (aD:Region.noSelect ops=true)(Q:Fr->World->Prop)(QQ:Exit->Act->World->Prop)(hP: ∀c a w,¬QQ (.panic c) a w)(a0:Act)
  (hQ: ∀a w,a.tmps.size=n->G3 W a0 a->Q (EZ a) w->QQ .normal a w):
  ∀(fuel:Nat) (y:List (Nat×IK)) (listed:Array Bool) (a:Act) (w:World),a.tmps.size=n->G3 W a0 a->(∀p∈y,p.2 w)->
   evDraw P C G ops Q fuel y listed (EZ a) w->La P ops QQ fuel y listed a w:=by
 have T: ∀(a:Act) (i:Nat) (o:Oper) v,a.tmps.size=n->ops[i]? =some o->EZ (a.put o.dst v)=(EZ a).Pz o.dst v:=
  λa i o v hn K=>Ru (λt ht=>by have:=hW t (hd i o K t ht);omega) v
 intro fuel
 induction fuel with
 | zero=>
  intro y listed a w hn ha _ h;unfold evDraw at h;split at h
  .rename_i hr;exact⟨hr,hQ a w hn ha h⟩
  .exact h.elim
 | succ fuel ih=>
  intro y listed a w hn ha J h;unfold evDraw at h;split at h
  .rename_i hr;exact⟨λ_=>hQ a w hn ha h,λj hj=>by rw[hr]at hj;cases hj⟩
  .rename_i j rs hr;split at h
   .rename_i i hpick;obtain⟨aJ,Y⟩:=LA hpick;split at h
    .rename_i o K;have O:i∈Region.ready .any ops listed:=by rw[hr];exact aJ
     rw[UG]at h;split at h
     .rename_i hw;split at h
      .obtain⟨v,hK,aC⟩:=QY h;have aB:=NN hK;rw[<-T a i o v hn K]at aB;refine OU (oi:=o) (v:=v) (S:=λ_=>True) K (Region.noSelect_spec aD) hP fuel y listed a w (Region.free_spec K Y) O (.inl ⟨hw,λw' _=> ?_⟩) trivial J ?_
       .have:=aC w';rwa[Jd]at this
       .exact OT _ _ _ _ _ _ (ih _ _ _ w (by rw[JJ];exact hn) (ha.trans (G3.put (hd i o K))) J aB)
      .obtain⟨v,S,hK,hS,aC⟩:=Qb h;have aB:=NN hK;rw[<-T a i o v hn K]at aB;refine OU (oi:=o) (v:=v) (S:=S) K (Region.noSelect_spec aD) hP fuel y listed a w (Region.free_spec K Y) O (.inl ⟨hw,λw' aI=> ?_⟩) hS J ?_
       .have:=aC w' aI;rwa[Jd]at this
       .refine ih ((i,S)::y) _ _ w (by rw[JJ];exact hn) (ha.trans (G3.put (hd i o K))) ?_ aB
        grind
      grind
     .rename_i hw;rw[<-T a i o undef hn K]at h;have h1:=ih y _ _ w (by rw[JJ];exact hn) (ha.trans (G3.put (hd i o K))) J h;refine OU (oi:=o) (v:=undef) (S:=λ_=>True) K (Region.noSelect_spec aD) hP fuel y listed a w (Region.free_spec K Y) O (.inr ⟨by omega,rfl⟩) trivial J ?_;exact OT _ _ _ _ _ _ h1
    .exact h.elim
   .refine⟨λh0=>(by rw[hr]at h0;cases h0),λi hi=> ?_⟩;rw[hr]at hi;have h1:=UJ h i hi;split at h1
    .rename_i o K;have aM:afterOf ops i=o.after.toList:=by simp[afterOf,K]
     suffices hgoal:wpOp P ops QQ i (λa' w'=>(∀p∈keepFam o.after.toList y,p.2 w')/\
       La P ops QQ fuel (keepFam o.after.toList y) (listed.setIfInBounds i true) a' w') a w by grind
     unfold wpOp;rw[K];show(if _ then _ else _);rw[UG]at h1;split at h1
     .rename_i hw;rw[if_pos hw];have hg:=P8 hC hG (λ_=>rfl) (o:=o) h1;rw[Jd]at hg;refine .inl (P9 hg (λv w' hK=> ?_) λ_ _ f=>f.elim);obtain⟨hk,h2⟩:=Qd hK;have h3:=NN h2;rw[<-T a i o v hn K]at h3;exact⟨hk,ih _ _ _ w' (by rw[JJ];exact hn) (ha.trans (G3.put (hd i o K))) hk h3⟩
     .rename_i hw;rw[if_neg (by simp[hw])];rw[<-T a i o undef hn K]at h1;have hk: ∀p∈keepFam o.after.toList y,p.2 w:=λp hp=>J p (Jo _ _ _ hp);exact⟨hk,ih _ _ _ w (by rw[JJ];exact hn) (ha.trans (G3.put (hd i o K))) hk h1⟩
    grind
structure Tj where
  loops:List (Nat×tG)
  UK:List (Nat×tG)
def look{α:Type}:List (Nat×α)->Nat->Option α
  | [],_=>none
  | (k,x)::r,n=>bif Nat.beq k n then some x else look r n
def orElse{α:Type}:Option α->Option α->Option α
  | some x,_=>some x
  | none,y=>y
def firstR:Code->Option Nat
  | .region id _ _=>some id
  | .seq a b=>orElse (firstR a) (firstR b)
  | .cond _ a b=>orElse (firstR a) (firstR b)
  | .block _ c=>firstR c
  | .loop c=>firstR c
  | .scope c=>firstR c
  | _=>none
def written:Code->List Nat
  | .region _ ops _=>dsts ops.toList
  | .seq a b=>written a++written b
  | .cond _ a b=>written a++written b
  | .block _ c=>written c
  | .loop c=>written c
  | .scope c=>written c
  | _=>[]
abbrev Post:=Exit->Fr->World->Prop
def Post.then(K:Fr->World->Prop)(Q:Post):Post:=λe f w=>match e with
  | .normal=>K f w
  | e=>Q e f w
def Post.inBlock(id:Nat)(Q:Post):Post:=λe f w=>match e with
  | .exit k=>match Nat.beq k id with
    | true=>Q .normal f w
    | false=>Q (.exit k) f w
  | e=>Q e f w
def Post.noGoto(Q:Post):Post:=λe f w=>match e with
  | .goto _=>False
  | e=>Q e f w
def A9(σ:Type)(s0:σ)(w0:World)(body:σ->(Nat->Value)->World->(σ->World->Prop)->Prop):Prop:=
  ∃(I:σ->World->Prop) (μ:σ->World->Nat),I s0 w0/\ ∀s j w,I s w->body s j w λs' w'=>I s' w'/\μ s' w'<μ s w
def An(σ:Type)(first:(σ->World->Prop)->Prop)(rest:σ->(Nat->Value)->World->Prop):Prop:=
  ∃J:σ->World->Prop,first J/\ ∀s j w,J s w->rest s j w
def ev(P:Program)(C G:FT)(A:Tj):Code->Post->Fr->World->Prop
  | .skip,Q,f,w=>Q .normal f w
  | .ret,Q,f,w=>Q .ret f w
  | .exit id,Q,f,w=>Q (.exit id) f w
  | .region _ ops d,Q,f,w=>match d with
    | false=>evOps P C G ops (Q .normal) (λf v w=>Q (.panic [{v:=v,recovered:=false}]) f w) 0 ops.toList f w
    | true=>match Region.noSelect ops with
      | true=>evDraw P C G ops (Q .normal) ops.size [] (Array.replicate ops.size false) f w.drew
      | false=>False
  | .seq x y,Q,f,w=>match(firstR y).bind (look A.UK)with
    | none=>ev P C G A x (Post.then (ev P C G A y Q) Q) f w
    | some l=>An (St l) (λJ=>ev P C G A x (Post.then (λf' w'=>Fr.get l f' λs=>J s w') Q) f w)
        λs j w'=>ev P C G A y Q (Fr.set l s (f.ZF (written x) j)) w'
  | .cond c x y,Q,f,w=>match f.ev c with
    | .bool b=>CND b (ev P C G A x Q f w) (ev P C G A y Q f w)
    | _=>False
  | .block id c,Q,f,w=>ev P C G A c (Post.inBlock id Q) f w
  | .scope c,Q,f,w=>ev P C G A c (Post.noGoto Q) f w
  | .label _,Q,f,w=>Q .normal f w
  | .loop c,Q,f,w=>match(firstR c).bind (look A.loops)with
    | none=>False
    | some l=>Fr.get l f λs=>A9 (St l) s w λs j w' next=>
        ev P C G A c (Post.then (λf' K=>Fr.get l f' λs'=>next s' K) Q) (Fr.set l s (f.ZF (written c) j)) w'
  | _,_,_,_=>False
def lift(n:Nat)(W:List Nat)(a0:Act)(Q:Post):Exit->Act->World->Prop
  | .outgrown,_,_=>False
  | e,a,w=>a.tmps.size=n/\G3 W a0 a/\Q e (EZ a) w
def calmQ(Q:Post):Post:=λe f w=>match e with
  | .panic _=>False
  | e=>Q e f w
def PH{n:Nat}{W V:List Nat}{a0:Act}{Q:Post}(h: ∀t,t∈W->t∈V)(e:Exit)(a:Act)(w:World)(j:lift n W a0 Q e a w):lift n V a0 Q e a w:=by
  cases e<;>simp only[lift]at j⊢ <;>first
    | exact j
    | exact⟨j.1,j.2.1.mono h,j.2.2⟩
def UL: ∀{l:List Oper} {o:Oper} {d:Nat},o∈l->o.dst=some d->d∈dsts l
  | [],o,d,h,_=>by cases h
  | p::r,o,d,h,hd=>by
    unfold dsts;rcases List.mem_cons.1 h with rfl|h
    . rw[hd];simp
    . have:=UL h hd
      grind
def F8{P:Program}{C G:FT}(hC:Fits P C)(T:Fits P G)(hm:P.follows .mixedOrders=true){A:Tj}{n:Nat}:
    ∀(c:Code),within n (written c)-> ∀(Q:Post) (a:Act) (w:World),a.tmps.size=n->ev P C G A c Q (EZ a) w->c.wp P (lift n (written c) a Q) a w
  | .skip,_,Q,a,w,hn,h=>wp_skip ⟨hn,.refl _ _,h⟩
  | .ret,_,Q,a,w,hn,h=>wp_ret ⟨hn,.refl _ _,h⟩
  | .exit id,_,Q,a,w,hn,h=>wp_exit ⟨hn,.refl _ _,h⟩
  | .region id ops d,hW,Q,a,w,hn,h=>by
    have hd: ∀(i:Nat) o,ops[i]? =some o-> ∀d,o.dst=some d->d∈dsts ops.toList:=λi o ho d hd=>
      UL (Array.mem_toList_iff.2 (Array.mem_of_getElem? ho)) hd
    unfold ev at h;split at h
    . refine wp_region_list ?_;exact OS hC T hW (Q .normal) (λf v w=>Q (.panic [{v:=v,recovered:=false}]) f w) _ a (λK w' aA ha hq=>⟨aA,ha,hq⟩) (λK v w' aA ha hq=>⟨aA,ha,hq⟩) ops.toList 0 a w (λo ho d hd=>UL ho hd) hn (.refl _ _) h
    . split at h
      . rename_i hs;refine Code.wp_mono (Q:=lift n (dsts ops.toList) a (calmQ Q)) (λe K w' j=> ?_) (wp_region_any hm (UI _ [] _ _ _ ?_))
        . cases e<;>simp only[lift,calmQ]at j⊢ <;>first
            | exact j
            | grind
        exact Xa hC T hW hd hs (Q .normal) (lift n (dsts ops.toList) a (calmQ Q)) (λc a w h=>h.2.2) a (λK w' aA ha hq=>⟨aA,ha,hq⟩) ops.size [] _ a _ hn (.refl _ _) (by simp) h
      grind
  | .seq x y,hW,Q,a,w,hn,h=>by
    have aC:within n (written x):=λt ht=>hW t (by simp[written,ht]);have aD:within n (written y):=λt ht=>hW t (by simp[written,ht]);unfold ev at h;split at h
    . refine wp_seq (Code.wp_mono (λe K w' j=> ?_) (F8 hC T hm x aC _ a w hn h));cases e<;>simp only[lift,Exit.then,Post.then]at j⊢ <;>first
        | exact j.elim
        | exact⟨j.1,j.2.1.mono (by simp[written];grind),j.2.2⟩
        | (refine Code.wp_mono (λe aG O aI=> ?_) (F8 hC T hm y aD Q K w' j.1 j.2.2)
           have h1:=PH (V:=written (.seq x y)) (by simp[written];grind) e aG O aI;have h2:G3 (written (.seq x y)) a K:=j.2.1.mono (by simp[written];grind);cases e<;>simp only[lift]at h1⊢ <;>first
             | exact h1
             | exact⟨h1.1,h2.trans h1.2.1,h1.2.2⟩)
    . rename_i l hl0;obtain⟨J,h1,h2⟩:=h;refine wp_seq (Code.wp_mono (λe K w' j=> ?_) (F8 hC T hm x aC _ a w hn h1));cases e<;>simp only[lift,Exit.then,Post.then]at j⊢ <;>first
        | exact j.elim
        | exact⟨j.1,j.2.1.mono (by simp[written];grind),j.2.2⟩
        | (obtain⟨s,hs,hJ⟩:=OL j.2.2
           have h3:ev P C G A y Q (Fr.set l s ((EZ a).ZF (written x) (EZ K))) w':=h2 s (EZ K) w' hJ;rw[OM hs (λt ht=>j.2.1.out t ht)]at h3;refine Code.wp_mono (λe aG O aI=> ?_) (F8 hC T hm y aD Q K w' j.1 h3);have h1:=PH (V:=written (.seq x y)) (by simp[written];grind) e aG O aI;have h2:G3 (written (.seq x y)) a K:=j.2.1.mono (by simp[written];grind);cases e<;>simp only[lift]at h1⊢ <;>first
             | exact h1
             | exact⟨h1.1,h2.trans h1.2.1,h1.2.2⟩)
  | .cond c x y,hW,Q,a,w,hn,h=>by
    have aC:within n (written x):=λt ht=>hW t (by simp[written,ht]);have aD:within n (written y):=λt ht=>hW t (by simp[written,ht]);unfold ev at h;split at h
    . rename_i b hb;rw[PE]at hb;cases b
      . refine wp_cond_false hb (Code.wp_mono (λe K w' j=> ?_) (F8 hC T hm y aD _ a w hn h));exact PH (by simp[written];grind) e K w' j
      . refine wp_cond_true hb (Code.wp_mono (λe K w' j=> ?_) (F8 hC T hm x aC _ a w hn h));exact PH (by simp[written];grind) e K w' j
    grind
  | .block id c,hW,Q,a,w,hn,h=>by
    refine wp_block (Code.wp_mono (λe K w' j=> ?_) (F8 hC T hm c hW _ a w hn h));cases e<;>simp only[lift,Exit.inBlock,Post.inBlock]at j⊢ <;>first
      | exact j
      | skip
    rename_i k;obtain⟨h1,h2,h3⟩:=j;split at h3
    . rename_i e;have:=Nat.eq_of_beq_eq_true e;subst this;rw[if_pos rfl];exact⟨h1,h2,h3⟩
    . rename_i e;rw[if_neg (by intro e';subst e';simp at e)];exact⟨h1,h2,h3⟩
  | .loop c,hW,Q,a,w,hn,h=>by
    unfold ev at h;split at h
    . exact h.elim
    . rename_i l hl0;obtain⟨s0,aS,I,μ,h0,aE⟩:=OL h;have key:(Code.loop c).wp P (lift n (written c) a Q) a w:=by
        refine wp_loop (λK w'=>K.tmps.size=n/\G3 (written c) a K/\ ∃s,Pf l s (EZ K)/\I s w')
          (λK w'=> @dite Nat (∃s,Pf l s (EZ K)/\I s w') (Classical.propDecidable _) (λh=>μ (Classical.choose h) w') (λ_=>0)) ⟨hn,.refl _ _,s0,aS,h0⟩ ?_
        intro a1 w1 hI;obtain⟨aP,aH,s,hs,hi⟩:=hI;have hex: ∃s,Pf l s (EZ a1)/\I s w1:=⟨s,hs,hi⟩;have hc:=Classical.choose_spec hex;have hr:ev P C G A c (Post.then (λf' O=>Fr.get l f' λs'=>I s' O/\μ s' O<μ (Classical.choose hex) w1) Q) (Fr.set l (Classical.choose hex) ((EZ a).ZF (written c) (EZ a1))) w1:=aE (Classical.choose hex) (EZ a1) w1 hc.2;rw[OM hc.1 (λt ht=>aH.out t ht)]at hr;refine Code.wp_mono (λe a2 w2 j=> ?_) (F8 hC T hm c hW _ a1 w1 aP hr);cases e<;>simp only[lift,Exit.then,Post.then]at j⊢ <;>first
          | exact j.elim
          | exact⟨j.1,aH.trans j.2.1,j.2.2⟩
          | skip
        obtain⟨aQ,aM,h3⟩:=j;obtain⟨s',aL,aN,aO⟩:=OL h3;have Y: ∃s,Pf l s (EZ a2)/\I s w2:=⟨s',aL,aN⟩;refine⟨⟨aQ,aH.trans aM,Y⟩,?_⟩;rw[dif_pos Y,dif_pos hex];rw[WV (Classical.choose_spec Y).1 aL];exact aO
      exact key
  | .rangeFunc _ _ _ _,_,_,_,_,_,h=>by simp[ev]at h
  | .scope c,hW,Q,a,w,hn,h=>by
    refine wp_scope_straight (Code.wp_mono (λe K w' j=> ?_) (F8 hC T hm c hW _ a w hn h));cases e<;>simp only[lift,Exit.noGoto,Post.noGoto]at j⊢ <;>first
      | exact j
      | grind
  | .label _,_,Q,a,w,hn,h=>wp_label ⟨hn,.refl _ _,h⟩
  | .goto _,_,_,_,_,_,h=>by simp[ev]at h
  | .refuse _,_,_,_,_,_,h=>by simp[ev]at h
def evRes(P:Program):List ResultVar->Fr->World->(List Value->Prop)->Prop
  | [],_,_,K=>K []
  | .tmp t::r,f,w,K=>evRes P r f w λl=>K (f t::l)
  | .cell a ty::r,f,w,K=>match f a with
    | .pointer p=>NC p λp=>dQ P ty p w λv _=>evRes P r f w λl=>K (v::l)
    | _=>False
def resV:List Value->Value
  | [v]=>v
  | l=>.tuple ⟨l⟩
def nthV:List Value->Nat->Value
  | [],_=>undef
  | v::_,0=>v
  | _::r,n+1=>nthV r n
def JC(args:List Value):Fr:=λt=>nthV args t
def finQ(P:Program)(fn:Func)(K Kp:Value->World->Prop):Post:=λe f w=>match e with
  | .normal=>evRes P fn.results.toList f w λl=>K (resV l) w
  | .ret=>evRes P fn.results.toList f w λl=>K (resV l) w
  | .panic [⟨v,false,false⟩]=>Kp v w
  | _=>False
def withinB(n:Nat):List Nat->Bool
  | []=>true
  | t::r=>match Nat.ble (t+1) n with
    | true=>withinB n r
    | false=>false
def Li{n:Nat}:{W:List Nat}->withinB n W=true->within n W
  | [],_=>by intro t j;cases j
  | t::r,h=>by
    unfold withinB at h;split at h
    . rename_i hle;intro u hu;rcases List.mem_cons.1 hu with rfl|hu
      . have:=Nat.le_of_ble_eq_true hle;omega
      . exact Li h u hu
    . cases h
def Xb: ∀(l:List Value) (t:Nat),nthV l t=(l[t]?).getD undef
  | [],t=>by simp[nthV]
  | v::r,0=>by simp[nthV]
  | v::r,n+1=>by simp[nthV,Xb r n]
def resOne(tmps:Array Value):ResultVar->Sem Value
  | .tmp t=>pure (tmps.getD t undef)
  | .cell a t=>do loadVar t (<-asAddr (tmps.getD a undef))
def QA{P:Program}{a:Act}{w:World}:{rs:List ResultVar}->{K:List Value->Prop}->evRes P rs (EZ a) w K->
    ∃l,K l/\(rs.mapM (resOne a.tmps)).run P w= .ok l w
  | [],K,h=>⟨[],h,by simp⟩
  | .tmp t::r,K,h=>by
    unfold evRes at h;obtain⟨l,j,J⟩:=QA h;exact⟨_,j,by simp only[List.mapM_cons,Sem.run_bind,resOne,Sem.run_pure,Result.andThen_ok,J];rfl⟩
  | .cell p ty::r,K,h=>by
    unfold evRes at h;split at h
    . rename_i q hq;obtain⟨Y,rfl,h2⟩:=JW h;obtain⟨v,S,h1,O,T⟩:=Se h2;obtain⟨l,j,J⟩:=QA h1;have y:a.tmps.getD p undef= .pointer (some Y):=hq;exact⟨_,j,by simp only[List.mapM_cons,Sem.run_bind,resOne,y,asAddr,Sem.run_pure,Result.andThen_ok,T w O,J]⟩
    grind
def Ky{P:Program}{fn:Func}{a:Act}{w:World}{K:List Value->Prop}(h:evRes P fn.results.toList (EZ a) w K):
    ∃l,K l/\(results fn a.tmps).run P w= .ok (resV l) w:=by
  obtain⟨l,j,y⟩:=QA h;refine⟨l,j,?_⟩;have he:results fn a.tmps=(do let vs <-fn.results.mapM (resOne a.tmps);pure (if h:vs.size=1 then vs[0]else .tuple vs)):=by
    unfold results;congr 2
  rw[he,Array.mapM_eq_mapM_toList];simp only[Sem.run_bind,Sem.run_map,y,Result.andThen_ok,Sem.run_pure];congr 1
  match l with
  | []=>simp[resV]
  | [v]=>simp[resV]
  | v::u::r=>simp[resV]
def ZS{P:Program}{C G:FT}{A:Tj}{fn:Func}{c:Code}{args:List Value}{w:World}{K Kp:Value->World->Prop}
    (hC:Fits P C)(Y:Fits P G)(hm:P.follows .mixedOrders=true)(O:Nat.ble args.length fn.ntmps=true)
    (hW:withinB fn.ntmps (written c)=true)(h:ev P C G A c (finQ P fn K Kp) (JC args) w):
    c.wp P (bodyPost P fn (Ends K Kp)) {tmps:=(⟨args⟩:Array Value)++Array.replicate (fn.ntmps-(⟨args⟩:Array Value).size) undef,defers:=[]} w:=by
  have T:=Nat.le_of_ble_eq_true O;have h0:EZ ⟨(⟨args⟩:Array Value)++Array.replicate (fn.ntmps-args.length) undef,[]⟩=JC args:=by
    funext t;simp only[EZ,JC,Xb,Array.getD_eq_getD_getElem?,Array.getElem?_append]
    grind
  have hn:((⟨args⟩:Array Value)++Array.replicate (fn.ntmps-args.length) undef).size=fn.ntmps:=by simp;omega
  rw[<-h0]at h;refine Code.wp_mono (λe a' w' j=> ?_) (F8 hC Y hm c (Li hW) _ _ w hn h);cases e<;>simp only[lift,finQ,bodyPost]at j⊢ <;>first
    | exact j.elim
    | exact j.2.2.elim
    | (obtain⟨_,J,y⟩:=j
       obtain⟨l,hK,hr⟩:=Ky y;exact⟨J.defers,_,hr,.inl ⟨_,rfl,hK⟩⟩)
    | (obtain⟨_,J,y⟩:=j
       split at y
       . grind
       . grind
       . rename_i v he;cases he;exact⟨J.defers,.inr ⟨_,rfl,y⟩⟩
       grind)
def ZT{P:Program}{C G:FT}{A:Tj}{f:FuncId}{fn:Func}{c:Code}{args:List Value}{w:World}{K Kp:Value->World->Prop}
    (hC:Fits P C)(v:Fits P G)(hm:P.follows .mixedOrders=true)(hf:P.funcs[f]? =some fn)(J:fn.body=some c)(j:Nat.ble args.length fn.ntmps=true)
    (y:withinB fn.ntmps (written c)=true)(h:ev P C G A c (finQ P fn K Kp) (JC args) w):
    Calls P f ⟨args⟩ w (Ends K Kp):=calls_of_wp hf J (ZS hC v hm j y h)
def KJ:List VT->Type
  | []=>Unit
  | t::r=>nR t×KJ r
def mkArgs:(l:List VT)->KJ l->List Value
  | [],_=>[]
  | t::r,x=>mkVT t x.1::mkArgs r x.2
def unArgs:(l:List VT)->List Value->(KJ l->Prop)->Prop
  | [],[],K=>K ()
  | t::r,v::vs,K=>unVT t v λx=>unArgs r vs λy=>K (x,y)
  | _,_,_=>False
def Ij:{l:List VT}->{vs:List Value}->{K:KJ l->Prop}->unArgs l vs K-> ∃x,vs=mkArgs l x/\K x
  | [],[],_,h=>⟨(),rfl,h⟩
  | [],_::_,_,h=>h.elim
  | _::_,[],_,h=>h.elim
  | t::r,v::vs,K,h=>by
    simp only[unArgs]at h;obtain⟨x,rfl,h2⟩:=Rt h;obtain⟨y,rfl,j⟩:=Ij h2;exact⟨(x,y),rfl,j⟩
def JK:{l:List VT}->{x:KJ l}->(mkArgs l x).length=l.length
  | [],_=>rfl
  | t::r,x=>by simp[mkArgs,JK]
abbrev Entry:=Array Value->World->(Value->World->Prop)->(Value->World->Prop)->Prop
def MK(P:Program)(g:FuncId)(c:Entry):Prop:= ∀args w K Kp,c args w K Kp->
  (∀w,(callFunc g args).run P w= .ok (.enter g args) w)/\Calls P g args w (Ends K Kp)
def GB(P:Program)(g:FuncId)(c:Entry):Prop:= ∀args w K Kp,c args w K Kp->
  ((∀w,(callFunc g args).run P w= .ok (.enter g args) w)/\Calls P g args w (Ends K Kp))∨ ∃v w',(callFunc g args).run P w= .ok (.value v) w'/\K v w'
def MK.any{P:Program}{g:FuncId}{c:Entry}(h:MK P g c):GB P g c:=λargs w K Kp j=>.inl (h args w K Kp j)
def ZU{P:Program}{f:FuncId}{fn:Func}{e:Array Value->Sem Value}(hf:P.funcs[f]? =some fn)(j:(fn.name== "runtime.NumGoroutine")=false)(y:fn.body.isNone=true)(O:Extern.findNext fn=none)(he:Extern.find fn=some e)
    {c:Entry}(J: ∀args w K Kp,c args w K Kp-> ∃v,(e args).run P w= .ok v w/\K v w):GB P f c:=λargs w K Kp h=>by
  obtain⟨v,h1,h2⟩:=J args w K Kp h;refine .inr ⟨v,w,?_,h2⟩;rw[run_callFunc_extern hf j y O he,h1];rfl
def tabC(l:List (Nat×Entry)):FT:=λg args w K Kp=>match look l g with
  | some c=>c args w K Kp
  | none=>False
def UM{α:Type}:{l:List (Nat×α)}->{g:Nat}->{c:α}->look l g=some c->(g,c)∈l
  | [],_,_,h=>by simp[look]at h
  | (k,x)::r,g,c,h=>by
    simp only[look,cond_eq_ite]at h;by_cases e:Nat.beq k g=true
    . rw[if_pos e]at h;have:=Nat.eq_of_beq_eq_true e
      grind
    . rw[if_neg e]at h;exact List.mem_cons_of_mem _ (UM h)
def PI{P:Program}{l:List (Nat×Entry)}(h: ∀p∈l,GB P p.1 p.2):Fits P (tabC l):=by
  intro g args w K Kp j;unfold tabC at j;split at j
  . rename_i c hl;exact h _ (UM hl) args w K Kp j
  grind
def OV{P:Program}: ∀p∈([]:List (Nat×Entry)),GB P p.1 p.2:=by simp
def UN{P:Program}{g:Nat}{c:Entry}{l:List (Nat×Entry)}(h:GB P g c)(j: ∀p∈l,GB P p.1 p.2): ∀p∈(g,c)::l,GB P p.1 p.2:=by grind
def HD{P:Program}{g:Nat}{c:Entry}{l:List (Nat×Entry)}(h:MK P g c)(j: ∀p∈l,GB P p.1 p.2): ∀p∈(g,c)::l,GB P p.1 p.2:=UN h.any j
def ground(P:Program):FT:=λg args w K Kp=>
  (∀w,(callFunc g args).run P w= .ok (.enter g args) w)/\Calls P g args w (Ends K Kp)
def ML(P:Program):Fits P (ground P):=λ_ _ _ _ _ h=>.inl h
def ZV{P:Program}{T:List (Nat×Entry)}{A:Tj}{f:FuncId}{fn:Func}{c:Code}{l:List VT}{F:KJ l->(Value->World->Prop)->(Value->World->Prop)->World->Prop}
    (J: ∀p∈T,GB P p.1 p.2)(hm:P.follows .mixedOrders=true)(hf:P.funcs[f]? =some fn)(j: ∀args w,(callFunc f args).run P w= .ok (.enter f args) w)
    (hb:fn.body=some c)(y:Nat.ble l.length fn.ntmps=true)(O:withinB fn.ntmps (written c)=true)
    (v: ∀x K Kp w,F x K Kp w=ev P (tabC T) (ground P) A c (finQ P fn K Kp) (JC (mkArgs l x)) w):
    MK P f λargs w K Kp=>unArgs l args.toList λx=>F x K Kp w:=by
  intro args w K Kp h;obtain⟨x,hx,h2⟩:=Ij h;have Y:args=⟨mkArgs l x⟩:=Array.toList_inj.1 (by omega);subst Y;refine⟨λw=>j _ w,?_⟩;rw[v]at h2;exact ZT (PI J) (ML P) hm hf hb (by rw[JK];exact y) O h2
abbrev Qe:=FuncId->Array Value->Option Value->World->(Bool->World->Prop)->Prop
abbrev NO:=Array Value->Option Value->World->(Bool->World->Prop)->Prop
def modeOf:Option Value->FrameMode
  | none=>.returning
  | some v=>.panicking [{v:=v,recovered:=false}]
def UO:Option Value->Bool->FrameMode
  | none,_=>.returning
  | some v,b=>.panicking [{v:=v,recovered:=b}]
def JL(P:Program)(g:FuncId)(c:NO):Prop:= ∀args j w K,c args j w K->
  (∀w,(callFunc g args).run P w= .ok (.enter g args) w)/\CallsD P g args (modeOf j) w λe u' w'=> ∃v b,e= .returned v/\K b w'/\u'=UO j b
def xM(P:Program)(C:Qe):Prop:= ∀g args j w K,C g args j w K->
  (∀w,(callFunc g args).run P w= .ok (.enter g args) w)/\CallsD P g args (modeOf j) w λe u' w'=> ∃v b,e= .returned v/\K b w'/\u'=UO j b
def tabD(l:List (Nat×NO)):Qe:=λg args j w K=>match look l g with
  | some c=>c args j w K
  | none=>False
def kV{P:Program}{l:List (Nat×NO)}(h: ∀p∈l,JL P p.1 p.2):xM P (tabD l):=by
  intro g args v w K j;unfold tabD at j;split at j
  . rename_i c hl;exact h _ (UM hl) args v w K j
  grind
def Wh{P:Program}: ∀p∈([]:List (Nat×NO)),JL P p.1 p.2:=by simp
def UP{P:Program}{g:Nat}{c:NO}{l:List (Nat×NO)}(h:JL P g c)(j: ∀p∈l,JL P p.1 p.2): ∀p∈(g,c)::l,JL P p.1 p.2:=by grind
def ZW{P:Program}{T:List (Nat×Entry)}{A:Tj}{f:FuncId}{fn:Func}{c:Code}{l:List VT}{F:KJ l->(World->Prop)->World->Prop}
    (Y: ∀p∈T,GB P p.1 p.2)(hm:P.follows .mixedOrders=true)(hf:P.funcs[f]? =some fn)(j: ∀args w,(callFunc f args).run P w= .ok (.enter f args) w)
    (hb:fn.body=some c)(J:Nat.ble l.length fn.ntmps=true)(hW:withinB fn.ntmps (written c)=true)
    (y: ∀x K w,F x K w=ev P (tabC T) (ground P) A c (finQ P fn (λ_ w'=>K w') Lp) (JC (mkArgs l x)) w):
    JL P f λargs _ w K=>unArgs l args.toList λx=>F x (K false) w:=by
  intro args pv w K h;obtain⟨x,hx,h2⟩:=Ij h;have ha:args=⟨mkArgs l x⟩:=Array.toList_inj.1 (by omega);subst ha;refine⟨λw=>j _ w,?_⟩;rw[y]at h2;refine(callsD_of_wp hf hb (ZS (PI Y) (ML P) hm (by rw[JK];exact J) hW h2)).mono ?_;rintro e u' w' ⟨rfl,hE⟩;obtain⟨v,rfl,O⟩:=hE.val;refine⟨v,false,rfl,O,?_⟩;cases pv<;>rfl
def recOf:Code->Option (Nat×Code)
  | .seq (.region _ ops false) y=>match ops.toList with
    | [o]=>match o.op with
      | .call c=>match c.callee with
        | .builtin .recover=>match o.guard,o.dst with
          | none,some d=>some (d,y)
          | _,_=>none
        | _=>none
      | _=>none
    | _=>none
  | _=>none
def dV{c:Code}{d:Nat}{y:Code}(h:recOf c=some (d,y)):
    ∃id o k,c= .seq (.region id #[o] false) y/\o.op= .call k/\k.callee= .builtin .recover/\o.guard=none/\o.dst=some d:=by
  unfold recOf at h;split at h
  . rename_i id ops y';split at h
    . rename_i o ho;split at h
      . rename_i k hk;split at h
        . rename_i hb;split at h
          . rename_i hg hd;cases h;have:ops= #[o]:=Array.toList_inj.1 (by omega);subst this
            grind
          . cases h
        . cases h
      . cases h
    . cases h
  . cases h
def ZX{args:List Value}{n:Nat}:EZ ⟨(⟨args⟩:Array Value)++Array.replicate (n-args.length) undef,[]⟩=JC args:=by
  funext t;simp only[EZ,JC,Xb,Array.getD_eq_getD_getElem?,Array.getElem?_append]
  grind
def kX{P:Program}{T:List (Nat×Entry)}{A:Tj}{f:FuncId}{fn:Func}{c y:Code}{d:Nat}{l:List VT}{F:KJ l->Value->(World->Prop)->World->Prop}
    (hT: ∀p∈T,GB P p.1 p.2)(hm:P.follows .mixedOrders=true)(hf:P.funcs[f]? =some fn)(Y: ∀args w,(callFunc f args).run P w= .ok (.enter f args) w)
    (hb:fn.body=some c)(aF:recOf c=some (d,y))(aQ:Nat.ble l.length fn.ntmps=true)(hd:Nat.ble (d+1) fn.ntmps=true)(hW:withinB fn.ntmps (written y)=true)
    (aI: ∀x v K w,F x v K w=ev P (tabC T) (ground P) A y (finQ P fn (λ_ w'=>K w') Lp) ((JC (mkArgs l x)).put d v) w):
    JL P f λargs O w K=>unArgs l args.toList λx=>F x (O.getD .nilIface) (K O.isSome) w:=by
  intro args O w K h;obtain⟨x,hx,h2⟩:=Ij h;have ha:args=⟨mkArgs l x⟩:=Array.toList_inj.1 (by omega);subst ha;refine⟨λw=>Y _ w,?_⟩;rw[aI]at h2;obtain⟨id,o,k,rfl,ho,hk,hg,aC⟩:=dV aF;have aH:=Nat.le_of_ble_eq_true aQ;have aZ:=Nat.le_of_ble_eq_true hd;rw[<-JK (x:=x)]at aH;refine callsD_of_wpS hf hb λJ cs aA=>wpS_seq (wpS_region ?_);have hn:((⟨mkArgs l x⟩:Array Value)++Array.replicate (fn.ntmps-(⟨mkArgs l x⟩:Array Value).size) undef).size=fn.ntmps:=by simp;omega
  generalize hA:({tmps:=(⟨mkArgs l x⟩:Array Value)++Array.replicate (fn.ntmps-(⟨mkArgs l x⟩:Array Value).size) undef,defers:=[]}:Act)=a0;have aL:EZ a0=JC (mkArgs l x):=by rw[<-hA];exact ZX
  have aN:a0.tmps.size=fn.ntmps:=by grind
  have aM:a0.defers=[]:=by rw[<-hA]
  have aG:(execOp a0.eval o).run P w= .ok .recover w:=by
    obtain⟨dst,op,type,pos,after,guard⟩:=o;obtain⟨callee,aK,aU⟩:=k;simp only at ho hk;subst ho;subst hk;simp[execOp,resolve,invoke,builtin]
  have aB:Region.wanted o (yielded #[o] a0.tmps)=true:=by simp[Region.wanted,hg]
  have key: ∀(j:List Frame) (v:Value),ev P (tabC T) (ground P) A y (finQ P fn (λ_ w'=>K O.isSome w') Lp) ((JC (mkArgs l x)).put d v) w->
      (∃u',j={J with mode:=u'}::cs/\u'=UO O O.isSome)->
      wpOpsS P #[o] (Exit.thenS (y.wpS P (bodyPostS P fn J cs λe u' w'=> ∃v b,e= .returned v/\K b w'/\u'=UO O b)) (bodyPostS P fn J cs λe u' w'=> ∃v b,e= .returned v/\K b w'/\u'=UO O b)) [] (a0.put o.dst v) j w:=by
    rintro j v aD ⟨u',aY,hu⟩;show y.wpS P _ (a0.put o.dst v) j w;refine wpS_of_wp ?_;have aP:EZ (a0.put o.dst v)=(JC (mkArgs l x)).put d v:=by rw[aC,ZG (by omega),aL]
    rw[<-aP]at aD;refine Code.wp_mono (λe a' w' hl=> ?_) (F8 (PI hT) (ML P) hm y (Li hW) _ _ w (by rw[JJ];exact aN) aD);have aS: ∀{W},G3 W (a0.put o.dst v) a'->a'.defers=[]:=λh=>by rw[h.defers,P5,aM]
    cases e<;>simp only[lift,finQ,bodyPostS]at hl⊢ <;>first
      | exact hl.elim
      | exact hl.2.2.elim
      | (obtain⟨_,ha,hq⟩:=hl
         obtain⟨r,hK,hr⟩:=Ky hq
         grind)
      | (obtain⟨_,ha,hq⟩:=hl
         split at hq
         . grind
         . grind
         . exact hq.elim
         grind)
  show wpOpsS P #[o] _ [0] a0 (J::cs) w;unfold wpOpsS;simp only[List.getElem?_toArray,List.getElem?_cons_zero];rw[if_pos aB,aG];cases O with
  | none=>
    have:recoverD (J::cs)=none:=by simp[recoverD,aA,modeOf]
    simp only[this];exact key (J::cs) .nilIface h2 ⟨J.mode,rfl,aA⟩
  | some v=>
    have:recoverD (J::cs)=some (v,{J with mode:=.panicking [{v:=v,recovered:=true}]}::cs):=by simp[recoverD,aA,modeOf]
    simp only[this];exact key _ v h2 ⟨_,rfl,rfl⟩
def deferOf:Code->Option Call
  | .region _ ops false=>match ops.toList with
    | [o]=>match o.op with
      | .defer c=>match o.guard,o.dst with
        | none,none=>some c
        | _,_=>none
      | _=>none
    | _=>none
  | _=>none
def Xc{x:Code}{c:Call}(h:deferOf x=some c): ∃id o,x= .region id #[o] false/\o.op= .defer c/\o.guard=none/\o.dst=none:=by
  unfold deferOf at h;split at h
  . rename_i id ops;split at h
    . rename_i o ho;split at h
      . rename_i k hk;split at h
        . rename_i hg hd;cases h;have:ops= #[o]:=Array.toList_inj.1 (by omega);subst this
          grind
        . cases h
      . cases h
    . cases h
  . cases h
def deferOf2:Code->Option (Oper×Call)
  | .region _ ops false=>match ops.toList with
    | [o1,o]=>match o.op with
      | .defer c=>match o.guard,o.dst with
        | none,none=>match o1.guard with
          | none=>some (o1,c)
          | _=>none
        | _,_=>none
      | _=>none
    | _=>none
  | _=>none
def V7{x:Code}{j:Oper}{c:Call}(h:deferOf2 x=some (j,c)): ∃id o,x= .region id #[j,o] false/\o.op= .defer c/\o.guard=none/\o.dst=none/\j.guard=none:=by
  unfold deferOf2 at h;split at h
  . rename_i id ops;split at h
    . rename_i p o ho;split at h
      . rename_i k hk;split at h
        . rename_i hg hd;split at h
          . rename_i hg1;cases h;have:ops= #[_,o]:=Array.toList_inj.1 (by omega);subst this
            grind
          . cases h
        . cases h
      . cases h
    . cases h
  . cases h
def evD(P:Program)(C G:FT)(A:Tj)(K:Post)(O:FuncId->Array Value->Post):Code->Fr->World->Prop
  | .seq x y,f,w=>match deferOf x with
    | some c=>match c.callee with
      | .value v=>match f.ev v with
        | .func (.func g) first cap=>ev P C G A y (O g ((first++c.args.map f.ev)++cap)) f w
        | _=>False
      | _=>False
    | none=>match deferOf2 x with
      | some (o1,c)=>oH P C G o1.op o1.type f.ev w (λu w'=>match c.callee with
        | .value v=>match(f.Pz o1.dst u).ev v with
          | .func (.func g) first cap=>ev P C G A y (O g ((first++c.args.map (f.Pz o1.dst u).ev)++cap)) (f.Pz o1.dst u) w'
          | _=>False
        | _=>False) λ_ _=>False
      | none=>match(firstR y).bind (look A.UK)with
        | none=>ev P C G A x (Post.then (evD P C G A K O y) K) f w
        | some l=>An (St l) (λJ=>ev P C G A x (Post.then (λf' w'=>Fr.get l f' λs=>J s w') K) f w)
            λs j w'=>evD P C G A K O y (Fr.set l s (f.ZF (written x) j)) w'
  | c,f,w=>ev P C G A c K f w
def liftD(n:Nat)(j:Post)(v:FuncId->Array Value->Post):Exit->Act->World->Prop
  | .outgrown,_,_=>False
  | e,a,w=>a.tmps.size=n/\((a.defers=[]/\j e (EZ a) w)∨ ∃g cap args,a.defers=[⟨.fn (.func g) cap,args⟩]/\v g (args++cap) e (EZ a) w)
def kY{P:Program}{C G:FT}(hC:Fits P C)(hG:Fits P G)(hm:P.follows .mixedOrders=true){A:Tj}{n:Nat}{Q0:Post}{Q1:FuncId->Array Value->Post}:
    ∀(c:Code),within n (written c)-> ∀(a:Act) (w:World),a.tmps.size=n->a.defers=[]->evD P C G A Q0 Q1 c (EZ a) w->c.wp P (liftD n Q0 Q1) a w:=by
  have plain: ∀(c:Code),within n (written c)-> ∀(a:Act) (w:World),a.tmps.size=n->a.defers=[]->ev P C G A c Q0 (EZ a) w->c.wp P (liftD n Q0 Q1) a w:=by
    intro c hW a w hn hd h;refine Code.wp_mono (λe a' w' j=> ?_) (F8 hC hG hm c hW Q0 a w hn h);cases e<;>simp only[lift,liftD]at j⊢ <;>first
      | exact j.elim
      | exact⟨j.1,.inl ⟨by rw[j.2.1.defers,hd],j.2.2⟩⟩
  intro c
  induction c with
  | seq x y _ ihy=>
    intro hW a w hn hd h;have aF:within n (written x):=λt ht=>hW t (by simp[written,ht]);have Y:within n (written y):=λt ht=>hW t (by simp[written,ht]);unfold evD at h;split at h
    . rename_i k hk;obtain⟨id,o,rfl,ho,hg,O⟩:=Xc hk;split at h
      . rename_i v hv;split at h
        . rename_i g first cap hf
          refine wp_seq (wp_region_list ?_);show wpList P #[o] _ [o] a w;unfold wpList;have K:Region.wanted o (yielded #[o] a.tmps)=true:=by simp[Region.wanted,hg]
          rw[if_pos K];refine .inl ?_;have T:(execOp a.eval o).run P w= .ok (.defer ⟨.fn (.func g) cap,first++k.args.map (EZ a).ev⟩) w:=by
            obtain⟨dst,op,type,pos,after,guard⟩:=o;obtain⟨callee,aE,aN⟩:=k;simp only at ho hv;subst ho;subst hv;rw[PE]at hf;simp[execOp,resolve,hf,Deferred.ofValue,Jd]
          unfold Oper.wp;rw[T,Oper.upon_defer,O];show(Exit.then _ _ _ _ _:Prop);have h2:=F8 hC hG hm y Y (Q1 g ((first++k.args.map (EZ a).ev)++cap)) {a with defers:=⟨.fn (.func g) cap,first++k.args.map (EZ a).ev⟩::a.defers} w hn h;refine Code.wp_mono (λe a' w' j=> ?_) h2;cases e<;>simp only[lift,liftD]at j⊢ <;>first
            | exact j.elim
            | exact⟨j.1,.inr ⟨g,cap,_,by rw[j.2.1.defers,hd],j.2.2⟩⟩
        grind
      grind
    . split at h
      . rename_i o1 k hk;obtain⟨id,o,rfl,ho,hg,O,aP⟩:=V7 hk;refine wp_seq (wp_region_list ?_);show wpList P #[o1,o] _ [o1,o] a w;unfold wpList;have aA:Region.wanted o1 (yielded #[o1,o] a.tmps)=true:=by simp[Region.wanted,aP]
        rw[if_pos aA];have aM: ∀v,EZ (a.put o1.dst v)=(EZ a).Pz o1.dst v:=λv=>Ru (λt ht=>by have:=aF t (by simp[written,dsts,ht]);omega) v;refine .inl (P9 (Kp:=λ_ _=>False) (by have:=P8 hC hG (λ_=>rfl) (o:=o1) h;rwa[Jd]at this) (λu w' hK=> ?_) λv w' hK=>hK.elim);split at hK
        . rename_i v hv;rw[<-aM]at hK;split at hK
          . rename_i g first cap hf
            unfold wpList;have K:Region.wanted o (yielded #[o1,o] (a.put o1.dst u).tmps)=true:=by simp[Region.wanted,hg]
            rw[if_pos K];refine .inl ?_;have T:(execOp (a.put o1.dst u).eval o).run P w'= .ok (.defer ⟨.fn (.func g) cap,first++k.args.map (EZ (a.put o1.dst u)).ev⟩) w':=by
              obtain⟨dst,op,type,pos,after,guard⟩:=o;obtain⟨callee,aE,aN⟩:=k;simp only at ho hv;subst ho;subst hv;rw[PE]at hf;simp[execOp,resolve,hf,Deferred.ofValue,Jd]
            unfold Oper.wp;rw[T,Oper.upon_defer,O];show(Exit.then _ _ _ _ _:Prop);have h2:=F8 hC hG hm y Y (Q1 g ((first++k.args.map (EZ (a.put o1.dst u)).ev)++cap)) {(a.put o1.dst u)with defers:=⟨.fn (.func g) cap,first++k.args.map (EZ (a.put o1.dst u)).ev⟩::(a.put o1.dst u).defers} w' (by rw[<-hn];exact JJ _ _ _) hK;refine Code.wp_mono (λe a' w' j=> ?_) h2;cases e<;>simp only[lift,liftD]at j⊢ <;>first
              | exact j.elim
              | exact⟨j.1,.inr ⟨g,cap,_,by rw[j.2.1.defers,P5,hd],j.2.2⟩⟩
          . exact hK.elim
        . exact hK.elim
      split at h
      . refine wp_seq (Code.wp_mono (λe a' w' j=> ?_) (F8 hC hG hm x aF _ a w hn h));cases e<;>simp only[lift,Exit.then,Post.then,liftD]at j⊢ <;>first
          | exact j.elim
          | exact⟨j.1,.inl ⟨by rw[j.2.1.defers,hd],j.2.2⟩⟩
          | exact ihy Y a' w' j.1 (by rw[j.2.1.defers,hd]) j.2.2
      . rename_i l hl0;obtain⟨J,h1,h2⟩:=h;refine wp_seq (Code.wp_mono (λe a' w' j=> ?_) (F8 hC hG hm x aF _ a w hn h1));cases e<;>simp only[lift,Exit.then,Post.then,liftD]at j⊢ <;>first
          | exact j.elim
          | exact⟨j.1,.inl ⟨by rw[j.2.1.defers,hd],j.2.2⟩⟩
          | (obtain⟨s,hs,hJ⟩:=OL j.2.2
             have h3:evD P C G A Q0 Q1 y (Fr.set l s ((EZ a).ZF (written x) (EZ a'))) w':=h2 s (EZ a') w' hJ;rw[OM hs (λt ht=>j.2.1.out t ht)]at h3;exact ihy Y a' w' j.1 (by rw[j.2.1.defers,hd]) h3)
  | _=>intro hW a w hn hd h;exact plain _ hW a w hn hd (by unfold evD at h;exact h)
def finD(P:Program)(fn:Func)(D:Qe)(K Kp:Value->World->Prop)(g:FuncId)(args:Array Value):Post:=λe f w=>match e with
  | .normal=>D g args none w λ_ w'=>evRes P fn.results.toList f w' λl=>K (resV l) w'
  | .ret=>D g args none w λ_ w'=>evRes P fn.results.toList f w' λl=>K (resV l) w'
  | .panic [⟨v,false,false⟩]=>D g args (some v) w λb w'=>match b with
    | true=>evRes P fn.results.toList f w' λl=>K (resV l) w'
    | false=>Kp v w'
  | _=>False
def calls_of_evD{P:Program}{C G:FT}{D:Qe}{A:Tj}{f:FuncId}{fn:Func}{c:Code}{args:List Value}{w:World}{K Kp:Value->World->Prop}
    (hC:Fits P C)(hG:Fits P G)(hD:xM P D)(hm:P.follows .mixedOrders=true)(hf:P.funcs[f]? =some fn)(hb:fn.body=some c)(aC:Nat.ble args.length fn.ntmps=true)
    (hW:withinB fn.ntmps (written c)=true)(h:evD P C G A (finQ P fn K Kp) (finD P fn D K Kp) c (JC args) w):
    Calls P f ⟨args⟩ w (Ends K Kp):=by
  have aD:=Nat.le_of_ble_eq_true aC;have hn:((⟨args⟩:Array Value)++Array.replicate (fn.ntmps-args.length) undef).size=fn.ntmps:=by simp;omega
  rw[<-ZX (n:=fn.ntmps)]at h;refine calls_of_wp_defers hf hb (Code.wp_mono (λe a' w' T=> ?_) (kY hC hG hm c (Li hW) _ w hn rfl h));have leave: ∀(pv:Option Value) (g:FuncId) (cap j:Array Value),D g (j++cap) pv w' (λb y=>match pv,b with
        | some v,false=>Kp v y
        | _,_=>evRes P fn.results.toList (EZ a') y λl=>K (resV l) y)->
      Leaves P fn a'.tmps (Ends K Kp) [⟨.fn (.func g) cap,j⟩] (modeOf pv) w':=by
    intro pv g cap j hd;obtain⟨h1,h2⟩:=hD _ _ _ _ _ hd;refine leaves_cons (by cases pv<;>simp[modeOf]) (f:=g) (args:=j++cap) (by simp[invoke,h1]) (h2.mono ?_);rintro e u' y ⟨v,b,rfl,hk,rfl⟩;cases pv with
    | none=>
      obtain⟨r,O,Y⟩:=Ky hk;exact⟨_,Y,.inl ⟨_,rfl,O⟩⟩
    | some p=>
      cases b with
      | true=>
        obtain⟨r,O,Y⟩:=Ky hk;exact⟨_,Y,.inl ⟨_,rfl,O⟩⟩
      | false=>exact .inr ⟨_,rfl,hk⟩
  cases e<;>simp only[liftD,bodyPostD]at T⊢ <;>first
    | exact T.elim
    | skip
  . obtain⟨_,⟨hd,J⟩|⟨g,cap,j,hd,J⟩⟩:=T
    . rw[hd];obtain⟨r,O,Y⟩:=Ky J;exact⟨_,Y,.inl ⟨_,rfl,O⟩⟩
    . rw[hd];exact leave none g cap j J
  . obtain⟨_,⟨_,J⟩|⟨_,_,_,_,J⟩⟩:=T<;>exact J.elim
  . obtain⟨_,⟨_,J⟩|⟨_,_,_,_,J⟩⟩:=T<;>exact J.elim
  . obtain⟨_,⟨hd,J⟩|⟨g,cap,j,hd,J⟩⟩:=T
    . rw[hd];obtain⟨r,O,Y⟩:=Ky J;exact⟨_,Y,.inl ⟨_,rfl,O⟩⟩
    . rw[hd];exact leave none g cap j J
  . obtain⟨_,⟨hd,J⟩|⟨g,cap,j,hd,J⟩⟩:=T
    . rw[hd];unfold finQ at J;split at J
      . grind
      . grind
      . rename_i v he;cases he;exact .inr ⟨_,rfl,J⟩
      grind
    . rw[hd];unfold finD at J;split at J
      . grind
      . grind
      . rename_i v he;cases he;refine leave (some v) g cap j ?_;have:(λ(b:Bool) (y:World)=>match b with
          | true=>evRes P fn.results.toList (EZ a') y λl=>K (resV l) y
          | false=>Kp v y)=λ(b:Bool) (y:World)=>match some v,b with
          | some v,false=>Kp v y
          | _,_=>evRes P fn.results.toList (EZ a') y λl=>K (resV l) y:=by grind
        grind
      grind
def Ends.mono{K Kp j:Value->World->Prop}{e:Ending}{w:World}(h:Ends K Kp e w)(hp: ∀v w,Kp v w->j v w):Ends K j e w:=by
  rcases h with h|⟨v,h1,h2⟩
  . exact .inl h
  . exact .inr ⟨v,h1,hp _ _ h2⟩
def Qf{P:Program}{T:List (Nat×Entry)}{TD:List (Nat×NO)}{A:Tj}{f:FuncId}{fn:Func}{c:Code}{l:List VT}{F:KJ l->(Value->World->Prop)->World->Prop}
    (O: ∀p∈T,GB P p.1 p.2)(y: ∀p∈TD,JL P p.1 p.2)(hm:P.follows .mixedOrders=true)(hf:P.funcs[f]? =some fn)(j: ∀args w,(callFunc f args).run P w= .ok (.enter f args) w)
    (hb:fn.body=some c)(J:Nat.ble l.length fn.ntmps=true)(Y:withinB fn.ntmps (written c)=true)
    (v: ∀x K w,F x K w=evD P (tabC T) (ground P) A (finQ P fn K Lp) (finD P fn (tabD TD) K Lp) c (JC (mkArgs l x)) w):
    MK P f λargs w K _=>unArgs l args.toList λx=>F x K w:=by
  intro args w K Kp h;obtain⟨x,hx,h2⟩:=Ij h;have ha:args=⟨mkArgs l x⟩:=Array.toList_inj.1 (by omega);subst ha;refine⟨λw=>j _ w,?_⟩;rw[v]at h2;exact(calls_of_evD (PI O) (ML P) (kV y) hm hf hb (by rw[JK];exact J) Y h2).mono λe w' hE=>hE.mono λ_ _ f=>f.elim
def GC(k:IntKind)(op:Nat)(a b:Int):Int:=
 k.wrap (match op with
  | 0=>BitVec.ofInt k.bits a&&&BitVec.ofInt k.bits b
  | 1=>BitVec.ofInt k.bits a|||BitVec.ofInt k.bits b
  | 2=>BitVec.ofInt k.bits a^^^BitVec.ofInt k.bits b
  | _=>BitVec.ofInt k.bits a&&& ~~~BitVec.ofInt k.bits b).toNat
def Xd{P:Program}{c:Entry}(j:c=λargs w K Kp=>unArgs [.one (.int .u64)] args.toList λx=>K (.float .f64 (Int.toNat x.1)) w):
  ∀args w K Kp,c args w K Kp-> ∃v,(Extern.MathFloatBits.float64frombits args).run P w= .ok v w/\K v w:=by
 subst j;intro args w K Kp h;obtain⟨x,y,h⟩:=Ij h;obtain rfl:args= #[.int .u64 x.1]:=Array.toList_inj.1 (by rw[y];rfl);exact⟨_,rfl,h⟩
def oJ(a b c:Int)(K:Int->Int->Prop):Prop:=(0<=a/\0<=b/\0<=c/\c<=1)/\K ((a+b+c) %18446744073709551616) ((a+b+c)/18446744073709551616)
def kZ{P:Program}{c:Entry}(O:c=λargs w K Kp=>unArgs [.one (.int .u64),.one (.int .u64),.one (.int .u64)] args.toList λx=>oJ x.1 x.2.1 x.2.2.1 λa b=>K (.tuple ⟨[.int .u64 a,.int .u64 b]⟩) w):
  ∀args w K Kp,c args w K Kp-> ∃v,(add64Entry args).run P w= .ok v w/\K v w:=by
 subst O;intro args w K Kp h;obtain⟨x,T,⟨h1,h2,j,y⟩,J⟩:=Ij h;clear h;obtain rfl:args= #[.int .u64 x.1,.int .u64 x.2.1,.int .u64 x.2.2.1]:=Array.toList_inj.1 (by rw[T];rfl);exact⟨_,run_add64 _ _ _ h1 h2 j y w,J⟩
end Go.Sh
